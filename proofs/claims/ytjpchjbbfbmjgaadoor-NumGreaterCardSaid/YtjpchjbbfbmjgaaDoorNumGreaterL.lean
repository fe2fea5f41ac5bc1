/- The plain law of NumGreater: what the lifted law computes is true. -/
import Derived.Test.YtjpchjbbfbmjgaaDoorLNumGreater
import Derived.Test.YtjpchjbbfbmjgaaDoorNumHead
namespace Go.Proofs.YtjpchjbbfbmjgaaDoor
set_option linter.unusedSimpArgs false
set_option linter.unusedVariables false
open Go.Lib (decDigits)
theorem modMax (a : Nat) : IntKind.wrap .i64 (Int.tmod (a : Int) 1099511627777) = ((a % 1099511627777 : Nat) : Int) := by
  have := tmod_nat a 1099511627777
  rw [show ((1099511627777 : Nat) : Int) = 1099511627777 from rfl] at this
  rw [this]
  exact wrap64 (by omega)
/-- the law's own order of two texts -/
theorem order_bool {x y : List UInt8} {P : Prop} [Decidable P] (h : LessD x y ↔ P) {α : Type} (K : Bool → α) :
    cond (decide (((List.length x : Nat) : Int) < ((List.length y : Nat) : Int))) (K true) (cond (((List.length x : Nat) : Int) == ((List.length y : Nat) : Int)) (K (Op.bytesLess x y)) (K false)) = K (decide P) := by
  unfold LessD at h
  by_cases h1 : x.length < y.length
  · rw [show decide (((List.length x : Nat) : Int) < ((List.length y : Nat) : Int)) = true by simp; omega, decide_eq_true (h.1 (.inl h1))]
    rfl
  · rw [show decide (((List.length x : Nat) : Int) < ((List.length y : Nat) : Int)) = false by simp; omega]
    by_cases h2 : x.length = y.length
    · rw [h2, beq_self_eq_true]
      cases hb : Op.bytesLess x y with
      | true => rw [decide_eq_true (h.1 (.inr ⟨h2, hb⟩))]; rfl
      | false =>
        rw [decide_eq_false fun hp => by
          rcases h.2 hp with h3 | ⟨_, h3⟩
          · omega
          · rw [hb] at h3; cases h3]
        rfl
    · rw [show (((List.length x : Nat) : Int) == ((List.length y : Nat) : Int)) = false by rw [beq_eq_false_iff_ne]; omega, decide_eq_false fun hp => by
        rcases h.2 hp with h3 | ⟨h3, _⟩
        · omega
        · exact h2 h3]
      rfl
theorem numGreater_true (a b : Int) (ha : 0 ≤ a) (hb : 0 ≤ b) : L_subwaylaw01_NumGreater a b = some true := by
  obtain ⟨x, rfl⟩ := Int.eq_ofNat_of_zero_le ha
  obtain ⟨y, rfl⟩ := Int.eq_ofNat_of_zero_le hb
  have hx : x % 1099511627777 ≤ maxNum := by unfold maxNum; omega
  have hy : y % 1099511627777 ≤ maxNum := by unfold maxNum; omega
  have o1 := put_order hx hy
  have o2 := dec_order (x % 1099511627777) (y % 1099511627777)
  have p1 : putL ((x % 1099511627777 : Nat) : Int) = putN (x % 1099511627777) := by unfold putL; rw [if_pos (by omega), Int.toNat_natCast]
  have p2 : putL ((y % 1099511627777 : Nat) : Int) = putN (y % 1099511627777) := by unfold putL; rw [if_pos (by omega), Int.toNat_natCast]
  have d1 : decL ((x % 1099511627777 : Nat) : Int) = decDigits (x % 1099511627777) := by unfold decL; rw [if_pos (by omega), Int.toNat_natCast]
  have d2 : decL ((y % 1099511627777 : Nat) : Int) = decDigits (y % 1099511627777) := by unfold decL; rw [if_pos (by omega), Int.toNat_natCast]
  unfold L_subwaylaw01_NumGreater L_num_Put
  rw [numHead_true]
  simp only [Option.bind_some, modMax, p1, p2, d1, d2, lDecimal]
  have e : decide (((x % 1099511627777 : Nat) : Int) < ((y % 1099511627777 : Nat) : Int)) = decide (x % 1099511627777 < y % 1099511627777) := by rw [decide_eq_decide]; omega
  refine (order_bool o1 (fun v => L_subwaylaw01_NumGreater_k1 ((x : Nat) : Int) ((y : Nat) : Int) true (Lib.decDigits (x % 1099511627777)) (Lib.decDigits (y % 1099511627777)) v)).trans ?_
  refine (order_bool o2 (fun v => L_subwaylaw01_NumGreater_k2 ((x : Nat) : Int) ((y : Nat) : Int) true (decide (x % 1099511627777 < y % 1099511627777)) v)).trans ?_
  show L_subwaylaw01_NumGreater_k2 _ _ _ _ _ = _
  unfold L_subwaylaw01_NumGreater_k2
  rw [modMax, modMax, e, beq_self_eq_true]
  rfl
end Go.Proofs.YtjpchjbbfbmjgaaDoor
