/- The plain law of WireBack: what the lifted law computes is true. -/
import Derived.Test.YtjpchjbbfbmjgaaLWireBack
import Derived.Test.YtjpchjbbfbmjgaaWireLaw
namespace Go.Proofs.Ytjpchjbbfbmjgaa
set_option linter.unusedSimpArgs false
set_option linter.unusedVariables false
theorem wireHead_true : L_subwaylaw05_head = some true := by decide +kernel
theorem bs_toList (a : ByteArray) : bs a.data.toList = a := rfl
theorem bs_data (l : List UInt8) : (bs l).data.toList = l := rfl
theorem bs_inj {a b : List UInt8} (h : bs a = bs b) : a = b := by
  have := congrArg (fun x : ByteArray => x.data.toList) h
  exact this
theorem right_sizes {k n m : Int} {a b : ByteArray} (h : rightB k a b n m = true) : a.size ≤ 64 ∧ b.size ≤ 64 := by
  have := right_parts h
  omega
theorem size_toList (a : ByteArray) : a.data.toList.length = a.size := by rw [Array.length_toList]; rfl
theorem lRight {k n m : Int} {a b : List UInt8} (ha : a.length ≤ maxLen) (hb : b.length ≤ maxLen) : L_wire_Right k a b n m = some (rightB k (bs a) (bs b) n m) := by
  unfold L_wire_Right smallB
  rw [Nat.ble_eq_true_of_le ha, Nat.ble_eq_true_of_le hb]
  rfl
theorem lPut {k n m : Int} {a b : List UInt8} (ha : a.length ≤ maxLen) (hb : b.length ≤ maxLen) : L_wire_Put k a b n m = some (wputL k (bs a) (bs b) n m) := by
  unfold L_wire_Put smallB
  rw [Nat.ble_eq_true_of_le ha, Nat.ble_eq_true_of_le hb]
  rfl
theorem wput_not {k n m : Int} {a b : ByteArray} (h : rightB k a b n m = false) : wputL k a b n m = [] := by
  unfold wputL
  rw [h]
  rfl
theorem back_k4 (l : List UInt8) : L_subwaylaw05_WireBack_k4 l true = some true := by
  unfold L_subwaylaw05_WireBack_k4 L_wire_Get
  simp only [Option.bind_some]
  cases hw : wgetL l with
  | none => rfl
  | some M =>
    obtain ⟨h1, h2⟩ := put_wget hw
    obtain ⟨s1, s2⟩ := right_sizes h1
    have la : M.a.data.toList.length ≤ maxLen := by rw [size_toList]; unfold maxLen; omega
    have lb : M.b.data.toList.length ≤ maxLen := by rw [size_toList]; unfold maxLen; omega
    simp only [msgD, Bool.not_true, cond_false, cond_true, lRight la lb, lPut la lb, bs_toList, h1, h2, Option.bind_some, beq_self_eq_true]
    rfl
theorem tmod_bounds {x n : Int} (h : 0 ≤ x) (hn : 0 < n) : 0 ≤ Int.tmod x n ∧ Int.tmod x n < n := by
  rw [Int.tmod_eq_emod_of_nonneg h]
  exact ⟨Int.emod_nonneg _ (by omega), Int.emod_lt_of_pos _ hn⟩
theorem wrap_small {x : Int} (h : 0 ≤ x) (h' : x < 9223372036854775808) : IntKind.wrap .i64 x = x := IntWalk.i64_in _ (by omega)
theorem wireBack_true (k : Int) (a b : List UInt8) (n m : Int) (l : List UInt8) (cut : Int) (more : UInt8) (ha : a.length ≤ maxLen) (hb : b.length ≤ maxLen) (hc : 0 ≤ cut ∧ cut < 65536) :
    L_subwaylaw05_WireBack k a b n m l cut more = some true := by
  have main : L_subwaylaw05_WireBack_k1 k a b n m l cut more true false = some true := by
    unfold L_subwaylaw05_WireBack_k1
    simp only [cond_false, lPut ha hb, lRight ha hb, Option.bind_some]
    cases hr : rightB k (bs a) (bs b) n m with
    | false =>
      rw [wput_not hr]
      simp only [L_subwaylaw05_WireBack_k2, List.length_nil, back_k4]
      rfl
    | true =>
      obtain ⟨r, e, hl, _⟩ := wput_cons hr
      have hg := wget_put hr []
      rw [List.append_nil, if_pos rfl] at hg
      have hcut := wget_cut hr
      have hlong := wget_long hr more
      have hlen : (wputL k (bs a) (bs b) n m).length = r.length + 1 := by rw [e]; rfl
      generalize hL : wputL k (bs a) (bs b) n m = L at *
      have d1 : decide (((List.length L : Nat) : Int) > 0) = true := by simp; omega
      have d2 : decide (((List.length L : Nat) : Int) > 200) = false := by simp; omega
      have d3 : (((List.length L : Nat) : Int) == 0) = false := by rw [beq_eq_false_iff_ne]; omega
      have t := tmod_bounds (x := cut) (n := ((List.length L : Nat) : Int)) hc.1 (by omega)
      have hj : (Int.tmod cut ((List.length L : Nat) : Int)).toNat < L.length := by
        obtain ⟨t1, t2⟩ := t
        generalize Int.tmod cut ((List.length L : Nat) : Int) = q at t1 t2 ⊢
        omega
      have hs : sub L 0 (Int.tmod (IntKind.wrap .i64 cut) ((List.length L : Nat) : Int)) = some (L.take (Int.tmod cut ((List.length L : Nat) : Int)).toNat) := by
        rw [wrap_small hc.1 (by omega)]
        unfold sub
        rw [if_pos ⟨Int.le_refl 0, t.1, Int.le_of_lt t.2⟩]
        rfl
      have a1 : app ([] : List UInt8) L = some L := by
        unfold app
        rw [if_pos (by simp only [List.length_nil]; omega)]
        rfl
      have a2 : app L [more] = some (L ++ [more]) := by
        unfold app
        rw [if_pos (by simp only [List.length_cons, List.length_nil]; omega)]
      simp only [d1, d2, d3, hs, a1, a2, L_subwaylaw05_WireBack_k2, L_wire_Get, hg, hcut _ hj, hlong, msgD, chk, Option.bind_some, cond_false, cond_true, Bool.not_false, Bool.not_true, beq_self_eq_true, Bool.and_self, L_subwaylaw05_WireBack_k7, back_k4, bs_data]
  unfold L_subwaylaw05_WireBack L_subwaylaw05_Great
  simp only [wireHead_true, Option.bind_some]
  cases decide (IntKind.wrap .i64 (((List.length a : Nat) : Int) + ((List.length b : Nat) : Int)) > 9000) with
  | true => rfl
  | false =>
    simp only [cond_false]
    cases decide (((List.length l : Nat) : Int) > 9000) with
    | true => rfl
    | false => exact main
end Go.Proofs.Ytjpchjbbfbmjgaa
