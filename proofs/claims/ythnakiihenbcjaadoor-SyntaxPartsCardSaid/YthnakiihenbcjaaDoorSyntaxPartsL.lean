/- The plain law of SyntaxParts. -/
import Derived.Test.YthnakiihenbcjaaDoorLSyntaxParts
import Derived.Test.YthnakiihenbcjaaDoorSynHead
namespace Go.Proofs.YthnakiihenbcjaaDoor
set_option linter.unusedSimpArgs false
set_option linter.unusedVariables false
open Go.Lib (decDigits)
theorem idx_drop {z : List UInt8} {i : Nat} {x : UInt8} {r : List UInt8} (h : z.drop i = x :: r) : i < z.length ∧ idx z (i : Int) = some x ∧ z.drop (i + 1) = r := by
  have hi : i < z.length := by
    rcases Nat.lt_or_ge i z.length with h1 | h1
    · exact h1
    · rw [List.drop_of_length_le h1] at h; cases h
  rw [List.drop_eq_getElem_cons hi] at h
  injection h with h1 h2
  exact ⟨hi, by rw [idx_nat, List.getElem?_eq_getElem hi, h1], h2⟩
theorem parts_dot (a : Int) (z : List UInt8) (hz : z.length ≤ 100) (f i : Nat) (r : List UInt8) (dots n part : Nat) (h : z.drop i = 46 :: r) (hd : dots ≤ 100) (hp : 256 * n + part < 4294967296) :
    L_subwaylaw04_SyntaxParts_l5 a true z (f + 1) (dots : Int) (n : Int) (part : Int) (i : Int) = L_subwaylaw04_SyntaxParts_l5 a true z f ((dots + 1 : Nat) : Int) ((256 * n + part : Nat) : Int) 0 ((i + 1 : Nat) : Int) := by
  obtain ⟨hi, hx, _⟩ := idx_drop h
  show L_subwaylaw04_SyntaxParts_b5 (L_subwaylaw04_SyntaxParts_l5 a true z f) a true z _ _ _ _ = _
  unfold L_subwaylaw04_SyntaxParts_b5 L_subwaylaw04_SyntaxParts_k11
  rw [show decide ((i : Int) < ((List.length z : Nat) : Int)) = true by simp; omega, hx]
  have w1 : IntKind.wrap .i64 ((dots : Int) + 1) = ((dots + 1 : Nat) : Int) := by rw [wrap64 (by omega)]; omega
  have w2 : IntKind.wrap .u32 (IntKind.wrap .u32 (256 * (n : Int)) + (part : Int)) = ((256 * n + part : Nat) : Int) := by rw [wrap32u, wrap32u]; omega
  have w4 : IntKind.wrap .i64 ((i : Int) + 1) = ((i + 1 : Nat) : Int) := by rw [wrap64 (by omega)]; omega
  simp only [cond_true, Option.bind_some, w1, w2, w4]
  rfl
theorem parts_dig (a : Int) (z : List UInt8) (hz : z.length ≤ 100) (f i : Nat) (x : UInt8) (r : List UInt8) (dots n part : Nat) (h : z.drop i = x :: r) (hx : isDig x = true) (hp : 10 * part + (x.toNat - 48) ≤ 255) :
    L_subwaylaw04_SyntaxParts_l5 a true z (f + 1) (dots : Int) (n : Int) (part : Int) (i : Int) = L_subwaylaw04_SyntaxParts_l5 a true z f (dots : Int) (n : Int) ((10 * part + (x.toNat - 48) : Nat) : Int) ((i + 1 : Nat) : Int) := by
  obtain ⟨hi, hx1, _⟩ := idx_drop h
  unfold isDig at hx
  simp only [Bool.and_eq_true, decide_eq_true_eq] at hx
  show L_subwaylaw04_SyntaxParts_b5 (L_subwaylaw04_SyntaxParts_l5 a true z f) a true z _ _ _ _ = _
  unfold L_subwaylaw04_SyntaxParts_b5 L_subwaylaw04_SyntaxParts_k12 L_subwaylaw04_SyntaxParts_k11
  rw [show decide ((i : Int) < ((List.length z : Nat) : Int)) = true by simp; omega, hx1]
  have w4 : IntKind.wrap .i64 ((i : Int) + 1) = ((i + 1 : Nat) : Int) := by rw [wrap64 (by omega)]; omega
  have w2 : IntKind.wrap .u32 (IntKind.wrap .u32 (10 * (part : Int)) + IntKind.wrap .u32 (IntKind.wrap .u8 ((x.toNat : Int) - 48))) = ((10 * part + (x.toNat - 48) : Nat) : Int) := by
    have := u8_lt x
    rw [wrap8_small (by omega), wrap32u, wrap32u, wrap32u]; omega
  have h46 : (((x.toNat : Nat) : Int) == 46) = false := by rw [beq_eq_false_iff_ne]; omega
  simp only [cond_true, Option.bind_some, w2, w4, h46, cond_false]
  rw [show decide (((x.toNat : Nat) : Int) < 48) = false by simp; omega, show decide (((x.toNat : Nat) : Int) > 57) = false by simp; omega, show decide (((10 * part + (x.toNat - 48) : Nat) : Int) > 255) = false by simp only [decide_eq_false_iff_not]; omega]
  rfl
theorem fold_mono (ds : List UInt8) : ∀ p : Nat, p ≤ ds.foldl (fun a c => 10 * a + (c.toNat - 48)) p := by
  induction ds with
  | nil => intro p; exact Nat.le_refl _
  | cons x r ih => intro p; rw [List.foldl_cons]; exact Nat.le_trans (by omega) (ih _)
theorem parts_digs (a : Int) (z : List UInt8) (hz : z.length ≤ 100) (dots n : Nat) (f : Nat) (r : List UInt8) : ∀ (ds : List UInt8) (i part : Nat), z.drop i = ds ++ r → ds.all isDig = true → ds.foldl (fun a c => 10 * a + (c.toNat - 48)) part ≤ 255 →
    L_subwaylaw04_SyntaxParts_l5 a true z (f + ds.length) (dots : Int) (n : Int) (part : Int) (i : Int) = L_subwaylaw04_SyntaxParts_l5 a true z f (dots : Int) (n : Int) ((ds.foldl (fun a c => 10 * a + (c.toNat - 48)) part : Nat) : Int) ((i + ds.length : Nat) : Int)
  | [], i, part, _, _, _ => rfl
  | x :: ds, i, part, h, hd, hv => by
    rw [List.all_cons, Bool.and_eq_true] at hd
    rw [List.foldl_cons] at hv
    have hp := fold_mono ds (10 * part + (x.toNat - 48))
    rw [List.length_cons, ← Nat.add_assoc, parts_dig a z hz (f + ds.length) i x (ds ++ r) dots n part h hd.1 (by omega), parts_digs a z hz dots n f r ds (i + 1) _ (idx_drop h).2.2 hd.2 hv, List.foldl_cons]
    rw [show i + 1 + ds.length = i + (ds.length + 1) by omega]
theorem parts_num (a : Int) (z : List UInt8) (hz : z.length ≤ 100) (dots n : Nat) (f d i : Nat) (r : List UInt8) (h : z.drop i = decDigits d ++ r) (hd : d ≤ 255) :
    L_subwaylaw04_SyntaxParts_l5 a true z (f + (decDigits d).length) (dots : Int) (n : Int) 0 (i : Int) = L_subwaylaw04_SyntaxParts_l5 a true z f (dots : Int) (n : Int) (d : Int) ((i + (decDigits d).length : Nat) : Int) := by
  have e := dval_dec d
  unfold dval at e
  have := parts_digs a z hz dots n f r (decDigits d) i 0 h (dec_all d) (by rw [e]; exact hd)
  rw [e] at this
  exact this
theorem drop_app {z x r : List UInt8} {i : Nat} (h : z.drop i = x ++ r) : z.drop (i + x.length) = r := by
  rw [← List.drop_drop, h, List.drop_left' rfl]
theorem syntaxParts_true (a : Int) (ha : 0 ≤ a ∧ a < 4294967296) : L_subwaylaw04_SyntaxParts a = some true := by
  obtain ⟨a, rfl⟩ := Int.eq_ofNat_of_zero_le ha.1
  have ha : a < 4294967296 := by omega
  unfold L_subwaylaw04_SyntaxParts
  rw [synHead_true, lDots a ha]
  simp only [Option.bind_some]
  have hz := dotsL_len a
  have hz0 : (dotsL a).drop 0 = decDigits (a / 16777216 % 256) ++ 46 :: (decDigits (a / 65536 % 256) ++ 46 :: (decDigits (a / 256 % 256) ++ 46 :: decDigits (a % 256))) := rfl
  generalize dotsL a = z at hz hz0 ⊢
  have l3 := dec_len3 (n := a / 16777216 % 256) (by omega)
  have l2 := dec_len3 (n := a / 65536 % 256) (by omega)
  have l1 := dec_len3 (n := a / 256 % 256) (by omega)
  have l0 := dec_len3 (n := a % 256) (by omega)
  obtain ⟨f, hf⟩ : ∃ f, fuel = f + 1 + (decDigits (a % 256)).length + 1 + (decDigits (a / 256 % 256)).length + 1 + (decDigits (a / 65536 % 256)).length + 1 + (decDigits (a / 16777216 % 256)).length :=
    ⟨fuel - (1 + (decDigits (a % 256)).length + 1 + (decDigits (a / 256 % 256)).length + 1 + (decDigits (a / 65536 % 256)).length + 1 + (decDigits (a / 16777216 % 256)).length), by rw [fuel_eq]; omega⟩
  rw [hf]
  have zero : (0 : Int) = ((0 : Nat) : Int) := rfl
  have h1 := drop_app hz0
  have h2 := (idx_drop h1).2.2
  have h3 := drop_app h2
  have h4 := (idx_drop h3).2.2
  have h5 := drop_app h4
  have h6 := (idx_drop h5).2.2
  have h7 := h6.trans (List.append_nil (decDigits (a % 256))).symm
  have h8 := drop_app h7
  have t0 := parts_num (a : Int) z (by omega) 0 0 (f + 1 + (decDigits (a % 256)).length + 1 + (decDigits (a / 256 % 256)).length + 1 + (decDigits (a / 65536 % 256)).length + 1) (a / 16777216 % 256) 0 _ hz0 (by omega)
  have t1 := parts_dot (a : Int) z (by omega) (f + 1 + (decDigits (a % 256)).length + 1 + (decDigits (a / 256 % 256)).length + 1 + (decDigits (a / 65536 % 256)).length) _ _ 0 0 (a / 16777216 % 256) h1 (by omega) (by omega)
  have t2 := parts_num (a : Int) z (by omega) (0 + 1) (256 * 0 + a / 16777216 % 256) (f + 1 + (decDigits (a % 256)).length + 1 + (decDigits (a / 256 % 256)).length + 1) (a / 65536 % 256) _ _ h2 (by omega)
  have t3 := parts_dot (a : Int) z (by omega) (f + 1 + (decDigits (a % 256)).length + 1 + (decDigits (a / 256 % 256)).length) _ _ (0 + 1) (256 * 0 + a / 16777216 % 256) (a / 65536 % 256) h3 (by omega) (by omega)
  have t4 := parts_num (a : Int) z (by omega) (0 + 1 + 1) (256 * (256 * 0 + a / 16777216 % 256) + a / 65536 % 256) (f + 1 + (decDigits (a % 256)).length + 1) (a / 256 % 256) _ _ h4 (by omega)
  have t5 := parts_dot (a : Int) z (by omega) (f + 1 + (decDigits (a % 256)).length) _ _ (0 + 1 + 1) (256 * (256 * 0 + a / 16777216 % 256) + a / 65536 % 256) (a / 256 % 256) h5 (by omega) (by omega)
  have t6 := parts_num (a : Int) z (by omega) (0 + 1 + 1 + 1) (256 * (256 * (256 * 0 + a / 16777216 % 256) + a / 65536 % 256) + a / 256 % 256) (f + 1) (a % 256) _ _ h7 (by omega)
  refine t0.trans (t1.trans (t2.trans (t3.trans (t4.trans (t5.trans (t6.trans ?_))))))
  have hend : z.length ≤ (0 + (decDigits (a / 16777216 % 256)).length + 1 + (decDigits (a / 65536 % 256)).length + 1 + (decDigits (a / 256 % 256)).length + 1 + (decDigits (a % 256)).length) := List.drop_eq_nil_iff.1 h8
  show L_subwaylaw04_SyntaxParts_b5 (L_subwaylaw04_SyntaxParts_l5 (a : Int) true z f) (a : Int) true z _ _ _ _ = _
  unfold L_subwaylaw04_SyntaxParts_b5 L_subwaylaw04_SyntaxParts_k13
  rw [show decide (((0 + (decDigits (a / 16777216 % 256)).length + 1 + (decDigits (a / 65536 % 256)).length + 1 + (decDigits (a / 256 % 256)).length + 1 + (decDigits (a % 256)).length : Nat) : Int) < ((List.length z : Nat) : Int)) = false by simp only [decide_eq_false_iff_not]; omega]
  rw [show IntKind.wrap .u32 (IntKind.wrap .u32 (256 * ((256 * (256 * (256 * 0 + a / 16777216 % 256) + a / 65536 % 256) + a / 256 % 256 : Nat) : Int)) + ((a % 256 : Nat) : Int)) = (a : Int) by rw [wrap32u, wrap32u]; omega]
  simp
end Go.Proofs.YthnakiihenbcjaaDoor
