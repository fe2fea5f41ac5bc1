/- SHA-256 of the program: the sum is the document's. -/
import Derived.Test.YtjllaeceghmjgaaDoorShaC
namespace Go.Proofs.YtjllaeceghmjgaaDoor
set_option linter.unusedSimpArgs false
set_option linter.unusedVariables false
theorem drop_all (l : List UInt8) (k : Nat) (h : k ≤ l.length) : sub l (k : Int) ((l.length : Nat) : Int) = some (l.drop k) := by
  rw [sub_nat l h (Nat.le_refl _), List.take_length]
theorem prog_blocks2 (r1 r2) {h : List Int} (hh : h.length = 8) {en : List UInt8} {m : Nat} (he : en.length = 128) (hm : m ≤ 2) : ∀ (d k f : Nat), d = m - k → k ≤ m → d < f → L_digest_Sum_l87 r1 r2 ((64 * m : Nat) : Int) en f (fbS h en k) ((64 * k : Nat) : Int) = some (outS (fbS h en m) 32) := by
  intro d
  induction d with
  | zero =>
    intro k f hd hk hf
    obtain ⟨f, rfl⟩ : ∃ g, f = g + 1 := ⟨f - 1, by omega⟩
    have : k = m := by omega
    subst this
    show L_digest_Sum_b87 r1 r2 (L_digest_Sum_l87 r1 r2 ((64 * k : Nat) : Int) en f) ((64 * k : Nat) : Int) en (fbS h en k) ((64 * k : Nat) : Int) = _
    unfold L_digest_Sum_b87
    rw [show decide (((64 * k : Nat) : Int) < ((64 * k : Nat) : Int)) = false by simp, cond_false]
    exact out0 (prog_out _ _ _ (fbS_length hh en k) 32 0 fuel (by omega) (by omega) (by unfold fuel; omega))
  | succ d ih =>
    intro k f hd hk hf
    obtain ⟨f, rfl⟩ : ∃ g, f = g + 1 := ⟨f - 1, by omega⟩
    show L_digest_Sum_b87 r1 r2 (L_digest_Sum_l87 r1 r2 ((64 * m : Nat) : Int) en f) ((64 * m : Nat) : Int) en (fbS h en k) ((64 * k : Nat) : Int) = _
    unfold L_digest_Sum_b87
    have hl := fbS_length hh en k
    rw [show decide (((64 * k : Nat) : Int) < ((64 * m : Nat) : Int)) = true by simp; omega, cond_true, drop_all en (64 * k) (by omega), Option.bind_some, words_ok _ (by simp; omega), Option.bind_some, schS_length, show Nat.beq 64 64 = true from rfl]
    simp only [chk, Option.bind_some]
    rw [prog_behind hl (by simp; omega), Option.bind_some, blkL_length hl, show (((64 * k : Nat) : Int) + 64) = ((64 * (k + 1) : Nat) : Int) by omega, wrapn (by omega)]
    simp only [Nat.beq_refl, Option.bind_some]
    exact ih (k + 1) f (by omega) (by omega) (by omega)
/-- the end, with i bytes of its length -/
def endS (e1 : List UInt8) (n last i : Nat) : List UInt8 := e1.take (last - i) ++ lensN n i ++ e1.drop last
theorem endS_length {e1 : List UInt8} (he : e1.length = 128) {n last i : Nat} (hl : last ≤ 128) (hi : i ≤ last) : (endS e1 n last i).length = 128 := by
  simp [endS, lensN_length]
  omega
theorem endS_next {e1 : List UInt8} (he : e1.length = 128) {n last i : Nat} (hl : last ≤ 128) (hi : i < last) : (endS e1 n last i).set (last - 1 - i) (lenB n i) = endS e1 n last (i + 1) := by
  have h1 : (e1.take (last - i)).set (last - 1 - i) (lenB n i) = e1.take (last - (i + 1)) ++ [lenB n i] := by
    rw [show last - i = (last - 1 - i) + 1 by omega, List.take_add_one, show last - (i + 1) = last - 1 - i by omega]
    have hlt : last - 1 - i < e1.length := by omega
    rw [List.getElem?_eq_getElem hlt]
    rw [List.set_append_right _ _ (by simp; omega)]
    simp
    rw [show last - 1 - i - min (last - 1 - i) e1.length = 0 by omega]
    rfl
  unfold endS
  rw [List.append_assoc, List.set_append_left _ _ (by simp; omega), h1]
  simp [lensN]
theorem prog_lens (r1) (b : List UInt8) (hb : b.length ≤ 1073741824) {h : List Int} {e1 : List UInt8} (he : e1.length = 128) {last : Nat} (hl : last ≤ 128) (h8 : 8 ≤ last) {R : List UInt8} (hR : ∀ r2, L_digest_Sum_l87 r1 r2 (last : Int) (endS e1 b.length last 8) fuel h 0 = some R) :
    ∀ (d i f : Nat), d = 8 - i → i ≤ 8 → d < f → L_digest_Sum_l79 r1 b h (last : Int) f (endS e1 b.length last i) (i : Int) = some R := by
  intro d
  induction d with
  | zero =>
    intro i f hd hi hf
    obtain ⟨f, rfl⟩ : ∃ g, f = g + 1 := ⟨f - 1, by omega⟩
    have : i = 8 := by omega
    subst this
    show L_digest_Sum_b79 r1 (L_digest_Sum_l79 r1 b h (last : Int) f) b h (last : Int) (endS e1 b.length last 8) ((8 : Nat) : Int) = _
    unfold L_digest_Sum_b79
    rw [show decide (((8 : Nat) : Int) < 8) = false by decide, cond_false]
    exact hR _
  | succ d ih =>
    intro i f hd hi hf
    obtain ⟨f, rfl⟩ : ∃ g, f = g + 1 := ⟨f - 1, by omega⟩
    show L_digest_Sum_b79 r1 (L_digest_Sum_l79 r1 b h (last : Int) f) b h (last : Int) (endS e1 b.length last i) (i : Int) = _
    unfold L_digest_Sum_b79
    have hle := endS_length he (n := b.length) hl (show i ≤ last by omega)
    rw [show decide ((i : Int) < 8) = true by simp; omega, cond_true, lenB_prog hb (by omega), wrap64 (x := 8 * (i : Int)) (by omega), show decide (0 ≤ 8 * (i : Int)) = true from decide_eq_true (by omega), wrap64 (x := (last : Int) - 1) (by omega), show ((last : Int) - 1 - (i : Int)) = ((last - 1 - i : Nat) : Int) by omega, wrapn (by omega), idx_getD _ _ 0 (by omega), show ((i : Int) + 1) = ((i + 1 : Nat) : Int) by omega, wrapn (by omega)]
    simp only [chk, Option.bind_some, Int.toNat_natCast]
    rw [endS_next he hl (by omega)]
    exact ih (i + 1) f (by omega) (by omega) (by omega)
theorem prog_blocks1 (b : List UInt8) (hb : b.length ≤ 1073741824) {R : List UInt8} (hR : ∀ rec, L_digest_Sum_b45 rec b (fbS h0I b (b.length / 64)) ((64 * (b.length / 64) : Nat) : Int) = some R) :
    ∀ (d k f : Nat), d = b.length / 64 - k → k ≤ b.length / 64 → d < f → L_digest_Sum_l45 b f (fbS h0I b k) ((64 * k : Nat) : Int) = some R := by
  have hw : IntKind.wrap .i64 (IntKind.wrap .i64 (Int.tdiv ((b.length : Nat) : Int) 64) * 64) = ((64 * (b.length / 64) : Nat) : Int) := by
    have := tdiv_nat b.length 64
    rw [show ((64 : Nat) : Int) = 64 from rfl] at this
    rw [this, wrapn (by omega), show (((b.length / 64 : Nat) : Int) * 64) = ((64 * (b.length / 64) : Nat) : Int) by omega, wrapn (by omega)]
  intro d
  induction d with
  | zero =>
    intro k f hd hk hf
    obtain ⟨f, rfl⟩ : ∃ g, f = g + 1 := ⟨f - 1, by omega⟩
    have : k = b.length / 64 := by omega
    subst this
    exact hR _
  | succ d ih =>
    intro k f hd hk hf
    obtain ⟨f, rfl⟩ : ∃ g, f = g + 1 := ⟨f - 1, by omega⟩
    show L_digest_Sum_b45 (L_digest_Sum_l45 b f) b (fbS h0I b k) ((64 * k : Nat) : Int) = _
    unfold L_digest_Sum_b45
    have hl := fbS_length (h := h0I) rfl b k
    rw [hw, show decide (((64 * k : Nat) : Int) < ((64 * (b.length / 64) : Nat) : Int)) = true by simp; omega, cond_true, drop_all b (64 * k) (by omega), Option.bind_some, words_ok _ (by simp; omega), Option.bind_some, schS_length, show Nat.beq 64 64 = true from rfl]
    simp only [chk, Option.bind_some]
    rw [prog_behind hl (by simp; omega), Option.bind_some, blkL_length hl, show (((64 * k : Nat) : Int) + 64) = ((64 * (k + 1) : Nat) : Int) by omega, wrapn (by omega)]
    simp only [Nat.beq_refl, Option.bind_some]
    exact ih (k + 1) f (by omega) (by omega) (by omega)
theorem prog_sum (b : List UInt8) (hb : b.length ≤ 1073741824) : L_digest_Sum b = some (sumL b) := by
  unfold L_digest_Sum
  rw [show L_digest_beginning = some h0I from rfl, Option.bind_some, show Nat.beq (List.length h0I) 8 = true from rfl]
  simp only [chk, Option.bind_some]
  refine prog_blocks1 b hb (R := sumL b) (fun rec => ?_) (b.length / 64) 0 fuel (by omega) (by omega) (by unfold fuel; omega)
  have hw : IntKind.wrap .i64 (IntKind.wrap .i64 (Int.tdiv ((b.length : Nat) : Int) 64) * 64) = ((64 * (b.length / 64) : Nat) : Int) := by
    have := tdiv_nat b.length 64
    rw [show ((64 : Nat) : Int) = 64 from rfl] at this
    rw [this, wrapn (by omega), show (((b.length / 64 : Nat) : Int) * 64) = ((64 * (b.length / 64) : Nat) : Int) by omega, wrapn (by omega)]
  unfold L_digest_Sum_b45
  rw [hw, show decide (((64 * (b.length / 64) : Nat) : Int) < ((64 * (b.length / 64) : Nat) : Int)) = false by simp, cond_false, drop_all b (64 * (b.length / 64)) (by omega), Option.bind_some]
  obtain ⟨r, hr⟩ : ∃ r, b.drop (64 * (b.length / 64)) = r := ⟨_, rfl⟩
  have hrl : r.length = b.length % 64 := by rw [← hr]; simp; omega
  have hn64 : b.length % 64 < 64 := Nat.mod_lt _ (by omega)
  rw [hr, Option.bind_some]
  have hcpy : cpy (List.replicate 128 (0 : UInt8)) 0 (List.length (List.replicate 128 (0 : UInt8))) r = r ++ List.replicate (128 - r.length) 0 := by
    unfold cpy
    rw [List.take_zero, List.nil_append, List.length_replicate, List.take_of_length_le (by omega), List.drop_replicate, show 128 - (0 + min 128 r.length) = 128 - r.length by omega]
  rw [hcpy]
  have hmin : min ((r.length : Nat) : Int) ((List.length (List.replicate 128 (0 : UInt8)) : Nat) : Int) = ((b.length % 64 : Nat) : Int) := by rw [List.length_replicate, hrl]; omega
  rw [hmin, Int.toNat_natCast]
  have h128 : (r ++ List.replicate (128 - r.length) (0 : UInt8)).length = 128 := by simp; omega
  rw [idx_getD _ _ 0 (by rw [h128]; omega), Option.bind_some, Option.bind_some]
  obtain ⟨e1, he1⟩ : ∃ e1, (r ++ List.replicate (128 - r.length) (0 : UInt8)).set (b.length % 64) 128 = e1 := ⟨_, rfl⟩
  rw [he1]
  have he : e1.length = 128 := by rw [← he1, List.length_set, h128]
  have he1' : e1 = r ++ [128] ++ List.replicate (127 - r.length) 0 := by
    rw [← he1, ← hrl, List.set_append_right _ _ (Nat.le_refl _), Nat.sub_self, show 128 - r.length = (127 - r.length) + 1 by omega, List.replicate_succ]
    simp
  have e9 : IntKind.wrap .i64 (IntKind.wrap .i64 (((b.length % 64 : Nat) : Int) + 1) + 8) = ((b.length % 64 + 9 : Nat) : Int) := by
    rw [show (((b.length % 64 : Nat) : Int) + 1) = ((b.length % 64 + 1 : Nat) : Int) by omega, wrapn (by omega), show (((b.length % 64 + 1 : Nat) : Int) + 8) = ((b.length % 64 + 9 : Nat) : Int) by omega, wrapn (by omega)]
  rw [e9]
  have hz := zc_ok b.length
  have hfin : ∀ m, m ≤ 2 → 1 ≤ m → mB b.length = b.length / 64 + m → L_digest_Sum_k68 rec b (fbS h0I b (b.length / 64)) e1 ((64 * m : Nat) : Int) = some (sumL b) := by
    intro m hm h1 hmB
    have hzc : zc b.length = 64 * m - 9 - r.length := by have := hz.2.2; omega
    have hend : ∀ i, i < 64 * m → (endS e1 b.length (64 * m) 8).getD i 0 = ((padL b).drop (64 * (b.length / 64))).getD i 0 := by
      intro i hi
      have h1 : (padL b).drop (64 * (b.length / 64)) = r ++ [128] ++ List.replicate (zc b.length) 0 ++ lensN b.length 8 := by
        unfold padL
        rw [List.append_assoc, List.append_assoc, List.drop_append_of_le_length (by omega), hr]
        simp
      have h2 : endS e1 b.length (64 * m) 8 = (r ++ [128] ++ List.replicate (zc b.length) 0 ++ lensN b.length 8) ++ e1.drop (64 * m) := by
        have h3 : e1.take (64 * m - 8) = r ++ [128] ++ List.replicate (zc b.length) 0 := by
          rw [he1', List.take_append, List.take_of_length_le (by simp; omega), List.take_replicate]
          rw [show min (64 * m - 8 - (r ++ [(128 : UInt8)]).length) (127 - r.length) = zc b.length by simp; omega]
        unfold endS
        rw [h3]
      rw [h1, h2]
      simp only [List.getD]
      rw [List.getElem?_append_left (by simp [lensN_length]; omega)]
    unfold L_digest_Sum_k68
    have hE0 : e1 = endS e1 b.length (64 * m) 0 := by
      unfold endS
      simp [lensN]
    have := prog_lens rec b hb (h := fbS h0I b (b.length / 64)) he (last := 64 * m) (by omega) (by omega) (R := sumL b) (fun r2 => by
      have h3 := prog_blocks2 rec r2 (h := fbS h0I b (b.length / 64)) (fbS_length rfl b _) (m := m) (endS_length he (n := b.length) (last := 64 * m) (i := 8) (by omega) (by omega)) hm m 0 fuel (by omega) (by omega) (by unfold fuel; omega)
      have h4 : fbS (fbS h0I b (b.length / 64)) (endS e1 b.length (64 * m) 8) m = fbS h0I (padL b) (mB b.length) := by
        have h5 : fbS h0I b (b.length / 64) = fbS h0I (padL b) (b.length / 64) := by
          refine fbS_congr _ (fun i hi => ?_)
          unfold padL
          simp only [List.getD]
          rw [List.append_assoc, List.append_assoc, List.getElem?_append_left (by omega)]
        rw [hmB, fbS_add, fbS_congr m hend, h5]
      rw [h4] at h3
      exact h3) 8 0 fuel (by omega) (by omega) (by unfold fuel; omega)
    rw [← hE0] at this
    exact this
  by_cases h56 : b.length % 64 < 56
  · rw [show decide (((b.length % 64 + 9 : Nat) : Int) > 64) = false from decide_eq_false (by omega), cond_false]
    exact hfin 1 (by omega) (by omega) (by unfold mB; rw [if_pos h56])
  · rw [show decide (((b.length % 64 + 9 : Nat) : Int) > 64) = true from decide_eq_true (by omega), cond_true]
    exact hfin 2 (by omega) (by omega) (by unfold mB; rw [if_neg h56])
end Go.Proofs.YtjllaeceghmjgaaDoor
