/- SHA-256, of the program and of the document: sums. -/
import Derived.Test.YtjllaeceghmjgaaDoorShaB
namespace Go.Proofs.YtjllaeceghmjgaaDoor
set_option linter.unusedSimpArgs false
set_option linter.unusedVariables false
def h0I : List Int := [1779033703, 3144134277, 1013904242, 2773480762, 1359893119, 2600822924, 528734635, 1541459225]
def fbS (h : List Int) (l : List UInt8) : Nat → List Int
  | 0 => h
  | k + 1 => blkL (fbS h l k) (l.drop (64 * k))
theorem fbS_length {h : List Int} (hh : h.length = 8) (l : List UInt8) : ∀ k, (fbS h l k).length = 8
  | 0 => hh
  | k + 1 => blkL_length (fbS_length hh l k) _
theorem getD_drop (l : List UInt8) (k i : Nat) : (l.drop k).getD i 0 = l.getD (k + i) 0 := by simp [List.getD]
theorem fbS_congr {h : List Int} {l l' : List UInt8} : ∀ m, (∀ i, i < 64 * m → l.getD i 0 = l'.getD i 0) → fbS h l m = fbS h l' m
  | 0, _ => rfl
  | m + 1, hc => by
    simp only [fbS]
    rw [fbS_congr m (fun i hi => hc i (by omega))]
    exact blkL_congr (fun i hi => by rw [getD_drop, getD_drop]; exact hc _ (by omega)) _
theorem fbS_add (h : List Int) (l : List UInt8) (k : Nat) : ∀ q, fbS h l (k + q) = fbS (fbS h l k) (l.drop (64 * k)) q
  | 0 => rfl
  | q + 1 => by
    show blkL (fbS h l (k + q)) (l.drop (64 * (k + q))) = blkL (fbS (fbS h l k) (l.drop (64 * k)) q) ((l.drop (64 * k)).drop (64 * q))
    rw [fbS_add h l k q, List.drop_drop, show 64 * k + 64 * q = 64 * (k + q) by omega]
def outB (h : List Int) (i : Nat) : UInt8 := toU8 (IntKind.wrap .u8 (bShr .u32 (h.getD (i / 4) 0) ((24 - 8 * (i % 4) : Nat) : Int)))
def outS (h : List Int) : Nat → List UInt8
  | 0 => List.replicate 32 0
  | i + 1 => (outS h i).set i (outB h i)
theorem outS_length (h : List Int) : ∀ i, (outS h i).length = 32
  | 0 => by simp [outS]
  | i + 1 => by simp [outS, outS_length h i]
theorem div4 (i : Nat) (h : i < 1000) : IntKind.wrap .i64 (Int.tdiv (i : Int) 4) = ((i / 4 : Nat) : Int) := by
  have := tdiv_nat i 4
  rw [show ((4 : Nat) : Int) = 4 from rfl] at this
  rw [this, wrapn (by omega)]
theorem mod4 (i : Nat) : Int.tmod (i : Int) 4 = ((i % 4 : Nat) : Int) := by
  have := tmod_nat i 4
  rw [show ((4 : Nat) : Int) = 4 from rfl] at this
  exact this
theorem shift_ref (i : Nat) : IntKind.wrap .i64 (24 - IntKind.wrap .i64 (8 * Int.tmod (i : Int) 4)) = ((24 - 8 * (i % 4) : Nat) : Int) := by
  have h4 : i % 4 < 4 := Nat.mod_lt _ (by omega)
  rw [mod4, show (8 * ((i % 4 : Nat) : Int)) = ((8 * (i % 4) : Nat) : Int) by omega, wrapn (by omega), show (24 - ((8 * (i % 4) : Nat) : Int)) = ((24 - 8 * (i % 4) : Nat) : Int) by omega, wrapn (by omega)]
theorem shift_prog (i : Nat) : IntKind.wrap .i64 (24 - IntKind.wrap .i64 (Int.tmod (i : Int) 4 * 8)) = ((24 - 8 * (i % 4) : Nat) : Int) := by rw [Int.mul_comm]; exact shift_ref i
theorem ref_out (r1 r2 r3) {h : List Int} (hh : h.length = 8) : ∀ (d i f : Nat), d = 32 - i → i ≤ 32 → d < f → L_subwayref02_Sum_l85 r1 r2 r3 h f (outS h i) (i : Int) = some (outS h 32) := by
  intro d
  induction d with
  | zero =>
    intro i f hd hi hf
    obtain ⟨f, rfl⟩ : ∃ g, f = g + 1 := ⟨f - 1, by omega⟩
    have : i = 32 := by omega
    subst this
    show L_subwayref02_Sum_b85 r1 r2 r3 (L_subwayref02_Sum_l85 r1 r2 r3 h f) h (outS h 32) ((32 : Nat) : Int) = _
    unfold L_subwayref02_Sum_b85
    rw [show decide (((32 : Nat) : Int) < 32) = false by decide, cond_false]
  | succ d ih =>
    intro i f hd hi hf
    obtain ⟨f, rfl⟩ : ∃ g, f = g + 1 := ⟨f - 1, by omega⟩
    show L_subwayref02_Sum_b85 r1 r2 r3 (L_subwayref02_Sum_l85 r1 r2 r3 h f) h (outS h i) (i : Int) = _
    unfold L_subwayref02_Sum_b85
    have hl := outS_length h i
    rw [show decide ((i : Int) < 32) = true by simp; omega, cond_true, div4 i (by omega), idx_getD h (i / 4) 0 (by omega), Option.bind_some, shift_ref, show decide (0 ≤ ((24 - 8 * (i % 4) : Nat) : Int)) = true from decide_eq_true (by omega), idx_getD (outS h i) i 0 (by omega), show ((i : Int) + 1) = ((i + 1 : Nat) : Int) by omega, wrapn (by omega)]
    simp only [chk, Option.bind_some, Int.toNat_natCast]
    exact ih (i + 1) f (by omega) (by omega) (by omega)
theorem prog_out (r1 r2 r3) {h : List Int} (hh : h.length = 8) : ∀ (d i f : Nat), d = 32 - i → i ≤ 32 → d < f → L_digest_Sum_l89 r1 r2 r3 h f (outS h i) (i : Int) = some (outS h 32) := by
  intro d
  induction d with
  | zero =>
    intro i f hd hi hf
    obtain ⟨f, rfl⟩ : ∃ g, f = g + 1 := ⟨f - 1, by omega⟩
    have : i = 32 := by omega
    subst this
    show L_digest_Sum_b89 r1 r2 r3 (L_digest_Sum_l89 r1 r2 r3 h f) h (outS h 32) ((32 : Nat) : Int) = _
    unfold L_digest_Sum_b89
    rw [show decide (((32 : Nat) : Int) < 32) = false by decide, cond_false]
  | succ d ih =>
    intro i f hd hi hf
    obtain ⟨f, rfl⟩ : ∃ g, f = g + 1 := ⟨f - 1, by omega⟩
    show L_digest_Sum_b89 r1 r2 r3 (L_digest_Sum_l89 r1 r2 r3 h f) h (outS h i) (i : Int) = _
    unfold L_digest_Sum_b89
    have hl := outS_length h i
    rw [show decide ((i : Int) < 32) = true by simp; omega, cond_true, div4 i (by omega), idx_getD h (i / 4) 0 (by omega), Option.bind_some, shift_prog, show decide (0 ≤ ((24 - 8 * (i % 4) : Nat) : Int)) = true from decide_eq_true (by omega), idx_getD (outS h i) i 0 (by omega), show ((i : Int) + 1) = ((i + 1 : Nat) : Int) by omega, wrapn (by omega)]
    simp only [chk, Option.bind_some, Int.toNat_natCast]
    exact ih (i + 1) f (by omega) (by omega) (by omega)
theorem out0 {F : List UInt8 → Int → Option (List UInt8)} {h : List Int} (hF : F (outS h 0) ((0 : Nat) : Int) = some (outS h 32)) : F (List.replicate 32 0) 0 = some (outS h 32) := hF
/-! lengths -/
def lenB (n i : Nat) : UInt8 := UInt8.ofNat (8 * n / 2 ^ (8 * i))
def lensN (n : Nat) : Nat → List UInt8
  | 0 => []
  | i + 1 => lenB n i :: lensN n i
theorem lensN_length (n : Nat) : ∀ i, (lensN n i).length = i
  | 0 => rfl
  | i + 1 => by simp [lensN, lensN_length n i]
theorem bShr_nat (k : IntKind) (a b : Nat) (hb : b ≤ k.bits) : bShr k (a : Int) (b : Int) = ((a / 2 ^ b : Nat) : Int) := by
  unfold bShr
  rw [Int.toNat_natCast, Nat.min_eq_left hb, Int.fdiv_eq_ediv_of_nonneg _ (by exact Int.le_of_lt (Int.pow_pos (by omega)))]
  have : ((2 : Int) ^ b) = ((2 ^ b : Nat) : Int) := by push_cast; rfl
  rw [this]
  rfl
theorem lenB_ref {n i : Nat} (hn : n ≤ 1073741824) (hi : i < 8) : toU8 (IntKind.wrap .u8 (bShr .i64 (IntKind.wrap .i64 (8 * ((n : Nat) : Int))) (IntKind.wrap .i64 (8 * (i : Int))))) = lenB n i := by
  rw [show (8 * ((n : Nat) : Int)) = ((8 * n : Nat) : Int) by omega, wrapn (by omega), show (8 * (i : Int)) = ((8 * i : Nat) : Int) by omega, wrapn (by omega), bShr_nat _ _ _ (by show 8 * i ≤ 64; omega), toU8_wrap]
  rfl
theorem wrapu {n : Nat} (h : n < 18446744073709551616) : IntKind.wrap .u64 (n : Int) = (n : Int) := by
  unfold IntKind.wrap
  simp only [IntKind.bits, IntKind.signed]
  simp
  omega
theorem lenB_prog {n i : Nat} (hn : n ≤ 1073741824) (hi : i < 8) : toU8 (IntKind.wrap .u8 (bShr .u64 (IntKind.wrap .u64 (IntKind.wrap .u64 ((n : Nat) : Int) * 8)) (IntKind.wrap .i64 (8 * (i : Int))))) = lenB n i := by
  rw [wrapu (by omega), show (((n : Nat) : Int) * 8) = ((8 * n : Nat) : Int) by omega, wrapu (by omega), show (8 * (i : Int)) = ((8 * i : Nat) : Int) by omega, wrapn (by omega), bShr_nat _ _ _ (by show 8 * i ≤ 64; omega), toU8_wrap]
  rfl
def sumH (l : List UInt8) (m : Nat) : List UInt8 := outS (fbS h0I l m) 32
theorem sumH_length (l : List UInt8) (m : Nat) : (sumH l m).length = 32 := outS_length _ _
/-! the document's -/
theorem ref_blocks (r1 r2) {all : List UInt8} {m : Nat} (ha : all.length = 64 * m) (hm : m ≤ 1073741824) : ∀ (d k f : Nat), d = m - k → k ≤ m → d < f → L_subwayref02_Sum_l83 r1 r2 all f (fbS h0I all k) ((64 * k : Nat) : Int) = some (sumH all m) := by
  intro d
  induction d with
  | zero =>
    intro k f hd hk hf
    obtain ⟨f, rfl⟩ : ∃ g, f = g + 1 := ⟨f - 1, by omega⟩
    have : k = m := by omega
    subst this
    show L_subwayref02_Sum_b83 r1 r2 (L_subwayref02_Sum_l83 r1 r2 all f) all (fbS h0I all k) ((64 * k : Nat) : Int) = _
    unfold L_subwayref02_Sum_b83
    rw [ha, show decide (((64 * k : Nat) : Int) < ((64 * k : Nat) : Int)) = false by simp, cond_false]
    exact out0 (ref_out _ _ _ (fbS_length rfl all k) 32 0 fuel (by omega) (by omega) (by unfold fuel; omega))
  | succ d ih =>
    intro k f hd hk hf
    obtain ⟨f, rfl⟩ : ∃ g, f = g + 1 := ⟨f - 1, by omega⟩
    show L_subwayref02_Sum_b83 r1 r2 (L_subwayref02_Sum_l83 r1 r2 all f) all (fbS h0I all k) ((64 * k : Nat) : Int) = _
    unfold L_subwayref02_Sum_b83
    have hlb : ((all.take (64 * k + 64)).drop (64 * k)).length = 64 := by simp; omega
    rw [ha, show decide (((64 * k : Nat) : Int) < ((64 * m : Nat) : Int)) = true by simp; omega, cond_true, show (((64 * k : Nat) : Int) + 64) = ((64 * k + 64 : Nat) : Int) by omega, wrapn (by omega), sub_nat all (by omega) (by omega), Option.bind_some, ref_block (fbS_length rfl all k) (by omega), Option.bind_some, blkL_length (fbS_length rfl all k)]
    rw [show blkL (fbS h0I all k) ((all.take (64 * k + 64)).drop (64 * k)) = fbS h0I all (k + 1) from blkL_congr (fun i hi => by
      rw [getD_drop, getD_drop]
      simp [List.getD, List.getElem?_take, show 64 * k + i < 64 * k + 64 by omega]) _]
    simp only [Nat.beq_refl, chk, Option.bind_some]
    exact ih (k + 1) f (by omega) (by omega) (by omega)
theorem ref_lens (r1) (b : List UInt8) (hb : b.length ≤ 1073741824) {R : List UInt8} : ∀ (i : Nat) (v : List UInt8) (f : Nat), i ≤ 8 → i < f → v.length + i ≤ 2147483648 → (∀ r2, L_subwayref02_Sum_l83 r1 r2 (v ++ lensN b.length i) fuel h0I 0 = some R) → L_subwayref02_Sum_l75 r1 b f v ((i : Int) - 1) = some R := by
  intro i
  induction i with
  | zero =>
    intro v f _ hf _ hR
    obtain ⟨f, rfl⟩ : ∃ g, f = g + 1 := ⟨f - 1, by omega⟩
    show L_subwayref02_Sum_b75 r1 (L_subwayref02_Sum_l75 r1 b f) b v (((0 : Nat) : Int) - 1) = _
    unfold L_subwayref02_Sum_b75
    rw [show decide ((((0 : Nat) : Int) - 1) ≥ 0) = false by decide, cond_false]
    have := hR (L_subwayref02_Sum_l75 r1 b f)
    rw [show lensN b.length 0 = [] from rfl, List.append_nil] at this
    exact this
  | succ i ih =>
    intro v f h8 hf hv hR
    obtain ⟨f, rfl⟩ : ∃ g, f = g + 1 := ⟨f - 1, by omega⟩
    show L_subwayref02_Sum_b75 r1 (L_subwayref02_Sum_l75 r1 b f) b v (((i + 1 : Nat) : Int) - 1) = _
    unfold L_subwayref02_Sum_b75
    rw [show (((i + 1 : Nat) : Int) - 1) = (i : Int) by omega, show decide ((i : Int) ≥ 0) = true by simp, cond_true, lenB_ref hb (by omega), wrap64 (x := 8 * (i : Int)) (by omega), show decide (0 ≤ 8 * (i : Int)) = true by simp; omega, app_ok (by simp; omega), wrap64 (x := (i : Int) - 1) (by omega)]
    simp only [chk, Option.bind_some]
    exact ih (v ++ [lenB b.length i]) f (by omega) (by omega) (by simp; omega) fun r2 => by
      have := hR r2
      rw [show lensN b.length (i + 1) = [lenB b.length i] ++ lensN b.length i from rfl, ← List.append_assoc] at this
      exact this
theorem ref_zeros (b : List UInt8) {R : List UInt8} : ∀ (z : Nat) (v : List UInt8) (f : Nat), (v.length + z) % 64 = 56 → z < 64 → z < f → v.length + z ≤ 2147483648 → (∀ r1, L_subwayref02_Sum_l75 r1 b fuel (v ++ List.replicate z 0) 7 = some R) → L_subwayref02_Sum_l43 b f v = some R := by
  intro z
  induction z with
  | zero =>
    intro v f hz _ hf _ hR
    obtain ⟨f, rfl⟩ : ∃ g, f = g + 1 := ⟨f - 1, by omega⟩
    show L_subwayref02_Sum_b43 (L_subwayref02_Sum_l43 b f) b v = _
    unfold L_subwayref02_Sum_b43
    have hm : Int.tmod ((v.length : Nat) : Int) 64 = 56 := by
      have := tmod_nat v.length 64
      rw [show ((64 : Nat) : Int) = 64 from rfl] at this
      rw [this]; omega
    rw [hm, show ((56 : Int) != 56) = false by decide, cond_false]
    have := hR (L_subwayref02_Sum_l43 b f)
    rw [show List.replicate 0 (0 : UInt8) = [] from rfl, List.append_nil] at this
    exact this
  | succ z ih =>
    intro v f hz h64 hf hv hR
    obtain ⟨f, rfl⟩ : ∃ g, f = g + 1 := ⟨f - 1, by omega⟩
    show L_subwayref02_Sum_b43 (L_subwayref02_Sum_l43 b f) b v = _
    unfold L_subwayref02_Sum_b43
    have hm : Int.tmod ((v.length : Nat) : Int) 64 = ((v.length % 64 : Nat) : Int) := by
      have := tmod_nat v.length 64
      rw [show ((64 : Nat) : Int) = 64 from rfl] at this
      exact this
    rw [hm, show (((v.length % 64 : Nat) : Int) != 56) = true by simp; omega, cond_true, app_ok (by simp; omega), Option.bind_some]
    refine ih (v ++ [0]) f (by simp; omega) (by omega) (by omega) (by simp; omega) fun r1 => ?_
    have := hR r1
    rw [show List.replicate (z + 1) (0 : UInt8) = [0] ++ List.replicate z 0 from rfl, ← List.append_assoc] at this
    exact this
def zc (n : Nat) : Nat := if n % 64 < 56 then 55 - n % 64 else 119 - n % 64
def mB (n : Nat) : Nat := if n % 64 < 56 then n / 64 + 1 else n / 64 + 2
def padL (b : List UInt8) : List UInt8 := b ++ [128] ++ List.replicate (zc b.length) 0 ++ lensN b.length 8
theorem zc_ok (n : Nat) : (n + 1 + zc n) % 64 = 56 ∧ zc n < 64 ∧ n + 1 + zc n + 8 = 64 * mB n := by unfold zc mB; split <;> omega
theorem padL_length (b : List UInt8) : (padL b).length = 64 * mB b.length := by
  have := zc_ok b.length
  simp [padL, lensN_length]
  omega
def sumL (b : List UInt8) : List UInt8 := sumH (padL b) (mB b.length)
theorem sumL_length (b : List UInt8) : (sumL b).length = 32 := sumH_length _ _
theorem ref_sum (b : List UInt8) (hb : b.length ≤ 1073741824) : L_subwayref02_Sum b = some (sumL b) := by
  have hz := zc_ok b.length
  unfold L_subwayref02_Sum
  rw [app_ok (by simp; omega), Option.bind_some, List.nil_append, app_ok (by simp; omega), Option.bind_some]
  refine ref_zeros b (zc b.length) (b ++ [128]) fuel (by simp; omega) hz.2.1 (by unfold fuel; omega) (by simp; omega) fun r1 => ?_
  refine ref_lens r1 b hb 8 _ fuel (by omega) (by unfold fuel; omega) (by simp; omega) fun r2 => ?_
  exact ref_blocks r1 r2 (padL_length b) (by unfold mB; split <;> omega) (mB b.length) 0 fuel (by omega) (by omega) (by unfold fuel mB; split <;> omega)
end Go.Proofs.YtjllaeceghmjgaaDoor
