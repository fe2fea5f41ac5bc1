/- SHA-256, of the program and of the document: words, schedules, rounds: in plain lists of numbers. -/
import Derived.Test.YtjllaeceghmjgaaDoorLD
import Derived.Test.YtjllaeceghmjgaaDoorLR2
import Derived.Test.YtjllaeceghmjgaaDoorPlain
namespace Go.Proofs.YtjllaeceghmjgaaDoor
set_option linter.unusedSimpArgs false
set_option linter.unusedVariables false
/-! words -/
theorem wrap32_bv (x : BitVec 32) : IntKind.wrap .u32 (x.toNat : Int) = (x.toNat : Int) := by
  have := x.isLt
  unfold IntKind.wrap
  simp only [IntKind.bits, IntKind.signed]
  simp
  omega
theorem ofInt_bv (x : BitVec 32) : BitVec.ofInt 32 (x.toNat : Int) = x := by
  rw [BitVec.ofInt_natCast, BitVec.ofNat_toNat, BitVec.setWidth_eq]
theorem bAnd_bv (a b : Int) : bAnd .u32 a b = ((BitVec.ofInt 32 a &&& BitVec.ofInt 32 b).toNat : Int) := wrap32_bv _
theorem bOr_bv (a b : Int) : bOr .u32 a b = ((BitVec.ofInt 32 a ||| BitVec.ofInt 32 b).toNat : Int) := wrap32_bv _
theorem bXor_bv (a b : Int) : bXor .u32 a b = ((BitVec.ofInt 32 a ^^^ BitVec.ofInt 32 b).toNat : Int) := wrap32_bv _
theorem bOr_comm (a b : Int) : bOr .u32 a b = bOr .u32 b a := by rw [bOr_bv, bOr_bv, BitVec.or_comm]
theorem ch_eq (a b c : Int) : bXor .u32 c (bAnd .u32 a (bXor .u32 b c)) = bXor .u32 (bAnd .u32 a b) (bAnd .u32 (bXor .u32 (IntKind.max .u32) a) c) := by
  simp only [bXor_bv, bAnd_bv, ofInt_bv]
  have hm : BitVec.ofInt 32 (IntKind.max .u32) = BitVec.allOnes 32 := by decide
  rw [hm]
  generalize BitVec.ofInt 32 a = x
  generalize BitVec.ofInt 32 b = y
  generalize BitVec.ofInt 32 c = z
  congr 2
  apply BitVec.eq_of_getLsbD_eq
  intro i hi
  simp only [BitVec.getLsbD_xor, BitVec.getLsbD_and, BitVec.getLsbD_or, BitVec.getLsbD_allOnes, hi, decide_true]
  cases x.getLsbD i <;> cases y.getLsbD i <;> cases z.getLsbD i <;> rfl
theorem maj_eq (a b c : Int) : bOr .u32 (bAnd .u32 a (bOr .u32 b c)) (bAnd .u32 b c) = bXor .u32 (bXor .u32 (bAnd .u32 a b) (bAnd .u32 a c)) (bAnd .u32 b c) := by
  simp only [bXor_bv, bAnd_bv, bOr_bv, ofInt_bv]
  generalize BitVec.ofInt 32 a = x
  generalize BitVec.ofInt 32 b = y
  generalize BitVec.ofInt 32 c = z
  congr 2
  apply BitVec.eq_of_getLsbD_eq
  intro i hi
  simp only [BitVec.getLsbD_xor, BitVec.getLsbD_and, BitVec.getLsbD_or, BitVec.getLsbD_allOnes, hi, decide_true]
  cases x.getLsbD i <;> cases y.getLsbD i <;> cases z.getLsbD i <;> rfl
def rotI (x n : Int) : Int := bOr .u32 (bShr .u32 x n) (bShl .u32 x (32 - n))
def smlI (x a b c : Int) : Int := bXor .u32 (bXor .u32 (rotI x a) (rotI x b)) (bShr .u32 x c)
def grtI (x a b c : Int) : Int := bXor .u32 (bXor .u32 (rotI x a) (rotI x b)) (rotI x c)
theorem rot_ok (x n : Int) (h1 : bAnd .u64 (IntKind.wrap .u64 (IntKind.wrap .i64 (0 - n))) 31 = 32 - n) (h2 : IntKind.wrap .u64 (32 - (32 - n)) = n) (h3 : 0 ≤ n ∧ n ≤ 32) : L_math_bits_RotateLeft32 x (IntKind.wrap .i64 (0 - n)) = some (rotI x n) := by
  unfold L_math_bits_RotateLeft32
  rw [h1, h2]
  rw [show decide (0 ≤ 32 - n) = true by simp; omega, show decide (0 ≤ n) = true by simp; omega]
  simp only [chk, Option.bind_some]
  rw [bOr_comm]
  rfl
theorem turn_ok (x n : Int) (h1 : IntKind.wrap .i64 (32 - n) = 32 - n) (h3 : 0 ≤ n ∧ n ≤ 32) : L_subwayref02_turn x n = some (rotI x n) := by
  unfold L_subwayref02_turn
  rw [h1, show decide (0 ≤ 32 - n) = true by simp; omega, show decide (0 ≤ n) = true by simp; omega]
  rfl
theorem mix_17 (x : Int) : L_digest_mixed x [17, 19, 10] true = some (smlI x 17 19 10) := by
  have a := rot_ok x 17 (by decide) (by decide) (by decide)
  have b := rot_ok x 19 (by decide) (by decide) (by decide)
  have c := rot_ok x 10 (by decide) (by decide) (by decide)
  unfold L_digest_mixed L_digest_mixed_k1
  simp only [idx, Int.toNat, List.getElem?_cons_zero, List.getElem?_cons_succ, Option.bind_some, cond_true, chk, Int.reduceLE, if_true, decide_true, a, b, c]
  rfl
theorem mix_7 (x : Int) : L_digest_mixed x [7, 18, 3] true = some (smlI x 7 18 3) := by
  have a := rot_ok x 7 (by decide) (by decide) (by decide)
  have b := rot_ok x 18 (by decide) (by decide) (by decide)
  have c := rot_ok x 3 (by decide) (by decide) (by decide)
  unfold L_digest_mixed L_digest_mixed_k1
  simp only [idx, Int.toNat, List.getElem?_cons_zero, List.getElem?_cons_succ, Option.bind_some, cond_true, chk, Int.reduceLE, if_true, decide_true, a, b, c]
  rfl
theorem mix_6 (x : Int) : L_digest_mixed x [6, 11, 25] false = some (grtI x 6 11 25) := by
  have a := rot_ok x 6 (by decide) (by decide) (by decide)
  have b := rot_ok x 11 (by decide) (by decide) (by decide)
  have c := rot_ok x 25 (by decide) (by decide) (by decide)
  unfold L_digest_mixed L_digest_mixed_k1
  simp only [idx, Int.toNat, List.getElem?_cons_zero, List.getElem?_cons_succ, Option.bind_some, cond_false, chk, Int.reduceLE, if_true, decide_true, a, b, c]
  rfl
theorem mix_2 (x : Int) : L_digest_mixed x [2, 13, 22] false = some (grtI x 2 13 22) := by
  have a := rot_ok x 2 (by decide) (by decide) (by decide)
  have b := rot_ok x 13 (by decide) (by decide) (by decide)
  have c := rot_ok x 22 (by decide) (by decide) (by decide)
  unfold L_digest_mixed L_digest_mixed_k1
  simp only [idx, Int.toNat, List.getElem?_cons_zero, List.getElem?_cons_succ, Option.bind_some, cond_false, chk, Int.reduceLE, if_true, decide_true, a, b, c]
  rfl
theorem small_ok (x a b c : Int) (ha : IntKind.wrap .i64 (32 - a) = 32 - a) (hb : IntKind.wrap .i64 (32 - b) = 32 - b) (h : (0 ≤ a ∧ a ≤ 32) ∧ (0 ≤ b ∧ b ≤ 32) ∧ 0 ≤ c) : L_subwayref02_small x a b c = some (smlI x a b c) := by
  unfold L_subwayref02_small
  rw [turn_ok x a ha h.1, turn_ok x b hb h.2.1, show decide (0 ≤ c) = true by simp; omega]
  rfl
theorem great_ok (x a b c : Int) (ha : IntKind.wrap .i64 (32 - a) = 32 - a) (hb : IntKind.wrap .i64 (32 - b) = 32 - b) (hc : IntKind.wrap .i64 (32 - c) = 32 - c) (h : (0 ≤ a ∧ a ≤ 32) ∧ (0 ≤ b ∧ b ≤ 32) ∧ (0 ≤ c ∧ c ≤ 32)) : L_subwayref02_great x a b c = some (grtI x a b c) := by
  unfold L_subwayref02_great
  rw [turn_ok x a ha h.1, turn_ok x b hb h.2.1, turn_ok x c hc h.2.2]
  rfl
/-! schedules -/
theorem getD_set_eq {α : Type} (l : List α) (i : Nat) (x d : α) (h : i < l.length) : (l.set i x).getD i d = x := by simp [List.getD, h]
theorem getD_set_ne {α : Type} (l : List α) (i j : Nat) (x d : α) (h : i ≠ j) : (l.set i x).getD j d = l.getD j d := by simp [List.getD, List.getElem?_set, h]
theorem idx_getD {α : Type} (l : List α) (i : Nat) (d : α) (h : i < l.length) : idx l (i : Int) = some (l.getD i d) := by rw [idx_get h]; simp [List.getD, h]
def wordI (b0 b1 b2 b3 : UInt8) : Int := bOr .u32 (bOr .u32 (bOr .u32 (bShl .u32 (IntKind.wrap .u32 ((b0).toNat : Int)) 24) (bShl .u32 (IntKind.wrap .u32 ((b1).toNat : Int)) 16)) (bShl .u32 (IntKind.wrap .u32 ((b2).toNat : Int)) 8)) (IntKind.wrap .u32 ((b3).toNat : Int))
def mixI (w : List Int) (t : Nat) : Int := IntKind.wrap .u32 (IntKind.wrap .u32 (IntKind.wrap .u32 (smlI (w.getD (t - 2) 0) 17 19 10 + w.getD (t - 7) 0) + smlI (w.getD (t - 15) 0) 7 18 3) + w.getD (t - 16) 0)
def schS (b : List UInt8) : Nat → List Int
  | 0 => List.replicate 64 0
  | t + 1 => (schS b t).set t (if t < 16 then wordI (b.getD (4 * t) 0) (b.getD (4 * t + 1) 0) (b.getD (4 * t + 2) 0) (b.getD (4 * t + 3) 0) else mixI (schS b t) t)
theorem schS_length (b : List UInt8) : ∀ t, (schS b t).length = 64
  | 0 => by simp [schS]
  | t + 1 => by simp [schS, schS_length b t]
theorem schS_zero (b : List UInt8) : ∀ t q, t ≤ q → (schS b t).getD q 0 = 0
  | 0, q, _ => by simp only [schS, List.getD, List.getElem?_replicate]; split <;> rfl
  | t + 1, q, h => by
    simp only [schS]
    rw [getD_set_ne _ _ _ _ _ (by omega)]
    exact schS_zero b t q (by omega)
theorem wrapn {n : Nat} (h : n < 4611686018427387904) : IntKind.wrap .i64 (n : Int) = (n : Int) := wrap64 (by omega)
theorem ref_sched (b : List UInt8) (hb : 64 ≤ b.length) : ∀ (d t f : Nat), d = 64 - t → t ≤ 64 → d < f → L_subwayref02_schedule_l3 b f (schS b t) (t : Int) = some (schS b 64) := by
  intro d
  induction d with
  | zero =>
    intro t f hd ht hf
    obtain ⟨f, rfl⟩ : ∃ g, f = g + 1 := ⟨f - 1, by omega⟩
    have : t = 64 := by omega
    subst this
    rfl
  | succ d ih =>
    intro t f hd ht hf
    obtain ⟨f, rfl⟩ : ∃ g, f = g + 1 := ⟨f - 1, by omega⟩
    show L_subwayref02_schedule_b3 (L_subwayref02_schedule_l3 b f) b (schS b t) (t : Int) = _
    unfold L_subwayref02_schedule_b3 L_subwayref02_schedule_k5
    have hl := schS_length b t
    have hnext : ∀ x, (schS b (t + 1)) = x → L_subwayref02_schedule_l3 b f x (IntKind.wrap .i64 ((t : Int) + 1)) = some (schS b 64) := by
      intro x hx
      rw [show ((t : Int) + 1) = ((t + 1 : Nat) : Int) by omega, wrapn (by omega), ← hx]
      exact ih (t + 1) f (by omega) (by omega) (by omega)
    rw [show decide ((t : Int) < 64) = true by simp; omega, cond_true]
    by_cases h16 : t < 16
    · have e0 : IntKind.wrap .i64 (4 * (t : Int)) = ((4 * t : Nat) : Int) := by rw [show (4 * (t : Int)) = ((4 * t : Nat) : Int) by omega, wrapn (by omega)]
      have e1 : IntKind.wrap .i64 (((4 * t : Nat) : Int) + 1) = ((4 * t + 1 : Nat) : Int) := by rw [show (((4 * t : Nat) : Int) + 1) = ((4 * t + 1 : Nat) : Int) by omega, wrapn (by omega)]
      have e2 : IntKind.wrap .i64 (((4 * t : Nat) : Int) + 2) = ((4 * t + 2 : Nat) : Int) := by rw [show (((4 * t : Nat) : Int) + 2) = ((4 * t + 2 : Nat) : Int) by omega, wrapn (by omega)]
      have e3 : IntKind.wrap .i64 (((4 * t : Nat) : Int) + 3) = ((4 * t + 3 : Nat) : Int) := by rw [show (((4 * t : Nat) : Int) + 3) = ((4 * t + 3 : Nat) : Int) by omega, wrapn (by omega)]
      rw [show decide ((t : Int) < 16) = true by simp; omega, cond_true, e0, e1, e2, e3]
      rw [idx_getD b (4 * t) 0 (by omega), idx_getD b (4 * t + 1) 0 (by omega), idx_getD b (4 * t + 2) 0 (by omega), idx_getD b (4 * t + 3) 0 (by omega), idx_getD (schS b t) t 0 (by omega)]
      simp only [Option.bind_some, Int.toNat_natCast]
      exact hnext _ (by simp only [schS]; rw [if_pos h16]; rfl)
    · have e2 : IntKind.wrap .i64 ((t : Int) - 2) = ((t - 2 : Nat) : Int) := by rw [show ((t : Int) - 2) = ((t - 2 : Nat) : Int) by omega, wrapn (by omega)]
      have e7 : IntKind.wrap .i64 ((t : Int) - 7) = ((t - 7 : Nat) : Int) := by rw [show ((t : Int) - 7) = ((t - 7 : Nat) : Int) by omega, wrapn (by omega)]
      have e15 : IntKind.wrap .i64 ((t : Int) - 15) = ((t - 15 : Nat) : Int) := by rw [show ((t : Int) - 15) = ((t - 15 : Nat) : Int) by omega, wrapn (by omega)]
      have e16 : IntKind.wrap .i64 ((t : Int) - 16) = ((t - 16 : Nat) : Int) := by rw [show ((t : Int) - 16) = ((t - 16 : Nat) : Int) by omega, wrapn (by omega)]
      rw [show decide ((t : Int) < 16) = false by simp; omega, cond_false, e2, e7, e15, e16]
      rw [idx_getD (schS b t) (t - 2) 0 (by omega), idx_getD (schS b t) (t - 7) 0 (by omega), idx_getD (schS b t) (t - 15) 0 (by omega), idx_getD (schS b t) (t - 16) 0 (by omega), idx_getD (schS b t) t 0 (by omega)]
      simp only [Option.bind_some, Int.toNat_natCast]
      rw [small_ok _ 17 19 10 (by decide) (by decide) (by decide), small_ok _ 7 18 3 (by decide) (by decide) (by decide)]
      simp only [Option.bind_some]
      exact hnext _ (by simp only [schS]; rw [if_neg h16]; rfl)
theorem prog_sched (rec4 : List Int → Int → Option (List Int)) (b : List UInt8) : ∀ (d t f : Nat), d = 64 - t → 16 ≤ t → t ≤ 64 → d < f → L_digest_words_l5 rec4 f (schS b t) (t : Int) = some (schS b 64) := by
  intro d
  induction d with
  | zero =>
    intro t f hd h16 ht hf
    obtain ⟨f, rfl⟩ : ∃ g, f = g + 1 := ⟨f - 1, by omega⟩
    have : t = 64 := by omega
    subst this
    rfl
  | succ d ih =>
    intro t f hd h16 ht hf
    obtain ⟨f, rfl⟩ : ∃ g, f = g + 1 := ⟨f - 1, by omega⟩
    show L_digest_words_b5 rec4 (L_digest_words_l5 rec4 f) (schS b t) (t : Int) = _
    unfold L_digest_words_b5
    have hl := schS_length b t
    have hnext : ∀ x, (schS b (t + 1)) = x → L_digest_words_l5 rec4 f x (IntKind.wrap .i64 ((t : Int) + 1)) = some (schS b 64) := by
      intro x hx
      rw [show ((t : Int) + 1) = ((t + 1 : Nat) : Int) by omega, wrapn (by omega), ← hx]
      exact ih (t + 1) f (by omega) (by omega) (by omega) (by omega)
    rw [show decide ((t : Int) < 64) = true by simp; omega, cond_true]
    have e2 : IntKind.wrap .i64 ((t : Int) - 2) = ((t - 2 : Nat) : Int) := by rw [show ((t : Int) - 2) = ((t - 2 : Nat) : Int) by omega, wrapn (by omega)]
    have e7 : IntKind.wrap .i64 ((t : Int) - 7) = ((t - 7 : Nat) : Int) := by rw [show ((t : Int) - 7) = ((t - 7 : Nat) : Int) by omega, wrapn (by omega)]
    have e15 : IntKind.wrap .i64 ((t : Int) - 15) = ((t - 15 : Nat) : Int) := by rw [show ((t : Int) - 15) = ((t - 15 : Nat) : Int) by omega, wrapn (by omega)]
    have e16 : IntKind.wrap .i64 ((t : Int) - 16) = ((t - 16 : Nat) : Int) := by rw [show ((t : Int) - 16) = ((t - 16 : Nat) : Int) by omega, wrapn (by omega)]
    rw [e2, e7, e15, e16]
    rw [idx_getD (schS b t) (t - 2) 0 (by omega), idx_getD (schS b t) (t - 7) 0 (by omega), idx_getD (schS b t) (t - 15) 0 (by omega), idx_getD (schS b t) (t - 16) 0 (by omega), idx_getD (schS b t) t 0 (by omega)]
    simp only [Option.bind_some, Int.toNat_natCast, mix_17, mix_7]
    exact hnext _ (by simp only [schS]; rw [if_neg (by omega)]; rfl)
def parS (b : List UInt8) : Nat → List Int
  | 0 => List.replicate 64 0
  | i + 1 => (parS b i).set (i / 4) (bOr .u32 (bShl .u32 ((parS b i).getD (i / 4) 0) 8) (IntKind.wrap .u32 ((b.getD i 0).toNat : Int)))
theorem parS_length (b : List UInt8) : ∀ t, (parS b t).length = 64
  | 0 => by simp [parS]
  | t + 1 => by simp [parS, parS_length b t]
theorem byte_bv (c : UInt8) : IntKind.wrap .u32 ((c.toNat : Nat) : Int) = (((c.toBitVec.setWidth 32 : BitVec 32)).toNat : Int) := by
  have h1 := c.toNat_lt
  have : (c.toBitVec.setWidth 32 : BitVec 32).toNat = c.toNat := by
    rw [BitVec.toNat_setWidth]
    show c.toNat % 2 ^ 32 = _
    omega
  rw [this]
  unfold IntKind.wrap
  simp only [IntKind.bits, IntKind.signed]
  simp
  omega
theorem bShl_bv (x : BitVec 32) (n : Nat) (h : n < 32) : bShl .u32 (x.toNat : Int) (n : Int) = ((x <<< n).toNat : Int) := by
  have hx := x.isLt
  unfold bShl
  have hmin : min (n : Int).toNat (IntKind.bits .u32) = n := by show min n 32 = n; omega
  rw [hmin]
  have h2 : ((x.toNat : Int) * 2 ^ n) = ((x.toNat * 2 ^ n : Nat) : Int) := by push_cast; rfl
  rw [h2]
  unfold IntKind.wrap
  simp only [IntKind.bits, IntKind.signed]
  rw [BitVec.toNat_shiftLeft, Nat.shiftLeft_eq]
  simp
theorem word_eq (b0 b1 b2 b3 : UInt8) : bOr .u32 (bShl .u32 (bOr .u32 (bShl .u32 (bOr .u32 (bShl .u32 (bOr .u32 (bShl .u32 0 8) (IntKind.wrap .u32 (b0.toNat : Int))) 8) (IntKind.wrap .u32 (b1.toNat : Int))) 8) (IntKind.wrap .u32 (b2.toNat : Int))) 8) (IntKind.wrap .u32 (b3.toNat : Int)) = wordI b0 b1 b2 b3 := by
  unfold wordI
  have h0 : (0 : Int) = ((0 : BitVec 32).toNat : Int) := rfl
  have s8 : ∀ x : BitVec 32, bShl .u32 (x.toNat : Int) 8 = ((x <<< 8).toNat : Int) := fun x => bShl_bv x 8 (by omega)
  have s16 : ∀ x : BitVec 32, bShl .u32 (x.toNat : Int) 16 = ((x <<< 16).toNat : Int) := fun x => bShl_bv x 16 (by omega)
  have s24 : ∀ x : BitVec 32, bShl .u32 (x.toNat : Int) 24 = ((x <<< 24).toNat : Int) := fun x => bShl_bv x 24 (by omega)
  rw [h0]
  simp only [byte_bv, s8, s16, s24, bOr_bv, ofInt_bv]
  congr 2
  apply BitVec.eq_of_getLsbD_eq
  intro i hi
  simp only [BitVec.getLsbD_or, BitVec.getLsbD_shiftLeft, BitVec.getLsbD_setWidth, BitVec.getLsbD_zero, hi, decide_true, Bool.true_and, Bool.and_false, Bool.false_or]
  by_cases h8 : i < 8
  · simp [h8, show i < 16 by omega, show i < 24 by omega]
  · by_cases h16 : i < 16
    · simp [h8, h16, show i < 24 by omega, show i - 8 < 8 by omega, show i - 8 < 32 by omega]
    · by_cases h24 : i < 24
      · simp [h8, h16, h24, show ¬ i - 8 < 8 by omega, show i - 8 - 8 < 8 by omega, show i - 8 - 8 = i - 16 by omega, show i - 16 < 8 by omega, show i - 8 < 32 by omega, show i - 16 < 32 by omega]
      · simp [h8, h16, h24, show ¬ i - 8 < 8 by omega, show ¬ i - 8 - 8 < 8 by omega, show i - 8 - 8 - 8 = i - 24 by omega, show i - 8 - 8 = i - 16 by omega, show ¬ i - 16 < 8 by omega, show i - 8 < 32 by omega, show i - 16 < 32 by omega, show i - 24 < 32 by omega, show i - 16 - 8 = i - 24 by omega]
theorem four_set (S : List Int) (t : Nat) (h : t < S.length) (f0 f1 f2 f3 : Int → Int) :
    (((S.set t (f0 (S.getD t 0))).set t (f1 ((S.set t (f0 (S.getD t 0))).getD t 0))).set t (f2 (((S.set t (f0 (S.getD t 0))).set t (f1 ((S.set t (f0 (S.getD t 0))).getD t 0))).getD t 0))).set t (f3 ((((S.set t (f0 (S.getD t 0))).set t (f1 ((S.set t (f0 (S.getD t 0))).getD t 0))).set t (f2 (((S.set t (f0 (S.getD t 0))).set t (f1 ((S.set t (f0 (S.getD t 0))).getD t 0))).getD t 0))).getD t 0)) =
      S.set t (f3 (f2 (f1 (f0 (S.getD t 0))))) := by
  simp only [List.set_set, getD_set_eq _ _ _ _ h]
theorem parS_four (b : List UInt8) : ∀ t, t ≤ 16 → parS b (4 * t) = schS b t
  | 0, _ => rfl
  | t + 1, h => by
    have ih := parS_four b t (by omega)
    have hl := parS_length b (4 * t)
    have hz := schS_zero b t t (Nat.le_refl _)
    rw [show 4 * (t + 1) = 4 * t + 3 + 1 by omega]
    have d0 : 4 * t / 4 = t := by omega
    have d1 : (4 * t + 1) / 4 = t := by omega
    have d2 : (4 * t + 2) / 4 = t := by omega
    have d3 : (4 * t + 3) / 4 = t := by omega
    simp only [parS, d0, d1, d2, d3]
    rw [ih]
    have hlt : t < (schS b t).length := by rw [schS_length]; omega
    refine (four_set (schS b t) t hlt (fun x => bOr .u32 (bShl .u32 x 8) (IntKind.wrap .u32 ((b.getD (4 * t) 0).toNat : Int))) (fun x => bOr .u32 (bShl .u32 x 8) (IntKind.wrap .u32 ((b.getD (4 * t + 1) 0).toNat : Int)))
      (fun x => bOr .u32 (bShl .u32 x 8) (IntKind.wrap .u32 ((b.getD (4 * t + 2) 0).toNat : Int))) (fun x => bOr .u32 (bShl .u32 x 8) (IntKind.wrap .u32 ((b.getD (4 * t + 3) 0).toNat : Int)))).trans ?_
    simp only [hz, word_eq, schS, show t < 16 by omega, if_true]
theorem prog_words1 (b : List UInt8) (hb : b.length = 64) : ∀ (d i f : Nat), d = 64 - i → i ≤ 64 → d < f → L_digest_words_l3 b f (parS b i) (i : Int) = some (schS b 64) := by
  intro d
  induction d with
  | zero =>
    intro i f hd hi hf
    obtain ⟨f, rfl⟩ : ∃ g, f = g + 1 := ⟨f - 1, by omega⟩
    have : i = 64 := by omega
    subst this
    show L_digest_words_b3 (L_digest_words_l3 b f) b (parS b 64) _ = _
    unfold L_digest_words_b3
    rw [hb, show decide (((64 : Nat) : Int) < ((64 : Nat) : Int)) = false by decide, cond_false]
    rw [show parS b 64 = schS b 16 from parS_four b 16 (by omega)]
    exact prog_sched _ b 48 16 fuel (by omega) (by omega) (by omega) (by unfold fuel; omega)
  | succ d ih =>
    intro i f hd hi hf
    obtain ⟨f, rfl⟩ : ∃ g, f = g + 1 := ⟨f - 1, by omega⟩
    show L_digest_words_b3 (L_digest_words_l3 b f) b (parS b i) _ = _
    unfold L_digest_words_b3
    have hl := parS_length b i
    rw [hb, show decide ((i : Int) < ((64 : Nat) : Int)) = true by simp; omega, cond_true]
    have e4 : IntKind.wrap .i64 (Int.tdiv (i : Int) 4) = ((i / 4 : Nat) : Int) := by
      have := tdiv_nat i 4
      rw [show ((4 : Nat) : Int) = 4 from rfl] at this
      rw [this, wrapn (by omega)]
    rw [e4, idx_getD b i 0 (by omega), idx_getD (parS b i) (i / 4) 0 (by omega)]
    simp only [Option.bind_some, Int.toNat_natCast]
    rw [show ((i : Int) + 1) = ((i + 1 : Nat) : Int) by omega, wrapn (by omega)]
    exact ih (i + 1) f (by omega) (by omega) (by omega)
theorem schS_congr {b c : List UInt8} (h : ∀ i, i < 64 → b.getD i 0 = c.getD i 0) : ∀ t, schS b t = schS c t
  | 0 => rfl
  | t + 1 => by
    simp only [schS, schS_congr h t]
    by_cases h16 : t < 16
    · simp only [h16, if_true]
      rw [h _ (by omega), h _ (by omega), h _ (by omega), h _ (by omega)]
    · simp only [h16, if_false]
theorem words_ok (b : List UInt8) (hb : 64 ≤ b.length) : L_digest_words b = some (schS b 64) := by
  unfold L_digest_words
  have hs := sub_nat b (i := 0) (j := 64) (by omega) hb
  rw [show ((0 : Nat) : Int) = 0 from rfl, show ((64 : Nat) : Int) = 64 from rfl] at hs
  rw [hs, Option.bind_some]
  have h64 : ((b.take 64).drop 0).length = 64 := by simp; omega
  have := prog_words1 ((b.take 64).drop 0) h64 64 0 fuel (by omega) (by omega) (by unfold fuel; omega)
  rw [show parS ((b.take 64).drop 0) 0 = List.replicate 64 0 from rfl] at this
  rw [show ((0 : Nat) : Int) = 0 from rfl] at this
  have hc := schS_congr (b := (b.take 64).drop 0) (c := b) (fun i hi => by simp [List.getD, List.getElem?_take, hi]) 64
  rw [this, hc]
theorem sched_ok (b : List UInt8) (hb : 64 ≤ b.length) : L_subwayref02_schedule b = some (schS b 64) := by
  obtain ⟨z, hz⟩ : ∃ z : Nat, z = 0 := ⟨0, rfl⟩
  have h := ref_sched b hb 64 z fuel (by omega) (by omega) (by unfold fuel; omega)
  have e : schS b z = List.replicate 64 0 := by subst hz; simp only [schS]
  have ez : (z : Int) = 0 := by omega
  rw [e, ez] at h
  unfold L_subwayref02_schedule
  rw [h]
end Go.Proofs.YtjllaeceghmjgaaDoor
