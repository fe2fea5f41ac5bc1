/- Names, addresses and nets: what both the program's functions and the document's compute. -/
import Derived.Test.YtfffjaijflbeaaaDoorLSA
import Derived.Test.YtfffjaijflbeaaaDoorLR4
import Derived.Test.YtfffjaijflbeaaaDoorSpecDecL
import Derived.Test.YtfffjaijflbeaaaDoorBits32
import Derived.Lib.SlTrimSet
namespace Go.Proofs.YtfffjaijflbeaaaDoor
set_option linter.unusedSimpArgs false
set_option linter.unusedVariables false
open Go.Lib (decDigits)
/-! names -/
def isLet (c : UInt8) : Bool := (decide (97 ≤ c.toNat) && decide (c.toNat ≤ 122)) || (decide (48 ≤ c.toNat) && decide (c.toNat ≤ 57))
def isNm (c : UInt8) : Bool := isLet c || c == 45
def nameB (s : List UInt8) : Bool := decide (1 ≤ s.length) && decide (s.length ≤ 20) && s.all isNm && !(s.headD 0 == 45) && !(s.getLastD 0 == 45)
def letters37 : List UInt8 := [97, 98, 99, 100, 101, 102, 103, 104, 105, 106, 107, 108, 109, 110, 111, 112, 113, 114, 115, 116, 117, 118, 119, 120, 121, 122, 48, 49, 50, 51, 52, 53, 54, 55, 56, 57, 45]
theorem letters_eq (c : UInt8) : letters37.contains c = isNm c := by
  have h : ∀ n : Fin 256, letters37.contains (UInt8.ofNat n.val) = isNm (UInt8.ofNat n.val) := by decide +kernel
  have e := h ⟨c.toNat, c.toNat_lt⟩
  have : UInt8.ofNat c.toNat = c := by simp
  rw [this] at e
  exact e
theorem dropWhile_nil {α : Type} (p : α → Bool) : ∀ l : List α, l.dropWhile p = [] ↔ ∀ x ∈ l, p x = true
  | [] => by simp
  | x :: l => by
    rw [List.dropWhile_cons]
    by_cases h : p x = true
    · rw [if_pos h, dropWhile_nil p l]; simp [h]
    · rw [if_neg h]; simp [h]
theorem dropWhile_head {α : Type} (p : α → Bool) : ∀ (l : List α) (x : α) (r : List α), l.dropWhile p = x :: r → p x = false
  | [], x, r, h => by simp at h
  | y :: l, x, r, h => by
    rw [List.dropWhile_cons] at h
    by_cases hy : p y = true
    · rw [if_pos hy] at h; exact dropWhile_head p l x r h
    · rw [if_neg hy] at h; injection h with h1 _; subst h1; simpa using hy
theorem trimS_nil (l cs : List UInt8) : Lib.trimS l cs = [] ↔ ∀ x ∈ l, cs.contains x = true := by
  unfold Lib.trimS Lib.trimLeftS Lib.trimRightS
  rw [dropWhile_nil]
  constructor
  · intro h
    cases hd : l.reverse.dropWhile (cs.contains ·) with
    | nil =>
      have := (dropWhile_nil _ _).1 hd
      intro x hx
      exact this x (by simpa using hx)
    | cons y r =>
      have h1 := dropWhile_head _ _ _ _ hd
      have h2 := h y (by rw [hd]; simp)
      rw [h2] at h1
      cases h1
  · intro h x hx
    refine h x ?_
    have : x ∈ l.reverse.dropWhile (cs.contains ·) := by simpa using hx
    have := List.IsSuffix.subset (List.dropWhile_suffix _) this
    simpa using this
theorem lTrim (s : List UInt8) (h : s.length ≤ 9000) : L_strings_Trim s letters37 = some (Lib.trimS s letters37) := by
  unfold L_strings_Trim
  rw [show (Nat.ble s.length 9223372036854775807 && (Nat.ble letters37.length 4294967280 && letters37.all (fun b => Nat.ble b.toNat 127))) = true by
    rw [Nat.ble_eq_true_of_le (by omega)]
    decide]
  rfl
theorem headD_idx {s : List UInt8} (h : 1 ≤ s.length) : idx s 0 = some (s.headD 0) := by
  cases s with
  | nil => simp at h
  | cons c r => rfl
theorem last_idx {s : List UInt8} (h : 1 ≤ s.length) (h2 : s.length ≤ 9000) : idx s (IntKind.wrap .i64 (((List.length s : Nat) : Int) - 1)) = some (s.getLastD 0) := by
  rw [wrap64 (by omega), show (((List.length s : Nat) : Int) - 1) = ((s.length - 1 : Nat) : Int) by omega, idx_nat]
  cases s with
  | nil => simp at h
  | cons c r => rw [List.getLastD_cons, List.getLastD_eq_getLast?, ← List.getLast?_eq_getElem?]; cases r <;> simp [List.getLast?_cons]
theorem byte45 (c : UInt8) : (((c.toNat : Nat) : Int) != 45) = !(c == 45) := by
  by_cases h : c = 45
  · subst h; rfl
  · rw [show (c == 45) = false by simpa using h]
    rw [Bool.not_false, bne_iff_ne]
    intro e
    exact h (UInt8.toNat_inj.1 (show c.toNat = (45 : UInt8).toNat from by have h9 : (45 : UInt8).toNat = 45 := rfl; omega))
theorem byteEq45 (c : UInt8) : (((c.toNat : Nat) : Int) == 45) = (c == 45) := by
  have := byte45 c
  rw [bne, Bool.not_inj_iff] at this
  exact this
theorem lName (s : List UInt8) (h : s.length ≤ 9000) : L_syntax_Name s = some (nameB s) := by
  unfold L_syntax_Name nameB L_syntax_Name_k1
  by_cases h1 : 1 ≤ s.length
  · have hne : (s == ([] : List UInt8)) = false := by cases s with | nil => simp at h1 | cons c r => rfl
    rw [hne, decide_eq_true h1]
    simp only [Bool.not_false, cond_true]
    by_cases h2 : s.length ≤ 20
    · rw [show decide (((List.length s : Nat) : Int) ≤ 20) = true by simp; omega, decide_eq_true h2]
      have ht := lTrim s h
      unfold letters37 at ht
      rw [ht]
      simp only [cond_true, Option.bind_some]
      have hall : (Lib.trimS s letters37 == ([] : List UInt8)) = s.all isNm := by
        rw [Bool.eq_iff_iff, beq_iff_eq, trimS_nil, List.all_eq_true]
        exact ⟨fun h x hx => by rw [← letters_eq]; exact h x hx, fun h x hx => by rw [letters_eq]; exact h x hx⟩
      unfold letters37 at hall
      rw [hall]
      cases s.all isNm with
      | false => rfl
      | true =>
        simp only [cond_true, headD_idx h1, Option.bind_some, byte45, last_idx h1 h]
        cases s.headD 0 == 45 <;> simp
    · rw [show decide (((List.length s : Nat) : Int) ≤ 20) = false by simp; omega, decide_eq_false h2]
      rfl
  · have : s = [] := List.length_eq_zero_iff.1 (by omega)
    subst this
    rfl
def okAt (s : List UInt8) (i : Nat) : Bool := ((s.getD i 0 == 45) && (decide (0 < i) && decide (i + 1 < s.length))) || isLet (s.getD i 0)
def nameR (s : List UInt8) : Bool := (List.range s.length).all (okAt s) && decide (1 ≤ s.length) && decide (s.length ≤ 20)
theorem rName_loop (s : List UInt8) (hs : s.length ≤ 9000) : ∀ (d k f : Nat), d = s.length - k → k ≤ s.length → d < f → (∀ j, j < k → okAt s j = true) → L_subwayref04_Name_l4 s f ((k : Nat) : Int) = some (nameR s) := by
  intro d
  induction d with
  | zero =>
    intro k f hd hk hf hall
    obtain ⟨f, rfl⟩ : ∃ g, f = g + 1 := ⟨f - 1, by omega⟩
    show L_subwayref04_Name_b4 (L_subwayref04_Name_l4 s f) s _ = _
    unfold L_subwayref04_Name_b4 L_subwayref04_Name_k10 nameR
    have ha : (List.range s.length).all (okAt s) = true := by rw [List.all_eq_true]; intro j hj; exact hall j (by have := List.mem_range.1 hj; omega)
    rw [show decide (((k : Nat) : Int) < ((List.length s : Nat) : Int)) = false by simp; omega, ha]
    simp only [cond_false, Bool.true_and]
    by_cases h1 : 1 ≤ s.length
    · rw [show decide (((List.length s : Nat) : Int) ≥ 1) = true by simp; omega, decide_eq_true h1]
      simp only [cond_true, Bool.true_and]
      congr 1
      rw [decide_eq_decide]
      omega
    · rw [show decide (((List.length s : Nat) : Int) ≥ 1) = false by simp; omega, decide_eq_false h1]
      rfl
  | succ d ih =>
    intro k f hd hk hf hall
    obtain ⟨f, rfl⟩ : ∃ g, f = g + 1 := ⟨f - 1, by omega⟩
    have hlt : k < s.length := by omega
    show L_subwayref04_Name_b4 (L_subwayref04_Name_l4 s f) s _ = _
    unfold L_subwayref04_Name_b4
    have hgd : s.getD k 0 = s[k] := by simp [List.getD, List.getElem?_eq_getElem hlt]
    have w1 : IntKind.wrap .i64 (((List.length s : Nat) : Int) - 1) = ((s.length - 1 : Nat) : Int) := by rw [wrap64 (by omega)]; omega
    have w4 : IntKind.wrap .i64 ((k : Int) + 1) = ((k + 1 : Nat) : Int) := by rw [wrap64 (by omega)]; omega
    rw [show decide (((k : Nat) : Int) < ((List.length s : Nat) : Int)) = true by simp; omega, show idx s ((k : Nat) : Int) = some s[k] from idx_get hlt]
    simp only [cond_true, Option.bind_some, byteEq45, w1]
    have d0 : decide (((k : Nat) : Int) > 0) = decide (0 < k) := by rw [decide_eq_decide]; omega
    have d1 : decide (((k : Nat) : Int) < ((s.length - 1 : Nat) : Int)) = decide (k + 1 < s.length) := by rw [decide_eq_decide]; omega
    rw [d0, d1]
    have yes : okAt s k = true → L_subwayref04_Name_l4 s f ((k + 1 : Nat) : Int) = some (nameR s) := fun hok => ih (k + 1) f (by omega) (by omega) (by omega) fun j hj => by
      by_cases hjk : j = k
      · subst hjk; exact hok
      · exact hall j (by omega)
    have no : okAt s k = false → some false = some (nameR s) := fun hno => by
      congr 1
      unfold nameR
      have : (List.range s.length).all (okAt s) = false := by
        rw [Bool.eq_false_iff]
        intro h
        rw [List.all_eq_true] at h
        have := h k (List.mem_range.2 hlt)
        rw [hno] at this
        cases this
      rw [this]
      rfl
    have key : (cond (s[k] == 45) (cond (decide (0 < k)) (L_subwayref04_Name_k8 (L_subwayref04_Name_l4 s f) ((k : Nat) : Int) s[k] (decide (k + 1 < s.length))) (L_subwayref04_Name_k8 (L_subwayref04_Name_l4 s f) ((k : Nat) : Int) s[k] false)) (L_subwayref04_Name_k8 (L_subwayref04_Name_l4 s f) ((k : Nat) : Int) s[k] false)) =
        L_subwayref04_Name_k8 (L_subwayref04_Name_l4 s f) ((k : Nat) : Int) s[k] ((s[k] == 45) && (decide (0 < k) && decide (k + 1 < s.length))) := by
      cases s[k] == 45 <;> cases decide (0 < k) <;> simp
    rw [key]
    have hok : okAt s k = (((s[k] == 45) && (decide (0 < k) && decide (k + 1 < s.length))) || isLet s[k]) := by unfold okAt; rw [hgd]
    rw [hok] at yes no
    generalize ((s[k] == 45) && (decide (0 < k) && decide (k + 1 < s.length))) = line at yes no ⊢
    unfold L_subwayref04_Name_k8 L_subwayref04_Name_k9
    simp only [w4]
    cases line with
    | true => exact yes rfl
    | false =>
      simp only [Bool.false_or] at yes no
      unfold isLet at yes no
      generalize s[k].toNat = x at yes no ⊢
      simp only [Bool.not_false, cond_true]
      by_cases h1 : x < 97
      · rw [show decide (((x : Nat) : Int) < 97) = true by simp; omega]
        by_cases h2 : x < 48
        · rw [show decide (((x : Nat) : Int) < 48) = true by simp; omega]
          exact no (by simp; omega)
        · rw [show decide (((x : Nat) : Int) < 48) = false by simp; omega]
          by_cases h3 : 57 < x
          · rw [show decide (((x : Nat) : Int) > 57) = true by simp; omega]
            exact no (by simp; omega)
          · rw [show decide (((x : Nat) : Int) > 57) = false by simp; omega]
            exact yes (by simp; omega)
      · rw [show decide (((x : Nat) : Int) < 97) = false by simp; omega]
        by_cases h2 : 122 < x
        · rw [show decide (((x : Nat) : Int) > 122) = true by simp; omega, show decide (((x : Nat) : Int) < 48) = false by simp; omega, show decide (((x : Nat) : Int) > 57) = true by simp; omega]
          exact no (by simp; omega)
        · rw [show decide (((x : Nat) : Int) > 122) = false by simp; omega]
          exact yes (by simp; omega)
theorem isNm_of_let {c : UInt8} (h : isLet c = true) : isNm c = true := by unfold isNm; rw [h]; rfl
theorem let45 : isLet 45 = false := by decide
theorem nameR_eq (s : List UInt8) : nameR s = nameB s := by
  rw [Bool.eq_iff_iff]
  unfold nameR nameB
  simp only [Bool.and_eq_true, List.all_eq_true, List.mem_range, decide_eq_true_eq, Bool.not_eq_true']
  have hget : ∀ i (hi : i < s.length), s.getD i 0 = s[i] := fun i hi => by simp [List.getD, List.getElem?_eq_getElem hi]
  have hhead : ∀ h : 0 < s.length, s.headD 0 = s[0] := fun h => by cases s with | nil => simp at h | cons c r => rfl
  have hlast : ∀ h : 0 < s.length, s.getLastD 0 = s[s.length - 1] := fun h => by
    have h2 := List.getLast_eq_getElem (l := s) (by intro e; subst e; simp at h)
    rw [← h2, List.getLastD_eq_getLast?, List.getLast?_eq_some_getLast (by intro e; subst e; simp at h)]
    rfl
  constructor
  · rintro ⟨⟨h1, h2⟩, h3⟩
    refine ⟨⟨⟨⟨h2, h3⟩, fun x hx => ?_⟩, ?_⟩, ?_⟩
    · obtain ⟨i, hi, rfl⟩ := List.mem_iff_getElem.1 hx
      have := h1 i hi
      unfold okAt at this
      rw [hget i hi, Bool.or_eq_true, Bool.and_eq_true] at this
      unfold isNm
      rcases this with h | h
      · rw [h.1]; simp
      · rw [h]; rfl
    · have := h1 0 (by omega)
      unfold okAt at this
      rw [hget 0 (by omega)] at this
      rw [hhead (by omega)]
      simp only [Nat.lt_irrefl, decide_false, Bool.false_and, Bool.and_false, Bool.false_or] at this
      rw [Bool.eq_false_iff]
      intro e
      rw [beq_iff_eq.1 e, let45] at this
      cases this
    · have := h1 (s.length - 1) (by omega)
      unfold okAt at this
      rw [hget _ (by omega), show decide (s.length - 1 + 1 < s.length) = false by simp; omega] at this
      rw [hlast (by omega)]
      simp only [Bool.and_false, Bool.false_or] at this
      rw [Bool.eq_false_iff]
      intro e
      rw [beq_iff_eq.1 e, let45] at this
      cases this
  · rintro ⟨⟨⟨⟨h2, h3⟩, h4⟩, h5⟩, h6⟩
    refine ⟨⟨fun i hi => ?_, h2⟩, h3⟩
    have hm := h4 s[i] (List.getElem_mem hi)
    unfold okAt
    rw [hget i hi]
    unfold isNm at hm
    rw [Bool.or_eq_true] at hm ⊢
    rcases hm with hm | hm
    · exact .inr hm
    · refine .inl ?_
      have e45 := beq_iff_eq.1 hm
      rw [hm]
      have i0 : 0 < i := by
        rcases Nat.eq_zero_or_pos i with rfl | h
        · rw [hhead (by omega), hm] at h5; cases h5
        · exact h
      have i1 : i + 1 < s.length := by
        rcases Nat.lt_or_ge (i + 1) s.length with h | h
        · exact h
        · have : i = s.length - 1 := by omega
          subst this
          rw [hlast (by omega), hm] at h6; cases h6
      simp [i0, i1]
theorem rName (s : List UInt8) (h : s.length ≤ 9000) : L_subwayref04_Name s = some (nameB s) := by
  unfold L_subwayref04_Name
  rw [← nameR_eq]
  exact rName_loop s h s.length 0 fuel (by omega) (by omega) (by rw [fuel_eq]; omega) (fun j hj => absurd hj (by omega))
/-! addresses in texts -/
def dotsL (a : Nat) : List UInt8 := decDigits (a / 16777216 % 256) ++ 46 :: (decDigits (a / 65536 % 256) ++ 46 :: (decDigits (a / 256 % 256) ++ 46 :: decDigits (a % 256)))
theorem decL_nat {n : Nat} (h : n ≤ 1099511627776) : decL (n : Int) = decDigits n := by unfold decL; rw [if_pos (by omega), Int.toNat_natCast]
theorem dec_len3 {n : Nat} (h : n < 256) : (decDigits n).length ≤ 3 := dec_len (by omega) (by omega)
theorem dots_step (a : Nat) (ha : a < 4294967296) (f i : Nat) (acc : List (List UInt8)) (hi : i < 4) (hacc : acc.length ≤ 4) :
    L_syntax_Dots_l1 (a : Int) (f + 1) acc (i : Int) = L_syntax_Dots_l1 (a : Int) f (acc ++ [decDigits (a / 2 ^ (24 - 8 * i) % 256)]) ((i + 1 : Nat) : Int) := by
  show L_syntax_Dots_b1 (L_syntax_Dots_l1 (a : Int) f) (a : Int) acc (i : Int) = _
  unfold L_syntax_Dots_b1
  have w1 : IntKind.wrap .i64 (24 - IntKind.wrap .i64 (8 * (i : Int))) = ((24 - 8 * i : Nat) : Int) := by rw [wrap64 (x := 8 * (i : Int)) (by omega), wrap64 (by omega)]; omega
  have w2 : IntKind.wrap .i64 (IntKind.wrap .u8 (((a / 2 ^ (24 - 8 * i) : Nat) : Int))) = ((a / 2 ^ (24 - 8 * i) % 256 : Nat) : Int) := by
    rw [wrap8]
    generalize a / 2 ^ (24 - 8 * i) = q
    rw [wrap64 (by omega)]
    omega
  have w4 : IntKind.wrap .i64 ((i : Int) + 1) = ((i + 1 : Nat) : Int) := by rw [wrap64 (by omega)]; omega
  rw [show decide ((i : Int) < 4) = true by simp; omega, w1, show decide (0 ≤ ((24 - 8 * i : Nat) : Int)) = true by simp, bShr32 a _ (by omega), w2, lDecimal, decL_nat (by have := Nat.mod_lt (a / 2 ^ (24 - 8 * i)) (show 0 < 256 by omega); omega), w4]
  simp only [cond_true, chk, Option.bind_some, app_ok (show acc.length + [decDigits (a / 2 ^ (24 - 8 * i) % 256)].length ≤ 2147483648 by simp only [List.length_cons, List.length_nil]; omega)]
theorem join4 (x y z t : List UInt8) : Lib.join [x, y, z, t] [46] = x ++ 46 :: (y ++ 46 :: (z ++ 46 :: t)) := by
  simp [Lib.join, List.intercalate, List.intersperse]
theorem dotsL_len (a : Nat) : (dotsL a).length ≤ 15 := by
  have h1 := dec_len3 (n := a / 16777216 % 256) (by omega)
  have h2 := dec_len3 (n := a / 65536 % 256) (by omega)
  have h3 := dec_len3 (n := a / 256 % 256) (by omega)
  have h4 := dec_len3 (n := a % 256) (by omega)
  simp only [dotsL, List.length_append, List.length_cons]
  omega
theorem lDots (a : Nat) (ha : a < 4294967296) : L_syntax_Dots (a : Int) = some (dotsL a) := by
  unfold L_syntax_Dots
  obtain ⟨f, hf⟩ : ∃ f, fuel = f + 1 + 1 + 1 + 1 + 1 := ⟨fuel - 5, by rw [fuel_eq]⟩
  rw [hf]
  have s0 := dots_step a ha (f + 1 + 1 + 1 + 1) 0 [] (by omega) (by simp)
  have s1 := dots_step a ha (f + 1 + 1 + 1) 1 [decDigits (a / 2 ^ 24 % 256)] (by omega) (by simp)
  have s2 := dots_step a ha (f + 1 + 1) 2 [decDigits (a / 2 ^ 24 % 256), decDigits (a / 2 ^ 16 % 256)] (by omega) (by simp)
  have s3 := dots_step a ha (f + 1) 3 [decDigits (a / 2 ^ 24 % 256), decDigits (a / 2 ^ 16 % 256), decDigits (a / 2 ^ 8 % 256)] (by omega) (by simp)
  refine s0.trans (s1.trans (s2.trans (s3.trans ?_)))
  show L_syntax_Dots_b1 (L_syntax_Dots_l1 (a : Int) f) (a : Int) [decDigits (a / 2 ^ 24 % 256), decDigits (a / 2 ^ 16 % 256), decDigits (a / 2 ^ 8 % 256), decDigits (a / 2 ^ 0 % 256)] 4 = _
  unfold L_syntax_Dots_b1 L_strings_Join
  rw [join4]
  have e : decDigits (a / 2 ^ 24 % 256) ++ 46 :: (decDigits (a / 2 ^ 16 % 256) ++ 46 :: (decDigits (a / 2 ^ 8 % 256) ++ 46 :: decDigits (a / 2 ^ 0 % 256))) = dotsL a := by
    unfold dotsL
    rw [Nat.pow_zero, Nat.div_one]
  rw [e, Nat.ble_eq_true_of_le (show (dotsL a).length ≤ 140737488355328 by have := dotsL_len a; omega)]
  rfl
def rightN (a : Nat) (b : Int) : Bool := decide (0 ≤ b) && (decide (b ≤ 32) && decide (a % 2 ^ (32 - b.toNat) = 0))
def cutN (x : Nat) (b : Int) : Nat := x / 2 ^ (32 - b.toNat) * 2 ^ (32 - b.toNat)
def inN (a : Nat) (b : Int) (x : Nat) : Bool := rightN a b && decide (cutN x b = a)
theorem w32 {b : Int} (h0 : 0 ≤ b) (h1 : b ≤ 32) : IntKind.wrap .i64 (32 - b) = ((32 - b.toNat : Nat) : Int) := by rw [wrap64 (by omega)]; omega
theorem lMask {b : Int} (h0 : 0 ≤ b) (h1 : b ≤ 32) : L_syntax_mask b = some ((4294967296 - 2 ^ (32 - b.toNat) : Nat) : Int) := by
  unfold L_syntax_mask
  rw [w32 h0 h1, show decide (0 ≤ ((32 - b.toNat : Nat) : Int)) = true by simp]
  have := bShl32 4294967295 (32 - b.toNat) (by omega)
  rw [show ((4294967295 : Nat) : Int) = 4294967295 from rfl, mask_eq _ (by omega)] at this
  rw [this]
  rfl
theorem lRight (a : Nat) (ha : a < 4294967296) (b : Int) : L_syntax_right (a : Int) b = some (rightN a b) := by
  unfold L_syntax_right rightN L_syntax_right_k1
  by_cases h0 : 0 ≤ b
  · rw [show decide (b ≥ 0) = true by simp; omega]
    by_cases h1 : b ≤ 32
    · rw [decide_eq_true h1, lMask h0 h1]
      simp only [cond_true, Option.bind_some, andNot_mask a (32 - b.toNat) (by omega) ha, Bool.true_and]
      congr 1
      rw [Bool.eq_iff_iff, beq_iff_eq, decide_eq_true_eq]
      generalize a % 2 ^ (32 - b.toNat) = q
      omega
    · rw [decide_eq_false h1]; rfl
  · rw [show decide (b ≥ 0) = false by simp; omega]; rfl
theorem cut_le (x : Nat) (b : Int) : cutN x b ≤ x := Nat.div_mul_le_self _ _
theorem cut_right (x : Nat) (b : Int) : cutN x b % 2 ^ (32 - b.toNat) = 0 := Nat.mul_mod_left _ _
theorem cut_id {x : Nat} {b : Int} : cutN x b = x ↔ x % 2 ^ (32 - b.toNat) = 0 := by
  have := Nat.div_add_mod x (2 ^ (32 - b.toNat))
  unfold cutN
  rw [Nat.mul_comm] at this
  omega
theorem lIn (a x : Nat) (ha : a < 4294967296) (hx : x < 4294967296) (b : Int) : L_syntax_In (a : Int) b (x : Int) = some (inN a b x) := by
  unfold L_syntax_In inN L_syntax_In_k1
  rw [lRight a ha b]
  simp only [Option.bind_some]
  cases hr : rightN a b with
  | false => rfl
  | true =>
    unfold rightN at hr
    simp only [Bool.and_eq_true, decide_eq_true_eq] at hr
    obtain ⟨h0, h1, _⟩ := hr
    have hp : 1 ≤ 2 ^ (32 - b.toNat) := Nat.one_le_two_pow
    rw [lMask h0 h1]
    simp only [cond_true, Option.bind_some]
    rw [bAnd32 x _ hx (by omega), and_mask x _ (by omega) hx]
    simp only [Bool.true_and]
    congr 1
    rw [Bool.eq_iff_iff, beq_iff_eq, decide_eq_true_eq]
    unfold cutN
    generalize x / 2 ^ (32 - b.toNat) * 2 ^ (32 - b.toNat) = q
    omega
theorem rHead (x : Nat) (hx : x < 4294967296) {b : Int} (h0 : 0 ≤ b) (h1 : b ≤ 32) : L_subwayref04_head (x : Int) b = some ((cutN x b : Nat) : Int) := by
  unfold L_subwayref04_head
  by_cases hb : b = 0
  · subst hb
    rw [show cutN x 0 = 0 by unfold cutN; rw [Nat.div_eq_of_lt (by simpa using hx), Nat.zero_mul]]
    rfl
  · have hc := cut_le x b
    rw [show (b == 0) = false by simpa using hb, w32 h0 h1, show decide (0 ≤ ((32 - b.toNat : Nat) : Int)) = true by simp, bShr32 x _ (by omega), bShl32 _ _ (by omega)]
    simp only [cond_false, chk, Option.bind_some]
    congr 2
    unfold cutN at hc ⊢
    exact Nat.mod_eq_of_lt (by omega)
theorem rRight (a : Nat) (ha : a < 4294967296) (b : Int) : L_subwayref04_Right (a : Int) b = some (rightN a b) := by
  unfold L_subwayref04_Right rightN L_subwayref04_Right_k1
  by_cases h0 : 0 ≤ b
  · rw [show decide (b ≥ 0) = true by simp; omega]
    by_cases h1 : b ≤ 32
    · rw [decide_eq_true h1, rHead a ha h0 h1]
      simp only [cond_true, Option.bind_some, Bool.true_and]
      congr 1
      rw [Bool.eq_iff_iff, beq_iff_eq, decide_eq_true_eq, ← cut_id]
      omega
    · rw [decide_eq_false h1]; rfl
  · rw [show decide (b ≥ 0) = false by simp; omega]; rfl
theorem rIn (a x : Nat) (ha : a < 4294967296) (hx : x < 4294967296) (b : Int) : L_subwayref04_In (a : Int) b (x : Int) = some (inN a b x) := by
  unfold L_subwayref04_In inN L_subwayref04_In_k1
  rw [rRight a ha b]
  simp only [Option.bind_some]
  cases hr : rightN a b with
  | false => rfl
  | true =>
    unfold rightN at hr
    simp only [Bool.and_eq_true, decide_eq_true_eq] at hr
    obtain ⟨h0, h1, _⟩ := hr
    rw [rHead x hx h0 h1]
    simp only [cond_true, Option.bind_some, Bool.true_and]
    congr 1
    rw [Bool.eq_iff_iff, beq_iff_eq, decide_eq_true_eq]
    omega
def slashL (a : Nat) (b : Int) : List UInt8 := match rightN a b with | true => dotsL a ++ 47 :: decDigits b.toNat | false => []
theorem bits_of_right {a : Nat} {b : Int} (h : rightN a b = true) : 0 ≤ b ∧ b ≤ 32 := by
  unfold rightN at h
  simp only [Bool.and_eq_true, decide_eq_true_eq] at h
  exact ⟨h.1, h.2.1⟩
theorem lSlash (a : Nat) (ha : a < 4294967296) (b : Int) : L_syntax_Slash (a : Int) b = some (slashL a b) := by
  unfold L_syntax_Slash slashL
  rw [lRight a ha b]
  simp only [Option.bind_some]
  cases hr : rightN a b with
  | false => rfl
  | true =>
    obtain ⟨h0, h1⟩ := bits_of_right hr
    have hl := dotsL_len a
    have hd : decL b = decDigits b.toNat := by unfold decL; rw [if_pos (by omega)]
    have hd3 := dec_len3 (n := b.toNat) (by omega)
    simp only [Bool.not_true, cond_false, lDots a ha, Option.bind_some, lDecimal, hd]
    rw [app_ok (by simp only [List.length_cons, List.length_nil]; omega)]
    simp only [Option.bind_some]
    rw [app_ok (by simp only [List.length_append, List.length_cons, List.length_nil]; omega)]
    simp
end Go.Proofs.YtfffjaijflbeaaaDoor
