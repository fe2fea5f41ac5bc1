/- Addresses and nets of texts: what both the program's functions and the document's compute; what is written is read. -/
import Derived.Test.YthnakiihenbcjaaDoorSynSpec
namespace Go.Proofs.YthnakiihenbcjaaDoor
set_option linter.unusedSimpArgs false
set_option linter.unusedVariables false
open Go.Lib (decDigits)
theorem dgt_f {x y : Int} {i : Decidable (x > y)} (h : ¬ x > y) : @decide (x > y) i = false := decide_eq_false h
theorem dgt_t {x y : Int} {i : Decidable (x > y)} (h : x > y) : @decide (x > y) i = true := decide_eq_true h
def cutL (c : UInt8) (s : List UInt8) : List UInt8 × List UInt8 × Bool := if Lib.indexByte s c < 0 then (s, [], false) else (s.take (Lib.indexByte s c).toNat, s.drop ((Lib.indexByte s c).toNat + 1), true)
theorem lCut (c : UInt8) (s : List UInt8) (hs : s.length ≤ 9000) : L_strings_Cut s [c] = some (cutL c s) := by
  unfold L_strings_Cut L_internal_stringslite_Cut L_internal_stringslite_Index cutL
  simp only [Option.bind_some]
  rcases indexByte_cases c s with ⟨h1, _, _⟩ | ⟨i, h1, h2, _, _, _⟩
  · rw [h1]; rfl
  · rw [h1, show decide ((i : Int) ≥ 0) = true by simp, if_neg (by omega), Int.toNat_natCast]
    have w : IntKind.wrap .i64 ((i : Int) + ((List.length [c] : Nat) : Int)) = ((i + 1 : Nat) : Int) := by simp only [List.length_cons, List.length_nil]; rw [wrap64 (by omega)]; omega
    have s1 : sub s 0 ((i : Nat) : Int) = some (s.take i) := sub_nat s (i := 0) (j := i) (by omega) (by omega)
    have s2 : sub s ((i + 1 : Nat) : Int) ((s.length : Nat) : Int) = some (s.drop (i + 1)) := by rw [sub_nat s (by omega) (Nat.le_refl _), List.take_length]
    rw [w]
    simp only [cond_true, s1, s2, Option.bind_some]
theorem rCut_loop (c : UInt8) (s : List UInt8) (hs : s.length ≤ 9000) : ∀ (d k f : Nat), d = s.length - k → k ≤ s.length → d < f → c ∉ s.take k → L_subwayref04_cut_l1 s c f ((k : Nat) : Int) = some (cutL c s) := by
  intro d
  induction d with
  | zero =>
    intro k f hd hk hf hn
    obtain ⟨f, rfl⟩ : ∃ g, f = g + 1 := ⟨f - 1, by omega⟩
    show L_subwayref04_cut_b1 (L_subwayref04_cut_l1 s c f) s c _ = _
    unfold L_subwayref04_cut_b1 cutL
    rw [List.take_of_length_le (by omega)] at hn
    rw [show decide (((k : Nat) : Int) < ((List.length s : Nat) : Int)) = false by simp; omega]
    rcases indexByte_cases c s with ⟨h1, _, _⟩ | ⟨i, h1, h2, h3, _, _⟩
    · rw [h1]; rfl
    · exact absurd (List.mem_of_getElem? h3) hn
  | succ d ih =>
    intro k f hd hk hf hn
    obtain ⟨f, rfl⟩ : ∃ g, f = g + 1 := ⟨f - 1, by omega⟩
    have hlt : k < s.length := by omega
    show L_subwayref04_cut_b1 (L_subwayref04_cut_l1 s c f) s c _ = _
    unfold L_subwayref04_cut_b1
    have w4 : IntKind.wrap .i64 ((k : Int) + 1) = ((k + 1 : Nat) : Int) := by rw [wrap64 (by omega)]; omega
    rw [show decide (((k : Nat) : Int) < ((List.length s : Nat) : Int)) = true by simp; omega, show idx s ((k : Nat) : Int) = some s[k] from idx_get hlt]
    simp only [cond_true, Option.bind_some, w4]
    by_cases hc : s[k] = c
    · rw [show (((s[k].toNat : Nat) : Int) == ((c.toNat : Nat) : Int)) = true by rw [hc]; simp]
      have s1 : sub s 0 ((k : Nat) : Int) = some (s.take k) := sub_nat s (i := 0) (j := k) (by omega) (by omega)
      have s2 : sub s ((k + 1 : Nat) : Int) ((s.length : Nat) : Int) = some (s.drop (k + 1)) := by rw [sub_nat s (by omega) (Nat.le_refl _), List.take_length]
      simp only [cond_true, s1, s2, Option.bind_some]
      unfold cutL
      rcases indexByte_cases c s with ⟨h1, _, h3⟩ | ⟨i, h1, h2, h3, h4, _⟩
      · exact absurd (by rw [← hc]; exact List.getElem_mem hlt) h3
      · have hik : i = k := by
          rcases Nat.lt_trichotomy i k with h | h | h
          · exfalso
            refine hn (List.mem_of_getElem? (i := i) ?_)
            rw [List.getElem?_take, if_pos h]
            exact h3
          · exact h
          · exfalso
            refine h4 (List.mem_of_getElem? (i := k) ?_)
            rw [List.getElem?_take, if_pos h, List.getElem?_eq_getElem hlt, hc]
        subst hik
        rw [h1, if_neg (by omega), Int.toNat_natCast]
    · rw [show (((s[k].toNat : Nat) : Int) == ((c.toNat : Nat) : Int)) = false by
        rw [beq_eq_false_iff_ne]
        intro e
        exact hc (UInt8.toNat_inj.1 (by omega))]
      refine ih (k + 1) f (by omega) (by omega) (by omega) ?_
      rw [List.take_succ_eq_append_getElem hlt, List.mem_append, List.mem_singleton]
      rintro (h | h)
      · exact hn h
      · exact hc h.symm
theorem rCut (c : UInt8) (s : List UInt8) (hs : s.length ≤ 9000) : L_subwayref04_cut s c = some (cutL c s) := by
  unfold L_subwayref04_cut
  exact rCut_loop c s hs s.length 0 fuel (by omega) (by omega) (by rw [fuel_eq]; omega) (by simp)
def finA (st : Option (Nat × Nat)) : Option Nat := match st with | none => none | some (a, m) => if m = 4 then some a else none
theorem addrL_fin (s : List UInt8) : addrL s = finA ((splitL 46 s).foldl addrStep (some (0, 0))) := rfl
theorem finA_none (ps : List (List UInt8)) : finA (ps.foldl addrStep none) = none := by rw [addrStep_none]; rfl
theorem step_none {a m : Nat} {p : List UInt8} (h : parseL p = none) : addrStep (some (a, m)) p = none := by simp only [addrStep, h]
theorem step_big {a m n : Nat} {p : List UInt8} (h : parseL p = some n) (hn : 255 < n) : addrStep (some (a, m)) p = none := by simp only [addrStep, h, if_pos (Or.inl hn : 255 < n ∨ 4 ≤ m)]
theorem step_many {a m : Nat} {p : List UInt8} (hm : 4 ≤ m) : addrStep (some (a, m)) p = none := by
  unfold addrStep
  cases parseL p with
  | none => rfl
  | some n => exact if_pos (Or.inr hm)
theorem step_some {a m n : Nat} {p : List UInt8} (h : parseL p = some n) (hn : n ≤ 255) (hm : m < 4) : addrStep (some (a, m)) p = some (a * 256 + n, m + 1) := by simp only [addrStep, h, if_neg (by omega : ¬ (255 < n ∨ 4 ≤ m))]
theorem rAddr_loop : ∀ (d i f a : Nat) (v : List UInt8), d = 4 - i → i ≤ 3 → d < f → a < 256 ^ i → v.length ≤ 9000 → L_subwayref04_Addr_l2 f v (a : Int) (i : Int) = some (addrD (finA ((splitL 46 v).foldl addrStep (some (a, i))))) := by
  intro d
  induction d with
  | zero => intro i f a v hd hi; omega
  | succ d ih =>
    intro i f a v hd hi hf ha hv
    obtain ⟨f, rfl⟩ : ∃ g, f = g + 1 := ⟨f - 1, by omega⟩
    show L_subwayref04_Addr_b2 (L_subwayref04_Addr_l2 f) v (a : Int) (i : Int) = _
    unfold L_subwayref04_Addr_b2 L_subwayref04_Addr_k4
    rw [show decide ((i : Int) < 4) = true by simp; omega, rCut 46 v hv]
    simp only [cond_true, Option.bind_some]
    have hp3 : a < 16777216 := by
      have h3 := Nat.pow_le_pow_right (show 0 < 256 by omega) hi
      have h6 : (256 : Nat) ^ 3 = 16777216 := by decide
      omega
    have wa : ∀ n : Nat, n ≤ 255 → IntKind.wrap .u32 (IntKind.wrap .u32 (256 * (a : Int)) + IntKind.wrap .u32 ((n : Nat) : Int)) = ((a * 256 + n : Nat) : Int) := fun n hn => by
      rw [wrap32u, wrap32u, wrap32u]; omega
    have w4 : IntKind.wrap .i64 ((i : Int) + 1) = ((i + 1 : Nat) : Int) := by rw [wrap64 (by omega)]; omega
    have d3 : decide ((i : Int) < 3) = decide (i < 3) := by rw [decide_eq_decide]; omega
    unfold cutL
    rcases indexByte_cases 46 v with ⟨h1, h2, _⟩ | ⟨k, h1, h2, h3, h4, h5⟩
    · rw [h1, h2]
      simp only [show ((-1 : Int) < 0) from by omega, if_true, rParse v (by unfold maxLen; omega), Option.bind_some, List.foldl_cons, List.foldl_nil, d3, w4]
      rcases Option.eq_none_or_eq_some (parseL v) with hp | ⟨n, hp⟩
      · rw [step_none hp, show (parseD (parseL v)).2 = false by rw [hp]; rfl]
        rfl
      · rw [show decide ((parseD (parseL v)).1 > 255) = decide (255 < n) by rw [decide_eq_decide, hp]; show ((n : Int) > 255) ↔ _; omega, show (parseD (parseL v)).2 = true by rw [hp]; rfl, show (parseD (parseL v)).1 = (n : Int) by rw [hp]; rfl]
        simp only [Bool.not_true, cond_false]
        by_cases hn : 255 < n
        · rw [step_big hp hn, decide_eq_true hn]
          rfl
        · rw [step_some hp (by omega) (by omega), decide_eq_false hn, wa n (by omega)]
          by_cases hi3 : i < 3
          · rw [decide_eq_true hi3]
            simp only [finA, if_neg (show ¬ i + 1 = 4 by omega)]
            rfl
          · rw [decide_eq_false hi3]
            have hi4 : i = 3 := by omega
            subst hi4
            simp only [finA, if_true]
            obtain ⟨f, rfl⟩ : ∃ g, f = g + 1 := ⟨f - 1, by omega⟩
            rfl
    · rw [h1, h5]
      have hk0 : ¬ ((k : Int) < 0) := by omega
      have htl : (v.take k).length ≤ maxLen := by unfold maxLen; rw [List.length_take]; omega
      simp only [hk0, if_false, Int.toNat_natCast, rParse (v.take k) htl, Option.bind_some, List.foldl_cons, d3, w4]
      rcases Option.eq_none_or_eq_some (parseL (v.take k)) with hp | ⟨n, hp⟩
      · rw [step_none hp, finA_none, show (parseD (parseL (v.take k))).2 = false by rw [hp]; rfl]
        rfl
      · rw [show decide ((parseD (parseL (v.take k))).1 > 255) = decide (255 < n) by rw [decide_eq_decide, hp]; show ((n : Int) > 255) ↔ _; omega, show (parseD (parseL (v.take k))).2 = true by rw [hp]; rfl, show (parseD (parseL (v.take k))).1 = (n : Int) by rw [hp]; rfl]
        simp only [Bool.not_true, cond_false]
        by_cases hn : 255 < n
        · rw [step_big hp hn, finA_none, decide_eq_true hn]
          rfl
        · rw [step_some hp (by omega) (by omega), decide_eq_false hn, wa n (by omega)]
          by_cases hi3 : i < 3
          · rw [decide_eq_true hi3]
            exact ih (i + 1) f (a * 256 + n) (v.drop (k + 1)) (by omega) (by omega) (by omega) (by rw [Nat.pow_succ]; omega) (by rw [List.length_drop]; omega)
          · rw [decide_eq_false hi3]
            have hi4 : i = 3 := by omega
            subst hi4
            cases hsp : splitL 46 (v.drop (k + 1)) with
            | nil => exact absurd hsp (splitL_ne _ _)
            | cons q qs =>
              rw [List.foldl_cons, step_many (by omega), finA_none]
              rfl
theorem rAddr (s : List UInt8) (hs : s.length ≤ 9000) : L_subwayref04_Addr s = some (addrD (addrL s)) := by
  unfold L_subwayref04_Addr
  rw [addrL_fin]
  exact rAddr_loop 4 0 fuel 0 s (by omega) (by omega) (by rw [fuel_eq]; omega) (by decide) hs
theorem lAddr (s : List UInt8) (hs : s.length ≤ 9000) : L_syntax_Addr s = some (addrD (addrL s)) := by
  unfold L_syntax_Addr
  rw [Nat.ble_eq_true_of_le (by omega)]
  rfl
theorem addrL_lt {s : List UInt8} {a : Nat} (h : addrL s = some a) : a < 4294967296 := by
  unfold addrL at h
  cases hst : addrSt (splitL 46 s) with
  | none => rw [hst] at h; cases h
  | some x =>
    obtain ⟨b, m⟩ := x
    rw [hst] at h
    simp only at h
    by_cases hm : m = 4
    · rw [if_pos hm] at h
      injection h with h
      subst h
      have := (addrSt_le hst).2
      rw [hm] at this
      have h6 : (256 : Nat) ^ 4 = 4294967296 := by decide
      omega
    · rw [if_neg hm] at h; cases h
def netL (s : List UInt8) : Option (Nat × Nat) :=
  match (cutL 47 s).2.2, addrL (cutL 47 s).1, parseL (cutL 47 s).2.1 with
  | true, some a, some n => if n ≤ 32 ∧ rightN a (n : Int) = true then some (a, n) else none
  | _, _, _ => none
def netD (x : Option (Nat × Nat)) : Int × Int × Bool := match x with | none => (0, 0, false) | some (a, n) => ((a : Int), (n : Int), true)
theorem cutL_len (c : UInt8) (s : List UInt8) : (cutL c s).1.length ≤ s.length ∧ (cutL c s).2.1.length ≤ s.length := by
  unfold cutL
  split
  · simp
  · simp only [List.length_take, List.length_drop]; omega
theorem lNet (s : List UInt8) (hs : s.length ≤ 9000) : L_syntax_Net s = some (netD (netL s)) := by
  have hl := cutL_len 47 s
  unfold L_syntax_Net netL L_syntax_Net_k1
  rw [lCut 47 s hs]
  simp only [Option.bind_some]
  generalize cutL 47 s = z at hl ⊢
  obtain ⟨x, y, b⟩ := z
  simp only at hl
  rw [lAddr x (by omega), lParse y (by omega)]
  simp only [Option.bind_some]
  cases b with
  | false => rfl
  | true =>
    rcases Option.eq_none_or_eq_some (addrL x) with hx | ⟨a, hx⟩
    · rw [show (addrD (addrL x)).2 = false by rw [hx]; rfl, hx]; rfl
    · rw [show (addrD (addrL x)).2 = true by rw [hx]; rfl, show (addrD (addrL x)).1 = (a : Int) by rw [hx]; rfl, hx]
      rcases Option.eq_none_or_eq_some (parseL y) with hy | ⟨n, hy⟩
      · rw [show (parseD (parseL y)).2 = false by rw [hy]; rfl, hy]; rfl
      · rw [show decide ((parseD (parseL y)).1 > 32) = decide (32 < n) by rw [decide_eq_decide, hy]; show ((n : Int) > 32) ↔ _; omega, show (parseD (parseL y)).2 = true by rw [hy]; rfl, show (parseD (parseL y)).1 = (n : Int) by rw [hy]; rfl, hy]
        simp only [Bool.not_true, cond_false]
        by_cases hn : n ≤ 32
        · rw [decide_eq_false (by omega : ¬ 32 < n), lRight a (addrL_lt hx)]
          simp only [cond_false, Option.bind_some]
          cases hr : rightN a (n : Int) with
          | true => rw [if_pos ⟨hn, rfl⟩]; rfl
          | false => rw [if_neg (by rintro ⟨_, h⟩; cases h)]; rfl
        · rw [decide_eq_true (by omega : 32 < n), if_neg (fun h => hn h.1)]
          rfl
theorem rNet (s : List UInt8) (hs : s.length ≤ 9000) : L_subwayref04_Net s = some (netD (netL s)) := by
  have hl := cutL_len 47 s
  unfold L_subwayref04_Net netL L_subwayref04_Net_k1
  rw [rCut 47 s hs]
  simp only [Option.bind_some]
  generalize cutL 47 s = z at hl ⊢
  obtain ⟨x, y, b⟩ := z
  simp only at hl
  rw [rAddr x (by omega), rParse y (by unfold maxLen; omega)]
  simp only [Option.bind_some]
  cases b with
  | false => rfl
  | true =>
    rcases Option.eq_none_or_eq_some (addrL x) with hx | ⟨a, hx⟩
    · rw [show (addrD (addrL x)).2 = false by rw [hx]; rfl, hx]; rfl
    · rw [show (addrD (addrL x)).2 = true by rw [hx]; rfl, show (addrD (addrL x)).1 = (a : Int) by rw [hx]; rfl, hx]
      rcases Option.eq_none_or_eq_some (parseL y) with hy | ⟨n, hy⟩
      · rw [show (parseD (parseL y)).2 = false by rw [hy]; rfl, hy]; rfl
      · rw [show decide ((parseD (parseL y)).1 > 32) = decide (32 < n) by rw [decide_eq_decide, hy]; show ((n : Int) > 32) ↔ _; omega, show (parseD (parseL y)).2 = true by rw [hy]; rfl, show (parseD (parseL y)).1 = (n : Int) by rw [hy]; rfl, hy]
        simp only [Bool.not_true, cond_false]
        by_cases hn : n ≤ 32
        · rw [decide_eq_false (by omega : ¬ 32 < n), rRight a (addrL_lt hx)]
          simp only [cond_false, Option.bind_some]
          cases hr : rightN a (n : Int) with
          | true => rw [if_pos ⟨hn, rfl⟩]; rfl
          | false => rw [if_neg (by rintro ⟨_, h⟩; cases h)]; rfl
        · rw [decide_eq_true (by omega : 32 < n), if_neg (fun h => hn h.1)]
          rfl
/-! what is written is read -/
theorem splitL_app (c : UInt8) : ∀ (x r : List UInt8), c ∉ x → splitL c (x ++ c :: r) = x :: splitL c r
  | [], r, _ => by simp [splitL]
  | y :: x, r, h => by
    have hy : y ≠ c := fun e => h (by simp [e])
    have ih := splitL_app c x r (fun hm => h (by simp [hm]))
    rw [List.cons_append]
    conv => lhs; unfold splitL
    rw [if_neg hy, ih]
theorem splitL_one (c : UInt8) : ∀ (x : List UInt8), c ∉ x → splitL c x = [x]
  | [], _ => rfl
  | y :: x, h => by
    have hy : y ≠ c := fun e => h (by simp [e])
    have ih := splitL_one c x (fun hm => h (by simp [hm]))
    unfold splitL
    rw [if_neg hy, ih]
def joinW (c : UInt8) : List (List UInt8) → List UInt8
  | [] => []
  | [p] => p
  | p :: q :: ps => p ++ c :: joinW c (q :: ps)
theorem join_split (c : UInt8) : ∀ s : List UInt8, joinW c (splitL c s) = s
  | [] => rfl
  | x :: r => by
    have ih := join_split c r
    unfold splitL
    by_cases h : x = c
    · rw [if_pos h]
      cases hs : splitL c r with
      | nil => exact absurd hs (splitL_ne c r)
      | cons p ps => rw [hs] at ih; show [] ++ c :: joinW c (p :: ps) = _; rw [ih, h]; rfl
    · rw [if_neg h]
      cases hs : splitL c r with
      | nil => exact absurd hs (splitL_ne c r)
      | cons p ps =>
        rw [hs] at ih
        simp only
        cases ps with
        | nil => rw [← ih]; rfl
        | cons q qs => rw [← ih]; rfl
theorem dec_no {n : Nat} {c : UInt8} (hc : isDig c = false) : c ∉ decDigits n := fun h => by
  have := dec_all n
  rw [List.all_eq_true] at this
  rw [this c h] at hc
  cases hc
theorem split_dots (a : Nat) : splitL 46 (dotsL a) = [decDigits (a / 16777216 % 256), decDigits (a / 65536 % 256), decDigits (a / 256 % 256), decDigits (a % 256)] := by
  unfold dotsL
  rw [splitL_app 46 _ _ (dec_no (by decide)), splitL_app 46 _ _ (dec_no (by decide)), splitL_app 46 _ _ (dec_no (by decide)), splitL_one 46 _ (dec_no (by decide))]
theorem addr_dots {a : Nat} (ha : a < 4294967296) : addrL (dotsL a) = some a := by
  rw [addrL_fin, split_dots]
  have p : ∀ n : Nat, n < 256 → parseL (decDigits n) = some n := fun n hn => parse_dec (by unfold maxNum; omega)
  simp only [List.foldl_cons, List.foldl_nil]
  rw [step_some (p (a / 16777216 % 256) (by omega)) (by omega) (by omega), step_some (p (a / 65536 % 256) (by omega)) (by omega) (by omega), step_some (p (a / 256 % 256) (by omega)) (by omega) (by omega), step_some (p (a % 256) (by omega)) (by omega) (by omega)]
  simp only [finA, if_true]
  congr 1
  omega
theorem step_inv {st : Option (Nat × Nat)} {p : List UInt8} {a m : Nat} (h : addrStep st p = some (a, m)) : ∃ a0 n, st = some (a0, m - 1) ∧ 1 ≤ m ∧ parseL p = some n ∧ n ≤ 255 ∧ a = a0 * 256 + n := by
  unfold addrStep at h
  cases st with
  | none => cases h
  | some x =>
    obtain ⟨a0, m0⟩ := x
    simp only at h
    cases hp : parseL p with
    | none => rw [hp] at h; cases h
    | some n =>
      rw [hp] at h
      simp only at h
      by_cases hc : 255 < n ∨ 4 ≤ m0
      · rw [if_pos hc] at h; cases h
      · rw [if_neg hc] at h
        injection h with h
        injection h with h1 h2
        exact ⟨a0, n, by rw [← h2]; rfl, by omega, rfl, by omega, h1.symm⟩
theorem addrSt_len : ∀ (ps : List (List UInt8)) (a0 m0 a m : Nat), ps.foldl addrStep (some (a0, m0)) = some (a, m) → m = m0 + ps.length
  | [], a0, m0, a, m, h => by simp only [List.foldl_nil, Option.some.injEq, Prod.mk.injEq] at h; rw [List.length_nil]; omega
  | p :: ps, a0, m0, a, m, h => by
    rw [List.foldl_cons] at h
    cases hs : addrStep (some (a0, m0)) p with
    | none => rw [hs, addrStep_none] at h; cases h
    | some x =>
      obtain ⟨a1, m1⟩ := x
      rw [hs] at h
      have := addrSt_len ps a1 m1 a m h
      obtain ⟨a2, n, h1, h2, _⟩ := step_inv hs
      injection h1 with h1
      injection h1 with _ h1
      rw [List.length_cons]
      omega
/-- what is read of a text as an address has that text -/
theorem dots_addr {s : List UInt8} {a : Nat} (h : addrL s = some a) : dotsL a = s := by
  rw [addrL_fin] at h
  cases hst : (splitL 46 s).foldl addrStep (some (0, 0)) with
  | none => rw [hst] at h; cases h
  | some x =>
    obtain ⟨b, m⟩ := x
    rw [hst] at h
    simp only [finA] at h
    by_cases hm : m = 4
    · rw [if_pos hm] at h
      injection h with h
      subst h hm
      have hlen := addrSt_len _ _ _ _ _ hst
      have hj := join_split 46 s
      generalize splitL 46 s = ps at hst hlen hj
      match ps, hlen with
      | [p0, p1, p2, p3], _ =>
        simp only [List.foldl_cons, List.foldl_nil] at hst
        obtain ⟨a3, n3, h3, _, e3, l3, v3⟩ := step_inv hst
        obtain ⟨a2, n2, h2, _, e2, l2, v2⟩ := step_inv h3
        obtain ⟨a1, n1, h1, _, e1, l1, v1⟩ := step_inv h2
        obtain ⟨a0, n0, h0, _, e0, l0, v0⟩ := step_inv h1
        injection h0 with h0
        injection h0 with h0 _
        have q0 := (dec_parse e0).1
        have q1 := (dec_parse e1).1
        have q2 := (dec_parse e2).1
        have q3 := (dec_parse e3).1
        rw [← hj]
        show dotsL b = p0 ++ 46 :: (p1 ++ 46 :: (p2 ++ 46 :: p3))
        unfold dotsL
        rw [show b / 16777216 % 256 = n0 by omega, show b / 65536 % 256 = n1 by omega, show b / 256 % 256 = n2 by omega, show b % 256 = n3 by omega, q0, q1, q2, q3]
    · rw [if_neg hm] at h; cases h
theorem no47_dots (a : Nat) : (47 : UInt8) ∉ dotsL a := by
  unfold dotsL
  have d : ∀ n, (47 : UInt8) ∉ decDigits n := fun n => dec_no (by decide)
  simp [d]
theorem cutL_app (c : UInt8) (x y : List UInt8) (h : c ∉ x) : cutL c (x ++ c :: y) = (x, y, true) := by
  unfold cutL
  rcases indexByte_cases c (x ++ c :: y) with ⟨_, _, h3⟩ | ⟨i, h1, h2, h3, h4, _⟩
  · exact absurd (by simp) h3
  · have hi : i = x.length := by
      rcases Nat.lt_trichotomy i x.length with h' | h' | h'
      · rw [List.getElem?_append_left h'] at h3
        exact absurd (List.mem_of_getElem? h3) h
      · exact h'
      · exfalso
        refine h4 (List.mem_of_getElem? (i := x.length) ?_)
        rw [List.getElem?_take, if_pos h']
        simp
    subst hi
    rw [h1, if_neg (by omega), Int.toNat_natCast]
    simp
theorem cutL_true {c : UInt8} {s x y : List UInt8} (h : cutL c s = (x, y, true)) : s = x ++ c :: y := by
  unfold cutL at h
  rcases indexByte_cases c s with ⟨h1, _, _⟩ | ⟨i, h1, h2, h3, _, _⟩
  · rw [h1, if_pos (by omega)] at h
    simp at h
  · rw [h1, if_neg (by omega), Int.toNat_natCast] at h
    injection h with hx h
    injection h with hy _
    subst hx hy
    have hc : s[i] = c := by rw [List.getElem?_eq_getElem h2] at h3; exact Option.some.inj h3
    rw [← hc, ← List.drop_eq_getElem_cons h2, List.take_append_drop]
theorem net_slash {a : Nat} (ha : a < 4294967296) (b : Int) : netL (slashL a b) = match rightN a b with | true => some (a, b.toNat) | false => none := by
  unfold slashL
  cases hr : rightN a b with
  | false => rfl
  | true =>
    obtain ⟨h0, h1⟩ := bits_of_right hr
    have hb : ((b.toNat : Nat) : Int) = b := Int.toNat_of_nonneg h0
    unfold netL
    rw [cutL_app 47 _ _ (no47_dots a)]
    simp only [addr_dots ha, parse_dec (show b.toNat ≤ maxNum by unfold maxNum; omega), hb, hr]
    rw [if_pos ⟨by omega, trivial⟩]
theorem slash_net {s : List UInt8} {a n : Nat} (h : netL s = some (a, n)) : slashL a (n : Int) = s ∧ (47 : UInt8) ∈ s ∧ a < 4294967296 := by
  unfold netL at h
  cases hz : cutL 47 s with
  | mk x yb =>
    obtain ⟨y, b⟩ := yb
    rw [hz] at h
    simp only at h
    cases b with
    | false => cases h
    | true =>
      have hs := cutL_true hz
      cases hx : addrL x with
      | none => rw [hx] at h; cases h
      | some a' =>
        cases hy : parseL y with
        | none => rw [hx, hy] at h; cases h
        | some n' =>
          rw [hx, hy] at h
          simp only at h
          by_cases hc : n' ≤ 32 ∧ rightN a' (n' : Int) = true
          · rw [if_pos hc] at h
            injection h with h
            injection h with h1 h2
            subst h1 h2
            refine ⟨?_, by rw [hs]; simp, addrL_lt hx⟩
            unfold slashL
            rw [hc.2, Int.toNat_natCast, dots_addr hx, (dec_parse hy).1, ← hs]
          · rw [if_neg hc] at h; cases h
end Go.Proofs.YthnakiihenbcjaaDoor
