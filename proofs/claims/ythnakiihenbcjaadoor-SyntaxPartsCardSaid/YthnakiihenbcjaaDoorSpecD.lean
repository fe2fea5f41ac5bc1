/- What the lifted functions on decimals compute, in the words of Dec. -/
import Derived.Test.YthnakiihenbcjaaDoorLNum
import Derived.Test.YthnakiihenbcjaaDoorLR1d
import Derived.Test.YthnakiihenbcjaaDoorPlain
import Derived.Test.YthnakiihenbcjaaDoorNumOrd
namespace Go.Proofs.YthnakiihenbcjaaDoor
set_option linter.unusedSimpArgs false
set_option linter.unusedVariables false
open Go.Lib (decDigits)
theorem lDecimal (n : Int) : L_num_Decimal n = some (decL n) := by
  unfold L_num_Decimal decL
  by_cases h : 0 ≤ n ∧ n ≤ 1099511627776
  · rw [if_pos h, show decide (n < 0) = false by simp; omega, show decide (n > 1099511627776) = false by simp; omega]
    obtain ⟨m, rfl⟩ := Int.eq_ofNat_of_zero_le h.1
    simp only [cond_false, L_num_Decimal_k1, L_strconv_FormatInt]
    rw [show (((10 : Int) == 10) && (decide (-9223372036854775808 ≤ (m : Int)) && decide ((m : Int) ≤ 9223372036854775807))) = true by simp; omega]
    simp only [cond_true, Option.bind_some, Go.Lib.itoa_nonneg]
    rfl
  · rw [if_neg h]
    by_cases h0 : n < 0
    · rw [show decide (n < 0) = true by simp; omega]
      rfl
    · rw [show decide (n < 0) = false by simp; omega, show decide (n > 1099511627776) = true by simp; omega]
      rfl
theorem rDigit (m : Nat) : toU8 (IntKind.wrap .u8 (IntKind.wrap .i64 (48 + Int.tmod (m : Int) 10))) = UInt8.ofNat (48 + m % 10) := by
  have := tmod_nat m 10
  rw [show ((10 : Nat) : Int) = 10 from rfl] at this
  rw [this, wrap64 (by omega), show (48 + ((m % 10 : Nat) : Int)) = ((48 + m % 10 : Nat) : Int) by omega, toU8_wrap]
theorem rDiv (m : Nat) (h : m ≤ 1099511627776) : IntKind.wrap .i64 (Int.tdiv (m : Int) 10) = ((m / 10 : Nat) : Int) := by
  have := tdiv_nat m 10
  rw [show ((10 : Nat) : Int) = 10 from rfl] at this
  rw [this]
  exact wrap64 (by omega)
theorem rDecimal_loop : ∀ (j : Nat) (v : Nat) (out : List UInt8) (f : Nat), v < 10 ^ j → v ≤ 1099511627776 → j < f → out.length + j ≤ 100 → L_subwayref01_Decimal_l2 f (v : Int) out = some (decTail v ++ out) := by
  intro j
  induction j with
  | zero =>
    intro v out f hv _ hf _
    have : v = 0 := by simpa using hv
    subst this
    obtain ⟨f, rfl⟩ : ∃ g, f = g + 1 := ⟨f - 1, by omega⟩
    rfl
  | succ j ih =>
    intro v out f hv hm hf ho
    obtain ⟨f, rfl⟩ : ∃ g, f = g + 1 := ⟨f - 1, by omega⟩
    show L_subwayref01_Decimal_b2 (L_subwayref01_Decimal_l2 f) (v : Int) out = _
    unfold L_subwayref01_Decimal_b2
    by_cases h0 : v = 0
    · subst h0
      rfl
    · rw [show decide ((v : Int) > 0) = true by simp; omega, rDigit, rDiv v hm, app_ok (by simp only [List.length_cons, List.length_nil]; omega)]
      simp only [cond_true, Option.bind_some]
      rw [ih (v / 10) _ f (by rw [Nat.pow_succ] at hv; omega) (by omega) (by omega) (by simp only [List.length_append, List.length_cons, List.length_nil]; omega)]
      unfold decTail
      rw [if_neg h0]
      by_cases hs : v < 10
      · rw [if_pos (by omega), dec_small hs, Nat.mod_eq_of_lt hs]
        rfl
      · rw [if_neg (by omega), dec_big hs]
        simp
theorem rDecimal (n : Int) : L_subwayref01_Decimal n = some (decL n) := by
  unfold L_subwayref01_Decimal decL
  by_cases h : 0 ≤ n ∧ n ≤ 1099511627776
  · rw [if_pos h, show decide (n < 0) = false by simp; omega, show decide (n > 1099511627776) = false by simp; omega]
    obtain ⟨m, rfl⟩ := Int.eq_ofNat_of_zero_le h.1
    have hm : m ≤ 1099511627776 := by omega
    simp only [cond_false, L_subwayref01_Decimal_k1, rDigit, rDiv m hm]
    rw [rDecimal_loop 13 (m / 10) _ fuel (by have h6 : (10 : Nat) ^ 13 = 10000000000000 := by decide
                                             omega) (by omega) (by rw [fuel_eq]; omega) (by simp)]
    show some (decTail (m / 10) ++ [UInt8.ofNat (48 + m % 10)]) = some (decDigits m)
    unfold decTail
    by_cases hs : m < 10
    · rw [if_pos (by omega), dec_small hs, Nat.mod_eq_of_lt hs]
      rfl
    · rw [if_neg (by omega), dec_big hs]
  · rw [if_neg h]
    by_cases h0 : n < 0
    · rw [show decide (n < 0) = true by simp; omega]
      rfl
    · rw [show decide (n < 0) = false by simp; omega, show decide (n > 1099511627776) = true by simp; omega]
      rfl
theorem digWrap {x : UInt8} (h : 48 ≤ x.toNat) : IntKind.wrap .i64 (IntKind.wrap .u8 (((x).toNat : Int) - 48)) = ((x.toNat - 48 : Nat) : Int) := by
  have := u8_lt x
  rw [wrap8_small (by omega), wrap64 (by omega)]
  omega
theorem isDig_false {x : UInt8} (h : x.toNat < 48 ∨ 57 < x.toNat) : isDig x = false := by
  unfold isDig
  rcases h with h | h
  · rw [show decide (48 ≤ x.toNat) = false by simp; omega]; rfl
  · rw [show decide (x.toNat ≤ 57) = false by simp; omega]; simp
theorem isDig_true {x : UInt8} (h : 48 ≤ x.toNat) (h2 : x.toNat ≤ 57) : isDig x = true := by unfold isDig; simp [h, h2]
theorem lParse_loop (l : List UInt8) (hl : l.length ≤ maxLen) : ∀ (d k f : Nat), d = l.length - k → k ≤ l.length → d < f → (l.take k).all isDig = true → dval (l.take k) ≤ 10995116277769 →
    L_num_Parse_l2 l f ((dval (l.take k) : Nat) : Int) (k : Int) = some (parseD (parseL l)) := by
  unfold maxLen at hl
  intro d
  induction d with
  | zero =>
    intro k f hd hk hf hall hv
    obtain ⟨f, rfl⟩ : ∃ g, f = g + 1 := ⟨f - 1, by omega⟩
    show L_num_Parse_b2 (L_num_Parse_l2 l f) l _ _ = _
    unfold L_num_Parse_b2
    rw [show decide ((k : Int) < ((List.length l : Nat) : Int)) = false by simp; omega, lDecimal]
    have e : l.take k = l := List.take_of_length_le (by omega)
    rw [e] at hall hv ⊢
    simp only [cond_false, Option.bind_some, decL]
    by_cases hm : dval l ≤ maxNum
    · have hm' := hm
      unfold maxNum at hm'
      rw [if_pos (by omega), Int.toNat_natCast]
      by_cases he : decDigits (dval l) = l
      · have hp : parseL l = some (dval l) := by unfold parseL; rw [if_pos ⟨hall, hm, he⟩]
        rw [hp, he, beq_self_eq_true]
        rfl
      · have hp : parseL l = none := by unfold parseL; rw [if_neg fun h => he h.2.2]
        rw [hp, show (decDigits (dval l) == l) = false by simpa using he]
        rfl
    · have hm' := hm
      unfold maxNum at hm'
      have hp : parseL l = none := by unfold parseL; rw [if_neg fun h => hm h.2.1]
      rw [if_neg (by omega), hp]
      cases l with
      | nil => exact absurd (show dval [] ≤ maxNum by decide) hm
      | cons c r => rfl
  | succ d ih =>
    intro k f hd hk hf hall hv
    obtain ⟨f, rfl⟩ : ∃ g, f = g + 1 := ⟨f - 1, by omega⟩
    have hlt : k < l.length := by omega
    show L_num_Parse_b2 (L_num_Parse_l2 l f) l _ _ = _
    unfold L_num_Parse_b2
    have hx : idx l (k : Int) = some l[k] := idx_get hlt
    rw [show decide ((k : Int) < ((List.length l : Nat) : Int)) = true by simp; omega, hx]
    simp only [cond_true, Option.bind_some]
    by_cases h1 : l[k].toNat < 48
    · rw [show decide (((l[k].toNat : Nat) : Int) < 48) = true by simp; omega, parse_not hlt (isDig_false (.inl h1))]
      rfl
    · rw [show decide (((l[k].toNat : Nat) : Int) < 48) = false by simp; omega]
      simp only [cond_false]
      by_cases h2 : 57 < l[k].toNat
      · rw [show decide (((l[k].toNat : Nat) : Int) > 57) = true by simp; omega, parse_not hlt (isDig_false (.inr h2))]
        rfl
      · rw [show decide (((l[k].toNat : Nat) : Int) > 57) = false by simp; omega]
        simp only [cond_false]
        by_cases h3 : maxNum < dval (l.take k)
        · rw [parse_great h3]
          unfold maxNum at h3
          rw [show decide (((dval (l.take k) : Nat) : Int) > 1099511627776) = true by simp; omega]
          rfl
        · unfold maxNum at h3
          rw [show decide (((dval (l.take k) : Nat) : Int) > 1099511627776) = false by simp; omega]
          have hst := dval_step hlt
          have w1 : IntKind.wrap .i64 (10 * ((dval (l.take k) : Nat) : Int)) = ((10 * dval (l.take k) : Nat) : Int) := by rw [wrap64 (by omega)]; omega
          have w2 := digWrap (x := l[k]) (by omega)
          have w3 : IntKind.wrap .i64 (((10 * dval (l.take k) : Nat) : Int) + ((l[k].toNat - 48 : Nat) : Int)) = ((dval (l.take (k + 1)) : Nat) : Int) := by rw [hst, wrap64 (by omega)]; omega
          have w4 : IntKind.wrap .i64 ((k : Int) + 1) = ((k + 1 : Nat) : Int) := by rw [wrap64 (by omega)]; omega
          simp only [L_num_Parse_k4, cond_false, w1, w2, w3, w4]
          exact ih (k + 1) f (by omega) (by omega) (by omega) (all_step hlt hall (isDig_true (by omega) (by omega))) (by omega)
theorem lParse (l : List UInt8) (hl : l.length ≤ 2147483648) : L_num_Parse l = some (parseD (parseL l)) := by
  unfold L_num_Parse
  rw [Nat.ble_eq_true_of_le hl]
  exact lParse_loop l (by unfold maxLen; omega) l.length 0 fuel (by omega) (by omega) (by rw [fuel_eq]; omega) rfl (show 0 ≤ 10995116277769 by decide)
theorem dval_lt {l : List UInt8} (h : l.all isDig = true) : dval l < 10 ^ l.length := by
  suffices H : ∀ (l : List UInt8) (a k : Nat), l.all isDig = true → a < 10 ^ k → l.foldl (fun a c => 10 * a + (c.toNat - 48)) a < 10 ^ (k + l.length) by
    have := H l 0 0 h (by simp)
    simpa [dval] using this
  intro l
  induction l with
  | nil => intro a k _ h; simpa using h
  | cons c r ih =>
    intro a k hd h
    rw [List.all_cons, Bool.and_eq_true] at hd
    have hc : c.toNat ≤ 57 := by have := hd.1; simp [isDig] at this; exact this.2
    have := ih (10 * a + (c.toNat - 48)) (k + 1) hd.2 (by rw [Nat.pow_succ]; omega)
    simp only [List.foldl_cons, List.length_cons]
    rw [show k + (r.length + 1) = k + 1 + r.length by omega]
    exact this
theorem dval_take13 {l : List UInt8} {k : Nat} (h : (l.take k).all isDig = true) (hk : k ≤ 13) : dval (l.take k) < 10000000000000 := by
  have h1 := dval_lt h
  have h2 : (l.take k).length ≤ 13 := by rw [List.length_take]; omega
  have h3 := Nat.pow_le_pow_right (show 0 < 10 by omega) h2
  have h6 : (10 : Nat) ^ 13 = 10000000000000 := by decide
  omega
theorem rParse_loop (l : List UInt8) (hl : l.length ≤ maxLen) : ∀ (d k f : Nat), d = l.length - k → k ≤ l.length → k ≤ 13 → d < f → (l.take k).all isDig = true →
    L_subwayref01_Parse_l3 l f ((dval (l.take k) : Nat) : Int) (k : Int) = some (parseD (parseL l)) := by
  unfold maxLen at hl
  intro d
  induction d with
  | zero =>
    intro k f hd hk hk13 hf hall
    obtain ⟨f, rfl⟩ : ∃ g, f = g + 1 := ⟨f - 1, by omega⟩
    have hv := dval_take13 hall hk13
    show L_subwayref01_Parse_b3 (L_subwayref01_Parse_l3 l f) l _ _ = _
    unfold L_subwayref01_Parse_b3
    rw [show decide ((k : Int) < ((List.length l : Nat) : Int)) = false by simp; omega]
    have e : l.take k = l := List.take_of_length_le (by omega)
    rw [e] at hall hv ⊢
    simp only [cond_false]
    cases hll : l with
    | nil =>
      have hp : parseL [] = none := by unfold parseL; rw [if_neg]; rintro ⟨_, _, h⟩; exact dec_ne _ h
      rw [hp]
      rfl
    | cons c r =>
      rw [← hll]
      have hlen : l.length = r.length + 1 := by rw [hll]; rfl
      rw [show (((List.length l : Nat) : Int) == 0) = false by rw [beq_eq_false_iff_ne]; omega, show idx l 0 = some c by rw [hll]; rfl]
      simp only [cond_false, Option.bind_some]
      have main : decDigits (dval l) = l → L_subwayref01_Parse_k7 (L_subwayref01_Parse_l3 l f) ((dval l : Nat) : Int) (decide (((dval l : Nat) : Int) > 1099511627776)) = some (parseD (parseL l)) := by
        intro he
        by_cases hm : dval l ≤ maxNum
        · have hp : parseL l = some (dval l) := by unfold parseL; rw [if_pos ⟨hall, hm, he⟩]
          unfold maxNum at hm
          rw [hp, show decide (((dval l : Nat) : Int) > 1099511627776) = false by simp; omega]
          rfl
        · have hp : parseL l = none := by unfold parseL; rw [if_neg fun h => hm h.2.1]
          unfold maxNum at hm
          rw [hp, show decide (((dval l : Nat) : Int) > 1099511627776) = true by simp; omega]
          rfl
      have hhead : l.headD 0 = c := by rw [hll]; rfl
      by_cases h48 : c = 48
      · rw [show (((c.toNat : Nat) : Int) == 48) = true by rw [h48]; rfl]
        simp only [cond_true]
        by_cases h1 : 1 < l.length
        · rw [show decide (((List.length l : Nat) : Int) > 1) = true by simp; omega]
          have hp : parseL l = none := by
            unfold parseL
            rw [if_neg]
            rintro ⟨_, _, he⟩
            by_cases h0 : dval l = 0
            · rw [h0, dec_small (by omega)] at he
              have := congrArg List.length he
              simp at this
              omega
            · exact dec_head h0 (by rw [he, hhead, h48])
          rw [hp]
          rfl
        · rw [show decide (((List.length l : Nat) : Int) > 1) = false by simp; omega]
          exact main (dec_dval l hall (by rw [hll]; simp) (.inr (by omega)))
      · rw [show (((c.toNat : Nat) : Int) == 48) = false by
          rw [beq_eq_false_iff_ne]
          intro h
          exact h48 (UInt8.toNat_inj.1 (show c.toNat = (48 : UInt8).toNat from by have h9 : (48 : UInt8).toNat = 48 := rfl; omega))]
        exact main (dec_dval l hall (by rw [hll]; simp) (.inl (by rw [hhead]; exact h48)))
  | succ d ih =>
    intro k f hd hk hk13 hf hall
    obtain ⟨f, rfl⟩ : ∃ g, f = g + 1 := ⟨f - 1, by omega⟩
    have hlt : k < l.length := by omega
    have hv := dval_take13 hall hk13
    show L_subwayref01_Parse_b3 (L_subwayref01_Parse_l3 l f) l _ _ = _
    unfold L_subwayref01_Parse_b3
    have hx : idx l (k : Int) = some l[k] := idx_get hlt
    rw [show decide ((k : Int) < ((List.length l : Nat) : Int)) = true by simp; omega, hx]
    simp only [cond_true, Option.bind_some]
    by_cases h1 : l[k].toNat < 48
    · rw [show decide (((l[k].toNat : Nat) : Int) < 48) = true by simp; omega, parse_not hlt (isDig_false (.inl h1))]
      rfl
    · rw [show decide (((l[k].toNat : Nat) : Int) < 48) = false by simp; omega]
      simp only [cond_false]
      by_cases h2 : 57 < l[k].toNat
      · rw [show decide (((l[k].toNat : Nat) : Int) > 57) = true by simp; omega, parse_not hlt (isDig_false (.inr h2))]
        rfl
      · rw [show decide (((l[k].toNat : Nat) : Int) > 57) = false by simp; omega]
        simp only [cond_false]
        by_cases h3 : 13 ≤ k
        · have hp : parseL l = none := by
            unfold parseL
            rw [if_neg]
            rintro ⟨_, hm, he⟩
            have := dec_len13 hm
            rw [he] at this
            omega
          rw [hp, show decide ((k : Int) ≥ 13) = true by simp; omega]
          rfl
        · rw [show decide ((k : Int) ≥ 13) = false by simp; omega]
          have hst := dval_step hlt
          have w1 : IntKind.wrap .i64 (10 * ((dval (l.take k) : Nat) : Int)) = ((10 * dval (l.take k) : Nat) : Int) := by rw [wrap64 (by omega)]; omega
          have w2 := digWrap (x := l[k]) (by omega)
          have w3 : IntKind.wrap .i64 (((10 * dval (l.take k) : Nat) : Int) + ((l[k].toNat - 48 : Nat) : Int)) = ((dval (l.take (k + 1)) : Nat) : Int) := by rw [hst, wrap64 (by omega)]; omega
          have w4 : IntKind.wrap .i64 ((k : Int) + 1) = ((k + 1 : Nat) : Int) := by rw [wrap64 (by omega)]; omega
          simp only [L_subwayref01_Parse_k6, cond_false, hx, Option.bind_some, w1, w2, w3, w4]
          exact ih (k + 1) f (by omega) (by omega) (by omega) (by omega) (all_step hlt hall (isDig_true (by omega) (by omega)))
theorem rParse (l : List UInt8) (hl : l.length ≤ maxLen) : L_subwayref01_Parse l = some (parseD (parseL l)) := by
  have hl' := hl
  unfold maxLen at hl'
  exact rParse_loop l hl l.length 0 fuel (by omega) (by omega) (by omega) (by rw [fuel_eq]; omega) rfl
end Go.Proofs.YthnakiihenbcjaaDoor
