/- What the lifted functions of subwayref01 compute, in the words of NumSpec. -/
import Derived.Test.YtjpchjbbfbmjgaaDoorLR1
import Derived.Test.YtjpchjbbfbmjgaaDoorPlain
import Derived.Test.YtjpchjbbfbmjgaaDoorNumSpec
import Derived.Test.YtjpchjbbfbmjgaaDoorNumW
namespace Go.Proofs.YtjpchjbbfbmjgaaDoor
set_option linter.unusedSimpArgs false
set_option linter.unusedVariables false
theorem rText_eq (s : List UInt8) : L_subwayref01_Text s = some (textL s) := by
  unfold L_subwayref01_Text textL
  by_cases h : 255 < s.length
  · rw [if_pos h, show decide (((List.length s : Nat) : Int) > 255) = true by simp; omega]
    rfl
  · rw [if_neg h, show decide (((List.length s : Nat) : Int) > 255) = false by simp; omega, toU8_wrap, app_ok (by simp only [List.length_cons, List.length_nil]; omega)]
    rfl
theorem rRead_eq (l : List UInt8) (hl : l.length ≤ maxLen) : L_subwayref01_Read l = some (readD (readL l)) := by
  unfold maxLen at hl
  cases l with
  | nil => rfl
  | cons c r =>
    have hc := u8_lt c
    simp only [List.length_cons] at hl
    have h0 : (((List.length (c :: r) : Nat) : Int) == 0) = false := by rw [beq_eq_false_iff_ne]; simp only [List.length_cons]; omega
    have hi : idx (c :: r) 0 = some c := rfl
    have w1 : IntKind.wrap .i64 ((c.toNat : Int)) = (c.toNat : Int) := wrap64 (by omega)
    have w2 : IntKind.wrap .i64 (((List.length (c :: r) : Nat) : Int) - 1) = (r.length : Int) := by rw [wrap64 (by simp only [List.length_cons]; omega)]; simp only [List.length_cons]; omega
    unfold L_subwayref01_Read
    simp only [h0, cond_false, hi, Option.bind_some, w1, w2, L_subwayref01_Read_k1]
    by_cases hlt : r.length < c.toNat
    · rw [show decide ((c.toNat : Int) > (r.length : Int)) = true by simp; omega, readL, if_pos hlt]
      rfl
    · have w3 : IntKind.wrap .i64 ((c.toNat : Int) + 1) = ((c.toNat + 1 : Nat) : Int) := wrap64 (by omega)
      have hs : sub (c :: r) 1 ((c.toNat + 1 : Nat) : Int) = some (r.take c.toNat) := by
        have := sub_nat (c :: r) (i := 1) (j := c.toNat + 1) (by omega) (by simp only [List.length_cons]; omega)
        rw [show ((1 : Nat) : Int) = 1 from rfl] at this
        rw [this]
        rfl
      rw [show decide ((c.toNat : Int) > (r.length : Int)) = false by simp; omega, readL, if_neg hlt, w3]
      simp only [cond_false, hs, Option.bind_some]
      rfl
theorem rPut_loop : ∀ (j : Nat) (v : Nat) (out : List UInt8) (f : Nat), v < 128 ^ j → j ≤ 6 → j < f → out.length + j ≤ 100 → L_subwayref01_Put_l2 f (v : Int) out = some ((digs j v).map hi ++ out) := by
  intro j
  induction j with
  | zero =>
    intro v out f hv _ hf _
    have : v = 0 := by simpa using hv
    subst this
    obtain ⟨f, rfl⟩ : ∃ g, f = g + 1 := ⟨f - 1, by omega⟩
    rfl
  | succ j ih =>
    intro v out f hv hj hf ho
    obtain ⟨f, rfl⟩ : ∃ g, f = g + 1 := ⟨f - 1, by omega⟩
    show L_subwayref01_Put_b2 (L_subwayref01_Put_l2 f) (v : Int) out = _
    unfold L_subwayref01_Put_b2
    by_cases h0 : v = 0
    · subst h0
      rw [digs_zero]
      rfl
    · have hvs : v < 128 ^ 6 := Nat.lt_of_lt_of_le hv (Nat.pow_le_pow_right (by omega) hj)
      have hb : toU8 (IntKind.wrap .u8 (IntKind.wrap .u8 (Int.tmod (v : Int) 128) + 128)) = hi (v % 128) := by
        have := tmod_nat v 128
        rw [show ((128 : Nat) : Int) = 128 from rfl] at this
        rw [this, wrap8_small (x := ((v % 128 : Nat) : Int)) (by omega), show (((v % 128 : Nat) : Int) + 128) = ((v % 128 + 128 : Nat) : Int) by omega, toU8_wrap]
        rfl
      have hd : IntKind.wrap .i64 (Int.tdiv (v : Int) 128) = ((v / 128 : Nat) : Int) := by
        have := tdiv_nat v 128
        rw [show ((128 : Nat) : Int) = 128 from rfl] at this
        rw [this]
        have h6 : (128 : Nat) ^ 6 = 4398046511104 := by decide
        exact wrap64 (by omega)
      rw [show decide ((v : Int) > 0) = true by simp; omega, hb, hd, app_ok (by simp only [List.length_cons, List.length_nil]; omega)]
      simp only [cond_true, Option.bind_some]
      rw [ih (v / 128) _ f (Nat.div_lt_of_lt_mul (by rw [Nat.pow_succ, Nat.mul_comm] at hv; exact hv)) (by omega) (by omega) (by simp; omega), digs_pos h0]
      simp
theorem rPut_eq (n : Int) : L_subwayref01_Put n = some (putL n) := by
  unfold L_subwayref01_Put putL
  by_cases h : 0 ≤ n ∧ n ≤ 1099511627776
  · rw [if_pos h, show decide (n < 0) = false by simp; omega, show decide (n > 1099511627776) = false by simp; omega]
    obtain ⟨m, rfl⟩ := Int.eq_ofNat_of_zero_le h.1
    have hm : m ≤ 1099511627776 := by omega
    have hd : IntKind.wrap .i64 (Int.tdiv (m : Int) 128) = ((m / 128 : Nat) : Int) := by
      have := tdiv_nat m 128
      rw [show ((128 : Nat) : Int) = 128 from rfl] at this
      rw [this]
      exact wrap64 (by omega)
    have hb : toU8 (IntKind.wrap .u8 (Int.tmod (m : Int) 128)) = UInt8.ofNat (m % 128) := by
      have := tmod_nat m 128
      rw [show ((128 : Nat) : Int) = 128 from rfl] at this
      rw [this, toU8_wrap]
    simp only [cond_false, L_subwayref01_Put_k1, hd, hb]
    rw [rPut_loop 6 (m / 128) _ fuel (by have h6 : (128 : Nat) ^ 6 = 4398046511104 := by decide
                                         omega) (by omega) (by rw [fuel_eq]; omega) (by simp)]
    rfl
  · rw [if_neg h]
    by_cases h0 : n < 0
    · rw [show decide (n < 0) = true by simp; omega]
      rfl
    · rw [show decide (n < 0) = false by simp; omega, show decide (n > 1099511627776) = true by simp; omega]
      rfl
theorem low_none_of {l : List UInt8} {k : Nat} (hk : k = l.length ∨ k = 6) (hkl : k ≤ l.length) (hk6 : k ≤ 6) (h : ∀ j, j < k → ¬ (l.getD j 0).toNat < 128) : low l = none := by
  unfold low
  rw [List.findIdx?_eq_none_iff]
  intro x hx
  obtain ⟨j, hj, rfl⟩ := List.mem_iff_getElem.1 hx
  simp only [List.length_take] at hj
  have := h j (by omega)
  simp only [List.getD, List.getElem?_eq_getElem (show j < l.length by omega), Option.getD_some] at this
  simpa using this
theorem low_some_of {l : List UInt8} {k : Nat} (hkl : k < l.length) (hk6 : k < 6) (h : ∀ j, j < k → ¬ (l.getD j 0).toNat < 128) (hx : (l.getD k 0).toNat < 128) : low l = some k := by
  unfold low
  rw [List.findIdx?_eq_some_iff_getElem]
  refine ⟨by simp; omega, ?_, fun j hj => ?_⟩
  · simpa [List.getD, List.getElem?_eq_getElem hkl] using hx
  · have := h j hj
    simpa [List.getD, List.getElem?_eq_getElem (show j < l.length by omega)] using this
theorem val_step {l : List UInt8} {k : Nat} (hk : k < l.length) : val (l.take (k + 1)) = 128 * val (l.take k) + (l.getD k 0).toNat % 128 := by
  rw [List.take_succ_eq_append_getElem hk, val_snoc]
  simp [List.getD, List.getElem?_eq_getElem hk]
theorem val_take_lt {l : List UInt8} {k : Nat} (hk : k ≤ 6) : val (l.take k) < 4398046511104 := by
  have h1 := val_lt (l.take k)
  have h2 : (l.take k).length ≤ 6 := by rw [List.length_take]; omega
  have h3 := Nat.pow_le_pow_right (show 0 < 128 by omega) h2
  have h6 : (128 : Nat) ^ 6 = 4398046511104 := by decide
  omega
theorem rGet_loop (l : List UInt8) (hl : l.length ≤ maxLen) : ∀ (d k f : Nat), d = 6 - k → k ≤ 6 → k ≤ l.length → d < f → (∀ j, j < k → ¬ (l.getD j 0).toNat < 128) → (0 < k → l.headD 0 ≠ 128) →
    L_subwayref01_Get_l3 l f ((val (l.take k) : Nat) : Int) (k : Int) = some (getD3 (getL l)) := by
  intro d
  induction d with
  | zero =>
    intro k f hd hk hkl hf hall hh
    obtain ⟨f, rfl⟩ : ∃ g, f = g + 1 := ⟨f - 1, by omega⟩
    have hk6 : k = 6 := by omega
    subst hk6
    have hlow := low_none_of (.inr rfl) hkl (by omega) hall
    show L_subwayref01_Get_b3 (L_subwayref01_Get_l3 l f) l _ _ = _
    unfold L_subwayref01_Get_b3
    have hg : getL l = none := by unfold getL; rw [hlow]
    rw [hg]
    cases decide (((6 : Nat) : Int) < ((List.length l : Nat) : Int)) <;> rfl
  | succ d ih =>
    intro k f hd hk hkl hf hall hh
    obtain ⟨f, rfl⟩ : ∃ g, f = g + 1 := ⟨f - 1, by omega⟩
    show L_subwayref01_Get_b3 (L_subwayref01_Get_l3 l f) l _ _ = _
    unfold L_subwayref01_Get_b3
    have hk6 : k < 6 := by omega
    by_cases hlt : k < l.length
    · rw [show decide ((k : Int) < ((List.length l : Nat) : Int)) = true by simp; omega, show decide ((k : Int) < 6) = true by simp; omega]
      have hx : idx l (k : Int) = some l[k] := idx_get hlt
      have hgd : l.getD k 0 = l[k] := by simp [List.getD, List.getElem?_eq_getElem hlt]
      have h128 : k = 0 ∧ l.headD 0 = 128 ∨ ¬ (k = 0 ∧ l.headD 0 = 128) := Classical.em _
      have hhead : k = 0 → l.headD 0 = l[k] := by
        intro h; subst h
        cases l with
        | nil => simp at hlt
        | cons c r => rfl
      rcases h128 with ⟨h0, h1⟩ | h128
      · have hk0 : ((k : Int) == 0) = true := by rw [h0]; rfl
        have hb : (((l[k].toNat : Nat) : Int) == 128) = true := by rw [← hhead h0, h1]; rfl
        have hg : getL l = none := by
          unfold getL
          cases hq : low l with
          | none => rfl
          | some e => exact if_pos (.inl h1)
        simp only [cond_true, L_subwayref01_Get_k6, hk0, hx, Option.bind_some, hb, L_subwayref01_Get_k7, hg]
        rfl
      · have hbr : (cond ((k : Int) == 0) ((idx l (k : Int)).bind fun x => L_subwayref01_Get_k7 (L_subwayref01_Get_l3 l f) l ((val (l.take k) : Nat) : Int) (k : Int) (((x).toNat : Int) == 128)) (L_subwayref01_Get_k7 (L_subwayref01_Get_l3 l f) l ((val (l.take k) : Nat) : Int) (k : Int) false)) = L_subwayref01_Get_k7 (L_subwayref01_Get_l3 l f) l ((val (l.take k) : Nat) : Int) (k : Int) false := by
          cases hk0 : ((k : Int) == 0) with
          | false => rfl
          | true =>
            have hk0' : k = 0 := by have := beq_iff_eq.1 hk0; omega
            have hne : (((l[k].toNat : Nat) : Int) == 128) = false := by
              rw [beq_eq_false_iff_ne]
              intro h
              refine h128 ⟨hk0', ?_⟩
              rw [hhead hk0']
              apply UInt8.toNat_inj.1
              show l[k].toNat = 128
              omega
            rw [hx]
            simp only [cond_true, Option.bind_some, hne]
        have hh' : l.headD 0 ≠ 128 := by
          by_cases h0 : k = 0
          · exact fun h => h128 ⟨h0, h⟩
          · exact hh (by omega)
        have hv := val_take_lt (l := l) (k := k) (by omega)
        have hv' := val_take_lt (l := l) (k := k + 1) (by omega)
        have hst := val_step hlt
        rw [hgd] at hst
        have w1 : IntKind.wrap .i64 (128 * ((val (l.take k) : Nat) : Int)) = ((128 * val (l.take k) : Nat) : Int) := by rw [wrap64 (by omega)]; omega
        have w2 : IntKind.wrap .i64 (Int.tmod ((l[k].toNat : Nat) : Int) 128) = ((l[k].toNat % 128 : Nat) : Int) := by
          have := tmod_nat l[k].toNat 128
          rw [show ((128 : Nat) : Int) = 128 from rfl] at this
          rw [this]
          exact wrap64 (by omega)
        have w3 : IntKind.wrap .i64 (((128 * val (l.take k) : Nat) : Int) + ((l[k].toNat % 128 : Nat) : Int)) = ((val (l.take (k + 1)) : Nat) : Int) := by rw [hst, wrap64 (by omega)]; omega
        have w4 : IntKind.wrap .i64 ((k : Int) + 1) = ((k + 1 : Nat) : Int) := by rw [wrap64 (by omega)]; omega
        simp only [cond_true, L_subwayref01_Get_k6]
        rw [hbr]
        simp only [L_subwayref01_Get_k7, cond_false, hx, Option.bind_some, w1, w2, w3, w4]
        by_cases hsm : l[k].toNat < 128
        · have hlow := low_some_of hlt hk6 hall (by rw [hgd]; exact hsm)
          rw [show decide (((l[k].toNat : Nat) : Int) < 128) = true by simp; omega]
          unfold getL
          rw [hlow]
          simp only [cond_true]
          by_cases hbig : maxNum < val (l.take (k + 1))
          · rw [if_pos (.inr hbig), show decide (((val (l.take (k + 1)) : Nat) : Int) > 1099511627776) = true by unfold maxNum at hbig; simp; omega]
            rfl
          · rw [if_neg (by rintro (h | h); exact hh' h; exact hbig h), show decide (((val (l.take (k + 1)) : Nat) : Int) > 1099511627776) = false by unfold maxNum at hbig; simp; omega]
            rfl
        · rw [show decide (((l[k].toNat : Nat) : Int) < 128) = false by simp; omega]
          simp only [cond_false]
          refine ih (k + 1) f (by omega) (by omega) (by omega) (by omega) (fun j hj => ?_) (fun _ => hh')
          by_cases hjk : j = k
          · subst hjk; rw [hgd]; exact hsm
          · exact hall j (by omega)
    · rw [show decide ((k : Int) < ((List.length l : Nat) : Int)) = false by simp; omega]
      have hlow := low_none_of (k := k) (.inl (by omega)) hkl hk hall
      have hg : getL l = none := by unfold getL; rw [hlow]
      rw [hg]
      rfl
theorem rGet_eq (l : List UInt8) (hl : l.length ≤ maxLen) : L_subwayref01_Get l = some (getD3 (getL l)) := by
  unfold L_subwayref01_Get
  exact rGet_loop l hl 6 0 fuel rfl (by omega) (by omega) (by rw [fuel_eq]; omega) (fun j hj => absurd hj (by omega)) (fun h => absurd h (by omega))
end Go.Proofs.YtjpchjbbfbmjgaaDoor
