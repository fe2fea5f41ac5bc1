/- The plain law of NumDigits: what the lifted law computes is true. -/
import Derived.Test.YtjpchjbbfbmjgaaDoorLNumDigits
import Derived.Test.YtjpchjbbfbmjgaaDoorNumHead
namespace Go.Proofs.YtjpchjbbfbmjgaaDoor
set_option linter.unusedSimpArgs false
set_option linter.unusedVariables false
theorem modMaxD (a : Nat) : IntKind.wrap .i64 (Int.tmod (a : Int) 1099511627777) = ((a % 1099511627777 : Nat) : Int) := by
  have := tmod_nat a 1099511627777
  rw [show ((1099511627777 : Nat) : Int) = 1099511627777 from rfl] at this
  rw [this]
  exact wrap64 (by omega)
theorem put_high {n i : Nat} (h : i + 1 < (putN n).length) : 128 ≤ ((putN n)[i]'(by omega)).toNat := by
  have hl := putN_length n
  have e : (putN n)[i]'(by omega) = ((digs 6 (n / 128)).map hi)[i]'(by rw [List.length_map]; omega) := by
    simp only [putN_parts]
    rw [List.getElem_append_left]
  rw [e]
  simp only [List.getElem_map]
  rw [hi_toNat (digs_lt _ _ _ (List.getElem_mem _))]
  omega
theorem put_low {n : Nat} : ((putN n)[(putN n).length - 1]'(by have := putN_length n; omega)).toNat < 128 := by
  have hl := putN_length n
  have e : (putN n)[(putN n).length - 1]'(by omega) = UInt8.ofNat (n % 128) := by
    simp only [putN_parts]
    rw [List.getElem_append_right (by simp)]
    simp
  rw [e, small_toNat (by omega)]
  omega
theorem digits_loop (g : Int → Int → Option Bool) (n : Nat) (hn : n ≤ maxNum) (w : Int) (hw : w = ((putN n).length : Int)) : ∀ (d i f : Nat), d = (putN n).length - i → i ≤ (putN n).length → d < f →
    L_subwaylaw01_NumDigits_l11 g true w (putN n) f ((i : Nat) : Int) = some true := by
  have hpl := putN_length_le n
  have hpp := putN_length n
  intro d
  induction d with
  | zero =>
    intro i f hd hi hf
    obtain ⟨f, rfl⟩ : ∃ g, f = g + 1 := ⟨f - 1, by omega⟩
    show L_subwaylaw01_NumDigits_b11 g (L_subwaylaw01_NumDigits_l11 g true w (putN n) f) true w (putN n) _ = _
    unfold L_subwaylaw01_NumDigits_b11
    rw [show decide (((i : Nat) : Int) < ((List.length (putN n) : Nat) : Int)) = false by simp; omega]
    simp only [cond_false, cond_true]
    by_cases h1 : w = 1
    · rw [h1]
      rfl
    · rw [show (w == 1) = false by simpa using h1]
      have hx : idx (putN n) 0 = some ((putN n)[0]'(by omega)) := by
        have := idx_get (l := putN n) (i := 0) (by omega)
        exact this
      have hne : (putN n)[0]'(by omega) ≠ 128 := by
        intro e
        refine put_head hn [] ?_
        rw [List.append_nil]
        cases hc : putN n with
        | nil => exact absurd hc (putN_ne n)
        | cons c r =>
          have : (putN n)[0]'(by omega) = c := by simp only [hc]; rfl
          rw [← this, e]
          rfl
      rw [hx]
      simp only [Option.bind_some, cond_false]
      rw [show ((((putN n)[0]'(by omega)).toNat : Int) != 128) = true by
        rw [bne_iff_ne]
        intro h
        exact hne (UInt8.toNat_inj.1 (show _ = (128 : UInt8).toNat from by have h9 : (128 : UInt8).toNat = 128 := rfl; omega))]
      rfl
  | succ d ih =>
    intro i f hd hi hf
    obtain ⟨f, rfl⟩ : ∃ g, f = g + 1 := ⟨f - 1, by omega⟩
    have hlt : i < (putN n).length := by omega
    show L_subwaylaw01_NumDigits_b11 g (L_subwaylaw01_NumDigits_l11 g true w (putN n) f) true w (putN n) _ = _
    unfold L_subwaylaw01_NumDigits_b11
    have w1 : IntKind.wrap .i64 (((List.length (putN n) : Nat) : Int) - 1) = (((putN n).length - 1 : Nat) : Int) := by rw [wrap64 (by omega)]; omega
    have w4 : IntKind.wrap .i64 ((i : Int) + 1) = ((i + 1 : Nat) : Int) := by rw [wrap64 (by omega)]; omega
    have hb : ((decide ((((putN n)[i]'hlt).toNat : Int) ≥ 128)) == (decide (((i : Nat) : Int) < (((putN n).length - 1 : Nat) : Int)))) = true := by
      by_cases hlast : i + 1 < (putN n).length
      · have := put_high hlast
        rw [show decide ((((putN n)[i]'hlt).toNat : Int) ≥ 128) = true by simp; omega, show decide (((i : Nat) : Int) < (((putN n).length - 1 : Nat) : Int)) = true by simp; omega]
        rfl
      · have hil : i = (putN n).length - 1 := by omega
        have := put_low (n := n)
        rw [show decide ((((putN n)[i]'hlt).toNat : Int) ≥ 128) = false by subst hil; simp; omega, show decide (((i : Nat) : Int) < (((putN n).length - 1 : Nat) : Int)) = false by simp; omega]
        rfl
    rw [show decide (((i : Nat) : Int) < ((List.length (putN n) : Nat) : Int)) = true by simp; omega, idx_get hlt]
    simp only [cond_true, Option.bind_some, w1, w4, hb, Bool.not_true, cond_false]
    exact ih (i + 1) f (by omega) (by omega) (by omega)
theorem want_loop (p : Int) (n : Nat) (hn : n ≤ maxNum) (hp : IntKind.wrap .i64 (Int.tmod p 1099511627777) = ((n : Nat) : Int)) : ∀ (j x : Nat) (f : Nat) (w : Nat), x < 128 ^ (j + 1) → x ≤ maxNum → j < f → w ≤ 100 → w + (digs 6 (x / 128)).length = (putN n).length →
    L_subwaylaw01_NumDigits_l5 p true f ((w : Nat) : Int) ((x : Nat) : Int) = some true := by
  have hpl := putN_length_le n
  intro j
  induction j with
  | zero =>
    intro x f w hx hm hf hw hlen
    obtain ⟨f, rfl⟩ : ∃ g, f = g + 1 := ⟨f - 1, by omega⟩
    have hx' : x < 128 := by simpa using hx
    have h0 : x / 128 = 0 := by omega
    rw [h0, digs_zero] at hlen
    show L_subwaylaw01_NumDigits_b5 (L_subwaylaw01_NumDigits_l5 p true f) p true _ _ = _
    unfold L_subwaylaw01_NumDigits_b5
    rw [show decide (((x : Nat) : Int) > 127) = false by simp; omega, hp]
    have e1 : putL ((n : Nat) : Int) = putN n := by unfold maxNum at hn; unfold putL; rw [if_pos (by omega), Int.toNat_natCast]
    simp only [cond_false, L_num_Put, e1, Option.bind_some]
    have hw' : ((w : Nat) : Int) = ((putN n).length : Int) := by simp only [List.length_nil] at hlen; omega
    rw [hw', show ((((putN n).length : Nat) : Int) != ((putN n).length : Int)) = false by simp]
    exact digits_loop _ n hn _ rfl (putN n).length 0 fuel (by omega) (by omega) (by rw [fuel_eq]; omega)
  | succ j ih =>
    intro x f w hx hm hf hw hlen
    by_cases h0 : x < 128
    · obtain ⟨f, rfl⟩ : ∃ g, f = g + 1 := ⟨f - 1, by omega⟩
      exact ih x (f + 1) w (by rw [Nat.pow_succ]; exact Nat.lt_of_lt_of_le h0 (by have := Nat.one_le_pow j 128 (by omega); omega)) hm (by omega) hw hlen
    · obtain ⟨f, rfl⟩ : ∃ g, f = g + 1 := ⟨f - 1, by omega⟩
      show L_subwaylaw01_NumDigits_b5 (L_subwaylaw01_NumDigits_l5 p true f) p true _ _ = _
      unfold L_subwaylaw01_NumDigits_b5
      rw [show decide (((x : Nat) : Int) > 127) = true by simp; omega]
      have hd : IntKind.wrap .i64 (Int.tdiv ((x : Nat) : Int) 128) = ((x / 128 : Nat) : Int) := by
        have := tdiv_nat x 128
        rw [show ((128 : Nat) : Int) = 128 from rfl] at this
        unfold maxNum at hm
        rw [this]
        exact wrap64 (by omega)
      have hw1 : IntKind.wrap .i64 (((w : Nat) : Int) + 1) = ((w + 1 : Nat) : Int) := by rw [wrap64 (by omega)]; omega
      simp only [cond_true, hd, hw1]
      have hq : digs 6 (x / 128) = digs 5 (x / 128 / 128) ++ [x / 128 % 128] := digs_pos (by omega)
      have hq2 : digs 6 (x / 128 / 128) = digs 5 (x / 128 / 128) := digs_more 5 1 _ (by
        unfold maxNum at hm
        have : (128 : Nat) ^ 5 = 34359738368 := by decide
        omega)
      rw [hq, List.length_append, List.length_singleton] at hlen
      refine ih (x / 128) f (w + 1) (by rw [Nat.pow_succ] at hx; omega) (by omega) (by omega) ?_ (by rw [hq2]; omega)
      omega
theorem numDigits_true (a : Int) (ha : 0 ≤ a) : L_subwaylaw01_NumDigits a = some true := by
  obtain ⟨x, rfl⟩ := Int.eq_ofNat_of_zero_le ha
  unfold L_subwaylaw01_NumDigits
  rw [numHead_true]
  simp only [Option.bind_some, modMaxD]
  have hx : x % 1099511627777 ≤ maxNum := by unfold maxNum; omega
  have h1 : ((1 : Nat) : Int) = 1 := rfl
  rw [← h1]
  refine want_loop _ (x % 1099511627777) hx (modMaxD x) 5 _ fuel 1 ?_ hx (by rw [fuel_eq]; omega) (by omega) ?_
  · have : (128 : Nat) ^ 6 = 4398046511104 := by decide
    omega
  · rw [putN_length]
    omega
end Go.Proofs.YtjpchjbbfbmjgaaDoor
