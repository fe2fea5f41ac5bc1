/- Plain laws of numbers and texts in bytes: what is put is got, and what is got was put so. Nothing of the program. -/
import Derived.Test.YtfffjaijflbeaaaDoorNumSpec
namespace Go.Proofs.YtfffjaijflbeaaaDoor
set_option linter.unusedSimpArgs false
set_option linter.unusedVariables false
theorem hi_toNat {d : Nat} (h : d < 128) : (hi d).toNat = d + 128 := by
  simp [hi]; omega
theorem val_hi {f m : Nat} (h : m < 128 ^ f) : val ((digs f m).map hi) = m := by
  induction f generalizing m with
  | zero =>
    have : m = 0 := by simpa using h
    subst this
    simp [digs, val]
  | succ f ih =>
    by_cases h0 : m = 0
    · subst h0; simp [digs, val]
    · rw [digs_pos h0, List.map_append, List.map_singleton, val_snoc, ih, hi_toNat (Nat.mod_lt _ (by omega))]
      · omega
      · rw [Nat.pow_succ] at h
        exact Nat.div_lt_of_lt_mul (by rw [Nat.mul_comm]; exact h)
theorem digs_head {f m : Nat} (h0 : m ≠ 0) (h : m < 128 ^ f) : ∃ d r, digs f m = d :: r ∧ d ≠ 0 := by
  induction f generalizing m with
  | zero => exact absurd (by simpa using h) h0
  | succ f ih =>
    rw [digs_pos h0]
    by_cases h1 : m / 128 = 0
    · rw [h1, digs_zero]
      exact ⟨m % 128, [], rfl, by omega⟩
    · obtain ⟨d, r, e, hd⟩ := ih h1 (by rw [Nat.pow_succ] at h; exact Nat.div_lt_of_lt_mul (by rw [Nat.mul_comm]; exact h))
      exact ⟨d, r ++ [m % 128], by rw [e]; rfl, hd⟩
theorem small_of_max {n : Nat} (h : n ≤ maxNum) : n / 128 < 128 ^ 5 := by
  unfold maxNum at h
  have : (128 : Nat) ^ 5 = 34359738368 := by decide
  omega
theorem digs6_len {n : Nat} (h : n ≤ maxNum) : (digs 6 (n / 128)).length ≤ 5 := by
  rw [digs_more 5 1 _ (small_of_max h)]
  exact digs_length_le 5 _
theorem findIdx?_at {α : Type} {p : α → Bool} (xs : List α) (y : α) (zs : List α) (hx : ∀ x ∈ xs, p x = false) (hy : p y = true) : (xs ++ y :: zs).findIdx? p = some xs.length := by
  induction xs with
  | nil => simp [List.findIdx?_cons, hy]
  | cons x xs ih =>
    rw [List.cons_append, List.findIdx?_cons, hx x (by simp), ih fun z hz => hx z (by simp [hz])]
    simp
theorem putN_parts (n : Nat) : putN n = (digs 6 (n / 128)).map hi ++ [UInt8.ofNat (n % 128)] := rfl
theorem putN_length (n : Nat) : (putN n).length = (digs 6 (n / 128)).length + 1 := by simp [putN]
theorem low_put {n : Nat} (h : n ≤ maxNum) (r : List UInt8) : low (putN n ++ r) = some ((digs 6 (n / 128)).length) := by
  have hl := digs6_len h
  unfold low
  have e : (putN n ++ r).take 6 = (digs 6 (n / 128)).map hi ++ UInt8.ofNat (n % 128) :: r.take (5 - (digs 6 (n / 128)).length) := by
    rw [putN_parts, List.append_assoc, List.singleton_append, List.take_append, List.take_of_length_le (by simp; omega)]
    rw [List.length_map, show 6 - (digs 6 (n / 128)).length = (5 - (digs 6 (n / 128)).length) + 1 by omega, List.take_succ_cons]
  rw [e, findIdx?_at]
  · simp
  · intro x hx
    obtain ⟨d, hd, rfl⟩ := List.mem_map.1 hx
    have := hi_toNat (digs_lt _ _ d hd)
    simp [this]
  · simp; omega
theorem val_put {n : Nat} (h : n ≤ maxNum) : val (putN n) = n := by
  rw [putN_parts, val_snoc, val_hi]
  · simp; omega
  · exact Nat.lt_of_lt_of_le (small_of_max h) (Nat.pow_le_pow_right (by omega) (by omega))
theorem put_head {n : Nat} (h : n ≤ maxNum) (r : List UInt8) : (putN n ++ r).headD 0 ≠ 128 := by
  rw [putN_parts]
  by_cases h0 : n / 128 = 0
  · rw [h0, digs_zero]
    simp
    intro e
    have := congrArg UInt8.toNat e
    simp at this
    omega
  · obtain ⟨d, q, e, hd⟩ := digs_head (f := 6) h0 (Nat.lt_of_lt_of_le (small_of_max h) (Nat.pow_le_pow_right (by omega) (by omega)))
    rw [e]
    simp
    intro e2
    have h2 := congrArg UInt8.toNat e2
    have hlt := digs_lt 6 (n / 128) d (by rw [e]; simp)
    rw [hi_toNat hlt] at h2
    simp at h2
    omega
/-- what was put is got -/
theorem get_put {n : Nat} (h : n ≤ maxNum) (r : List UInt8) : getL (putN n ++ r) = some (n, (putN n).length) := by
  unfold getL
  rw [low_put h r]
  simp only
  have e : (putN n ++ r).take ((digs 6 (n / 128)).length + 1) = putN n := by
    rw [← putN_length, List.take_left']
    rfl
  rw [e, val_put h, if_neg (by rintro (h1 | h1); exact put_head h r h1; omega), putN_length]
theorem val_pos {c : UInt8} (xs : List UInt8) (h : c.toNat % 128 ≠ 0) : val (c :: xs) ≠ 0 := by
  suffices hs : ∀ (xs : List UInt8) (a : Nat), a ≠ 0 → xs.foldl (fun a c => 128 * a + c.toNat % 128) a ≠ 0 by
    unfold val
    rw [List.foldl_cons]
    exact hs xs _ (by omega)
  intro xs
  induction xs with
  | nil => intro a h; exact h
  | cons x xs ih => intro a h; rw [List.foldl_cons]; exact ih _ (by omega)
/-- digits that were got are those that are put -/
theorem hi_val (f : Nat) (xs : List UInt8) (hx : ∀ x ∈ xs, 128 ≤ x.toNat) (h0 : xs.headD 0 ≠ 128) (hl : xs.length ≤ f) : (digs f (val xs)).map hi = xs := by
  induction f generalizing xs with
  | zero =>
    have : xs = [] := List.length_eq_zero_iff.1 (by omega)
    subst this
    simp [digs]
  | succ f ih =>
    rcases List.eq_nil_or_concat xs with rfl | ⟨ys, c, rfl⟩
    · simp [val, digs]
    · simp only [List.concat_eq_append] at hx h0 hl ⊢
      have hc : 128 ≤ c.toNat := hx c (by simp)
      have hc2 := c.toNat_lt
      have hne : val (ys ++ [c]) ≠ 0 := by
        cases ys with
        | nil =>
          refine val_pos [] ?_
          simp at h0
          intro e
          exact h0 (UInt8.toNat_inj.1 (by simp; omega))
        | cons y ys =>
          refine val_pos _ ?_
          have hy : 128 ≤ y.toNat := hx y (by simp)
          have hy2 := y.toNat_lt
          simp at h0
          intro e
          exact h0 (UInt8.toNat_inj.1 (by simp; omega))
      have e0 := digs_pos (f := f) hne
      rw [e0, List.map_append]
      have e1 : val (ys ++ [c]) / 128 = val ys := by rw [val_snoc]; omega
      have e2 : val (ys ++ [c]) % 128 = c.toNat - 128 := by rw [val_snoc]; omega
      rw [e1, e2]
      have hys : (digs f (val ys)).map hi = ys := by
        refine ih ys (fun x h => hx x (by simp [h])) ?_ (by simp at hl; omega)
        cases ys with
        | nil => simp
        | cons y ys => simpa using h0
      have e3 : hi (c.toNat - 128) = c := UInt8.toNat_inj.1 (by rw [hi_toNat (by omega)]; omega)
      rw [hys, List.map_singleton, e3]
/-- what was got was put so -/
theorem put_get {l : List UInt8} {n k : Nat} (h : getL l = some (n, k)) : l = putN n ++ l.drop k ∧ k = (putN n).length ∧ n ≤ maxNum := by
  have hle := getL_le h
  unfold getL at h
  split at h
  · cases h
  · rename_i e he
    have hlt := low_lt he
    split at h
    · cases h
    · rename_i hn
      simp only [Option.some.injEq, Prod.mk.injEq] at h
      obtain ⟨hv, hk⟩ := h
      unfold low at he
      rw [List.findIdx?_eq_some_iff_getElem] at he
      obtain ⟨h1, h2, h3⟩ := he
      have ht : l.take (e + 1) = l.take e ++ [l[e]'hlt.1] := by rw [List.take_add_one, List.getElem?_eq_getElem hlt.1]; rfl
      have hee : (l[e]'hlt.1).toNat < 128 := by
        have := h2
        simp only [List.getElem_take, decide_eq_true_eq] at this
        exact this
      have hxs : ∀ x ∈ l.take e, 128 ≤ x.toNat := by
        intro x hx
        obtain ⟨j, hj, rfl⟩ := List.mem_iff_getElem.1 hx
        simp only [List.length_take] at hj
        have := h3 j (by omega)
        simp only [List.getElem_take, decide_eq_true_eq, Bool.not_eq_true, decide_eq_false_iff_not] at this
        simp only [List.getElem_take]
        omega
      have hh : (l.take e).headD 0 ≠ 128 := by
        cases e with
        | zero => simp
        | succ e =>
          cases l with
          | nil => simp
          | cons c r => simpa using fun h => hn (.inl (by simpa using h))
      rw [ht, val_snoc] at hv
      have hd := hi_val 6 (l.take e) hxs hh (by simp; omega)
      have e1 : n / 128 = val (l.take e) := by omega
      have e2 : n % 128 = (l[e]'hlt.1).toNat := by omega
      have hp : putN n = l.take (e + 1) := by
        rw [putN_parts, e1, e2, hd, ht]
        simp
      refine ⟨?_, ?_, hle.1⟩
      · rw [hp, ← hk, List.take_append_drop]
      · rw [hp, ← hk, List.length_take]; omega
/-- a text that was put is read -/
theorem read_text {s : List UInt8} (h : s.length ≤ 255) (r : List UInt8) : readL (textL s ++ r) = some (s, s.length + 1) := by
  unfold textL
  rw [if_neg (by omega), List.cons_append]
  have e : (UInt8.ofNat s.length).toNat = s.length := by simp; omega
  unfold readL
  simp only [e]
  rw [if_neg (by simp), List.take_left']
  rfl
/-- a text that was read was put so -/
theorem text_read {l s : List UInt8} {k : Nat} (h : readL l = some (s, k)) : l = textL s ++ l.drop k ∧ k = s.length + 1 ∧ s.length ≤ 255 := by
  have hle := readL_le h
  cases l with
  | nil => cases h
  | cons c r =>
    by_cases hc : r.length < c.toNat
    · rw [readL, if_pos hc] at h; cases h
    · rw [readL, if_neg hc] at h
      simp only [Option.some.injEq, Prod.mk.injEq] at h
      obtain ⟨hs, hk⟩ := h
      refine ⟨?_, by omega, by omega⟩
      unfold textL
      rw [if_neg (by omega), ← hk, List.drop_succ_cons, ← hs, List.cons_append, List.take_append_drop]
      have e3 : UInt8.ofNat (r.take c.toNat).length = c := UInt8.toNat_inj.1 (by have := c.toNat_lt; simp; omega)
      rw [e3]
end Go.Proofs.YtfffjaijflbeaaaDoor
