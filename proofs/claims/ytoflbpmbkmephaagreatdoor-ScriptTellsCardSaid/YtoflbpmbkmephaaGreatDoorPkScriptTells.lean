import Derived.Test.YtoflbpmbkmephaaGreatDoorPkScriptTells5
set_option linter.unusedSimpArgs false
set_option linter.unusedVariables false
set_option linter.unusedSectionVars false
set_option maxRecDepth 100000
set_option maxHeartbeats 40000000
namespace Go.Proofs.YtoflbpmbkmephaaGreatDoor
open Go.RowKit
def sumB (l : List Df) : Nat := (l.map fun x => x.2.1.length).sum
theorem sumB_cons (x : Df) (l : List Df) : sumB (x :: l) = x.2.1.length + sumB l := by simp [sumB]
theorem Of (l : List Df) (hl : l.length ≤ 9000) : ∀ (d i f : Nat) (acc : Str) (last : Int), d = l.length - i → i ≤ l.length → d < f → acc.length + 2 * sumB (l.drop i) + 20 * (l.length - i) ≤ 1000000 → (i = 0 → last = -1) → (∀ h : 0 < i, ∀ hl : i - 1 < l.length, l[i - 1].1 = last ∧ 0 ≤ last) →
    Qw l f acc (i : Int) = some (if okS last (l.drop i) = true then acc ++ ((l.drop i).map Rq).flatMap (fun w => 32 :: w) else []) := by
  intro d
  induction d with
  | zero =>
    intro i f acc last h1 h2 h3 h4 h5 h6
    obtain ⟨f, rfl⟩ : ∃ g, f = g + 1 := ⟨f - 1, by omega⟩
    show Xc (Qw l f) l acc (i : Int) = _
    unfold Xc
    rw [decide_eq_false (show ¬ ((i : Int) < ((l.length : Nat) : Int)) by omega), cond_false, List.drop_of_length_le (by omega)]
    simp [okS]
  | succ d ih =>
    intro i f acc last h1 h2 h3 h4 h5 h6
    obtain ⟨f, rfl⟩ : ∃ g, f = g + 1 := ⟨f - 1, by omega⟩
    have hi : i < l.length := by omega
    have hdrop := List.drop_eq_getElem_cons hi
    rw [hdrop, sumB_cons] at h4
    have hd := G4 l[i].1
    have hw := Rz l[i].2.1
    have step : V0 (Qw l f) acc (i : Int) l[i] false = (if 0 ≤ l[i].1 then some (if okS l[i].1 (l.drop (i + 1)) = true then acc ++ (32 :: Rq l[i]) ++ ((l.drop (i + 1)).map Rq).flatMap (fun w => 32 :: w) else []) else V0 (Qw l f) acc (i : Int) l[i] false) := by
      by_cases h0 : 0 ≤ l[i].1
      · rw [if_pos h0]
        have nx : ∀ a : Str, a = acc ++ (32 :: Rq l[i]) → Xx (Qw l f) (i : Int) a = some (if okS l[i].1 (l.drop (i + 1)) = true then acc ++ (32 :: Rq l[i]) ++ ((l.drop (i + 1)).map Rq).flatMap (fun w => 32 :: w) else []) := fun a ha => by
          subst ha
          unfold Xx
          have hsl := K9 l[i]
          rw [show (i : Int) + 1 = ((i + 1 : Nat) : Int) by omega, E0 (by omega)]
          exact ih (i + 1) f _ l[i].1 (by omega) (by omega) (by omega) (by simp only [List.length_append, List.length_cons]; omega) (fun h => by omega) fun _ _ => ⟨rfl, h0⟩
        unfold V0
        simp only [cond_false, rNum, Option.bind_some]
        rw [Z7 (by simp; omega)]
        simp only [Option.bind_some]
        rw [Z7 (by simp; omega)]
        simp only [Option.bind_some]
        rw [Z7 (by simp; omega), rBytes _ (by omega)]
        simp only [Option.bind_some]
        rw [Z7 (by simp; omega)]
        simp only [Option.bind_some, Yu]
        cases he : l[i].2.2.1 <;> cases hc : l[i].2.2.2
        · simp only [cond_false]
          exact nx _ (by simp [Rq, he, hc])
        · simp only [cond_false, cond_true]
          rw [Z7 (by simp; omega)]
          exact nx _ (by simp [Rq, he, hc])
        · simp only [cond_false, cond_true]
          rw [Z7 (by simp; omega)]
          exact nx _ (by simp [Rq, he, hc])
        · simp only [cond_true]
          rw [Z7 (by simp; omega)]
          simp only [Option.bind_some]
          rw [Z7 (by simp; omega)]
          exact nx _ (by simp [Rq, he, hc])
      · rw [if_neg h0]
    have stop : V0 (Qw l f) acc (i : Int) l[i] true = some [] := rfl
    show Xc (Qw l f) l acc (i : Int) = _
    unfold Xc
    rw [decide_eq_true (show (i : Int) < ((l.length : Nat) : Int) by omega), cond_true, U6 hi]
    simp only [Option.bind_some, rFine]
    have hok : okS last (l.drop i) = ((decide (last < l[i].1) && decide (l[i].1 ≤ 1099511627776)) && okS l[i].1 (l.drop (i + 1))) := by rw [hdrop]; rfl
    have hmap : ((l.drop i).map Rq).flatMap (fun w => 32 :: w) = (32 :: Rq l[i]) ++ ((l.drop (i + 1)).map Rq).flatMap (fun w => 32 :: w) := by rw [hdrop]; rfl
    rw [hok, hmap, ← List.append_assoc]
    cases hfin : Dt l[i].1 with
    | false =>
      simp only [Bool.not_false, cond_true, stop]
      have : (decide (last < l[i].1) && decide (l[i].1 ≤ 1099511627776)) = false := by
        unfold Dt at hfin
        cases hb : (decide (last < l[i].1) && decide (l[i].1 ≤ 1099511627776)) with
        | false => rfl
        | true =>
          rw [Bool.and_eq_true, decide_eq_true_eq, decide_eq_true_eq] at hb
          have hlast : -1 ≤ last := by
            rcases Nat.eq_zero_or_pos i with h0 | h0
            · rw [h5 h0]; exact Int.le_refl _
            · have := (h6 h0 (by omega)).2; omega
          rw [decide_eq_true (show 0 ≤ l[i].1 by omega), decide_eq_true hb.2] at hfin
          cases hfin
      rw [this]
      rfl
    | true =>
      unfold Dt at hfin
      rw [Bool.and_eq_true, decide_eq_true_eq, decide_eq_true_eq] at hfin
      simp only [Bool.not_true, cond_false]
      rw [decide_eq_true hfin.2, Bool.and_true]
      rcases Nat.eq_zero_or_pos i with h0 | h0
      · rw [decide_eq_false (show ¬ ((i : Int) > 0) by omega), cond_false, step, if_pos hfin.1, h5 h0, decide_eq_true (show -1 < l[i].1 by omega), Bool.true_and]
      · obtain ⟨hp, hp0⟩ := h6 h0 (by omega)
        rw [decide_eq_true (show (i : Int) > 0 by omega), cond_true, show IntKind.wrap .i64 ((i : Int) - 1) = ((i - 1 : Nat) : Int) by rw [Z2 (by omega)]; omega, U6 (show i - 1 < l.length by omega)]
        simp only [Option.bind_some]
        rw [hp]
        by_cases hle : last ≥ l[i].1
        · rw [decide_eq_true hle, stop, decide_eq_false (show ¬ last < l[i].1 by omega)]
          rfl
        · rw [decide_eq_false hle, step, if_pos hfin.1, decide_eq_true (show last < l[i].1 by omega), Bool.true_and]
theorem rTell (o : Mr) (hl : o.2.2.2.length ≤ 9000) (hb : sumB o.2.2.2 ≤ 9000) : Uw o.1 o.2.1 o.2.2.1 o.2.2.2 = some (L6 o) := by
  have d0 := G4 o.1
  have d1 := G4 o.2.1
  have d2 := G4 o.2.2.1
  unfold Uw
  simp only [rFine, Option.bind_some]
  unfold L6 tellE tellK
  have hz : Dt 0 = true := rfl
  have k1t : Zl o.1 o.2.1 o.2.2.1 o.2.2.2 true = some [] := rfl
  have k1f : Zl o.1 o.2.1 o.2.2.1 o.2.2.2 false = some (if o.1 = 0 then (if okS (-1) o.2.2.2 = true then G3 32 (Fd o) else []) else (if (decide (o.2.1 = 0) && (decide (o.2.2.1 = 0) && decide (o.2.2.2.length = 0))) = true then G3 32 (Iu o) else [])) := by
    unfold Zl
    by_cases he : o.1 = 0
    · rw [show (o.1 != 0) = false by rw [he]; rfl, if_pos he]
      simp only [cond_false, rNum, Option.bind_some]
      rw [Z7 (by simp; omega)]
      simp only [Option.bind_some]
      rw [Z7 (by simp; omega)]
      simp only [Option.bind_some]
      rw [Z7 (by simp; omega)]
      simp only [Option.bind_some]
      have := Of o.2.2.2 hl o.2.2.2.length 0 Y1 ([111, 107, 32] ++ Ds o.2.1 ++ [32] ++ Ds o.2.2.1) (-1) (by omega) (by omega) (by unfold Y1; omega) (by rw [List.drop_zero]; simp only [List.length_append, List.length_cons, List.length_nil]; omega) (fun _ => rfl) (fun h => by omega)
      rw [List.drop_zero] at this
      refine this.trans ?_
      unfold Fd
      rw [Un]
      simp
    · rw [show (o.1 != 0) = true by rw [bne_iff_ne]; exact he, if_neg he]
      have ke : Zk o.1 false = some (G3 32 (Iu o)) := by
        unfold Zk
        simp only [cond_false, rNum, Option.bind_some]
        rw [Z7 (by simp; omega)]
        simp only [Option.bind_some]
        unfold Iu
        rw [Un]
        simp
      have kt : Zk o.1 true = some [] := rfl
      have z : decide (((List.length o.2.2.2 : Nat) : Int) > 0) = !(decide (o.2.2.2.length = 0)) := by rw [← decide_not]; exact decide_eq_decide.2 (by omega)
      have n1 : (o.2.1 != 0) = !(decide (o.2.1 = 0)) := by
        by_cases h : o.2.1 = 0
        · rw [h]; rfl
        · rw [decide_eq_false h, bne_iff_ne.2 h]; rfl
      have n2 : (o.2.2.1 != 0) = !(decide (o.2.2.1 = 0)) := by
        by_cases h : o.2.2.1 = 0
        · rw [h]; rfl
        · rw [decide_eq_false h, bne_iff_ne.2 h]; rfl
      simp only [cond_false, cond_true, z, n1, n2]
      cases decide (o.2.1 = 0) <;> cases decide (o.2.2.1 = 0) <;> cases decide (o.2.2.2.length = 0) <;> first | exact kt | exact ke
  by_cases he : o.1 = 0
  · rw [if_pos he] at k1f ⊢
    rw [he, hz]
    simp only [Bool.not_true, cond_false]
    rw [he] at k1f k1t
    cases Dt o.2.1 <;> cases Dt o.2.2.1 <;> first | exact k1t | exact k1f
  · rw [if_neg he] at k1f ⊢
    have h1 : decide (o.2.1 = 0) = true → Dt o.2.1 = true := fun h => by rw [of_decide_eq_true h]; rfl
    have h2 : decide (o.2.2.1 = 0) = true → Dt o.2.2.1 = true := fun h => by rw [of_decide_eq_true h]; rfl
    cases f0 : Dt o.1 with
    | false => exact k1t
    | true =>
      simp only [Bool.not_true, cond_false, Bool.true_and]
      cases f1 : Dt o.2.1 with
      | false =>
        have : decide (o.2.1 = 0) = false := by
          cases hd : decide (o.2.1 = 0) with
          | false => rfl
          | true => rw [h1 hd] at f1; cases f1
        rw [this]
        exact k1t
      | true =>
        simp only [Bool.not_true, cond_false]
        cases f2 : Dt o.2.2.1 with
        | false =>
          have : decide (o.2.2.1 = 0) = false := by
            cases hd : decide (o.2.2.1 = 0) with
            | false => rfl
            | true => rw [h2 hd] at f2; cases f2
          rw [this, Bool.false_and, Bool.and_false]
          exact k1t
        | true => exact k1f
theorem byte61 (c : UInt8) : (((c.toNat : Nat) : Int) != 61) = !(c == 61) := by
  by_cases h : c = 61
  · subst h; rfl
  · rw [beq_eq_false_iff_ne.2 h]
    rw [show (((c.toNat : Nat) : Int) != 61) = true by
      rw [bne_iff_ne]
      intro e
      apply h
      apply UInt8.toNat_inj.1
      show c.toNat = 61
      omega]
    rfl
theorem byteIs (k : UInt8) (c : UInt8) : (((c.toNat : Nat) : Int) == ((k.toNat : Nat) : Int)) = (c == k) := by
  by_cases h : c = k
  · subst h; simp
  · rw [beq_eq_false_iff_ne.2 h, beq_eq_false_iff_ne]
    intro e
    apply h
    apply UInt8.toNat_inj.1
    omega
def SentA (w : Str) (z : Int × Str × Bool × Bool × Bool) : Prop := match Fp w with | none => z.2.2.2.2 = false | some y => z = (y.1, y.2.1, y.2.2.1, y.2.2.2, true)
theorem Fs (rec13 : Int → Option (Int × Str × Bool × Bool × Bool)) (zn : Int × Bool) (cl : Bool) (r : Str) (hr : r.length ≤ 9000) : Xz rec13 zn cl r = some (zn.1, (Rs (unb (sfx 43 r).1)).1, (sfx 43 r).2, cl, zn.2 && (Rs (unb (sfx 43 r).1)).2) := by
  have k18 : ∀ (e : Bool) (v : Str), v.length ≤ 9000 → Xy rec13 zn cl e v = some (zn.1, (Rs (unb v)).1, e, cl, zn.2 && (Rs (unb v)).2) := fun e v hv => by
    unfold Xy Yv
    rw [rUnb v (by omega)]
    simp only [Option.bind_some]
    cases zn.2 <;> rfl
  unfold Xz Yw
  by_cases h0 : r = []
  · subst h0
    rw [show decide (((List.length ([] : Str) : Nat) : Int) > 0) = false from rfl]
    exact k18 false [] (by simp)
  · have hp := List.length_pos_iff.2 h0
    obtain ⟨a, x, rfl⟩ : ∃ a x, r = a ++ [x] := ⟨r.dropLast, r.getLast h0, (List.dropLast_concat_getLast h0).symm⟩
    have hidx : idx (a ++ [x]) (IntKind.wrap .i64 (((List.length (a ++ [x]) : Nat) : Int) - 1)) = some x := by
      rw [show IntKind.wrap .i64 (((List.length (a ++ [x]) : Nat) : Int) - 1) = ((a.length : Nat) : Int) by rw [Z2 (by simp at hr ⊢; omega)]; simp, Er]
      simp
    have hsub : sub (a ++ [x]) 0 (IntKind.wrap .i64 (((List.length (a ++ [x]) : Nat) : Int) - 1)) = some a := by
      rw [show IntKind.wrap .i64 (((List.length (a ++ [x]) : Nat) : Int) - 1) = ((a.length : Nat) : Int) by rw [Z2 (by simp at hr ⊢; omega)]; simp]
      have := G5 (a ++ [x]) (i := 0) (j := a.length) (by omega) (by simp)
      rw [show ((0 : Nat) : Int) = 0 from rfl] at this
      rw [this]
      simp
    rw [decide_eq_true (show ((List.length (a ++ [x]) : Nat) : Int) > 0 by rw [List.length_append, List.length_singleton]; omega), cond_true, hidx]
    simp only [Option.bind_some]
    rw [show (((x.toNat : Nat) : Int) == 43) = (x == 43) from byteIs 43 x]
    cases hx : (x == 43) with
    | true =>
      have := eq_of_beq hx
      subst this
      rw [cond_true, hsub, sfx_yes]
      exact k18 true a (by simp at hr; omega)
    | false =>
      rw [cond_false, sfx_no 43 a x (by simpa using hx)]
      exact k18 false _ hr
theorem rsent_mid (rec13 : Int → Option (Int × Str × Bool × Bool × Bool)) (zn : Int × Bool) (r : Str) (hr : r.length ≤ 9000) : (cond (decide (((List.length r : Nat) : Int) > 0)) ((idx r (IntKind.wrap .i64 (((List.length r : Nat) : Int) - 1))).bind fun x394 => (Zy rec13 zn r (((x394).toNat : Int) == 33))) (Zy rec13 zn r false)) =
    some (zn.1, (Rs (unb (sfx 43 (sfx 33 r).1).1)).1, (sfx 43 (sfx 33 r).1).2, (sfx 33 r).2, zn.2 && (Rs (unb (sfx 43 (sfx 33 r).1).1)).2) := by
  unfold Zy
  by_cases h0 : r = []
  · subst h0
    exact Fs rec13 zn false [] (by simp)
  · have hp := List.length_pos_iff.2 h0
    obtain ⟨a, x, rfl⟩ : ∃ a x, r = a ++ [x] := ⟨r.dropLast, r.getLast h0, (List.dropLast_concat_getLast h0).symm⟩
    have hw : IntKind.wrap .i64 (((List.length (a ++ [x]) : Nat) : Int) - 1) = ((a.length : Nat) : Int) := by rw [Z2 (by simp at hr ⊢; omega)]; simp
    have hidx : idx (a ++ [x]) (IntKind.wrap .i64 (((List.length (a ++ [x]) : Nat) : Int) - 1)) = some x := by
      rw [hw, Er]
      simp
    have hsub : sub (a ++ [x]) 0 (IntKind.wrap .i64 (((List.length (a ++ [x]) : Nat) : Int) - 1)) = some a := by
      rw [hw]
      have := G5 (a ++ [x]) (i := 0) (j := a.length) (by omega) (by simp)
      rw [show ((0 : Nat) : Int) = 0 from rfl] at this
      rw [this]
      simp
    rw [decide_eq_true (show ((List.length (a ++ [x]) : Nat) : Int) > 0 by rw [List.length_append, List.length_singleton]; omega), cond_true, hidx]
    simp only [Option.bind_some]
    rw [show (((x.toNat : Nat) : Int) == 33) = (x == 33) from byteIs 33 x]
    cases hx : (x == 33) with
    | true =>
      have := eq_of_beq hx
      subst this
      rw [cond_true, hsub, sfx_yes]
      exact Fs rec13 zn true a (by simp at hr; omega)
    | false =>
      rw [cond_false, sfx_no 33 a x (by simpa using hx)]
      exact Fs rec13 zn false _ hr
theorem cutL_not {c : UInt8} {s : Str} (h : c ∉ s) : Ef c s = (s, [], false) := by
  unfold Ef
  rcases Yj c s with ⟨h1, _, _⟩ | ⟨i, h1, h2, h3, _, _⟩
  · rw [h1]; rfl
  · exact absurd (List.mem_of_getElem? h3) h
theorem cutL_at {c : UInt8} {s : Str} {k : Nat} (hk : k < s.length) (hx : s[k] = c) (hn : c ∉ s.take k) : Ef c s = (s.take k, s.drop (k + 1), true) := by
  have : s = s.take k ++ c :: s.drop (k + 1) := by
    conv => lhs; rw [← List.take_append_drop k s]
    rw [List.drop_eq_getElem_cons hk, hx]
  conv => lhs; rw [this]
  exact cutL_app c _ _ hn
theorem Og (w : Str) (hw : w.length ≤ 9000) : ∀ (d k f : Nat), d = w.length - k → k ≤ w.length → d < f → (61 : UInt8) ∉ w.take k → ∃ z, Q5 w f (k : Int) = some z ∧ SentA w z := by
  intro d
  induction d with
  | zero =>
    intro k f h1 h2 h3 h4
    obtain ⟨f, rfl⟩ : ∃ g, f = g + 1 := ⟨f - 1, by omega⟩
    show ∃ z, Xd (Q5 w f) w (k : Int) = some z ∧ _
    unfold Xd X0
    rw [decide_eq_false (show ¬ ((k : Int) < ((w.length : Nat) : Int)) by omega), cond_false, cond_false, show ((k : Int) == ((w.length : Nat) : Int)) = true by rw [beq_iff_eq]; omega, cond_true]
    refine ⟨_, rfl, ?_⟩
    unfold SentA Fp
    rw [cutL_not (by rw [List.take_of_length_le (by omega)] at h4; exact h4)]
  | succ d ih =>
    intro k f h1 h2 h3 h4
    obtain ⟨f, rfl⟩ : ∃ g, f = g + 1 := ⟨f - 1, by omega⟩
    have hk : k < w.length := by omega
    show ∃ z, Xd (Q5 w f) w (k : Int) = some z ∧ _
    unfold Xd X0
    rw [decide_eq_true (show (k : Int) < ((w.length : Nat) : Int) by omega), cond_true, U6 hk]
    simp only [Option.bind_some, byte61]
    have w1 : IntKind.wrap .i64 ((k : Int) + 1) = ((k + 1 : Nat) : Int) := by rw [Z2 (by omega)]; omega
    cases hx : (w[k] == 61) with
    | false =>
      have hx : w[k] ≠ 61 := by simpa using hx
      simp only [Bool.not_false, cond_true, w1]
      have := E7 61 w 0 k hk (Nat.zero_le _) hx (by rw [List.drop_zero]; exact h4)
      rw [List.drop_zero] at this
      exact ih (k + 1) f (by omega) (by omega) (by omega) this
    | true =>
      have hx := eq_of_beq hx
      simp only [Bool.not_true, cond_false]
      rw [show ((k : Int) == ((w.length : Nat) : Int)) = false by rw [beq_eq_false_iff_ne]; omega]
      have s1 := G5 w (i := 0) (j := k) (by omega) (by omega)
      rw [show ((0 : Nat) : Int) = 0 from rfl] at s1
      have s2 := G5 w (i := k + 1) (j := w.length) (by omega) (Nat.le_refl _)
      have hm : (9000 : Nat) ≤ maxLen := by decide
      rw [cond_false, s1]
      simp only [Option.bind_some, List.drop_zero]
      rw [Ht _ (by rw [List.length_take]; exact Nat.le_trans (by omega) hm), w1, s2]
      simp only [Option.bind_some, List.take_length]
      rw [rsent_mid _ _ _ (by rw [List.length_drop]; omega)]
      refine ⟨_, rfl, ?_⟩
      unfold SentA Fp
      rw [cutL_at hk hx h4]
      simp only
      cases Qj (w.take k) <;> cases unb (sfx 43 (sfx 33 (w.drop (k + 1))).1).1 <;> rfl
theorem rSent (w : Str) (hw : w.length ≤ 9000) : ∃ z, Gj w = some z ∧ SentA w z :=
  Og w hw w.length 0 Y1 (by omega) (by omega) (by unfold Y1; omega) (by simp)
theorem sent_nn {w : Str} {x : Df} (h : Fp w = some x) : 0 ≤ x.1 := by
  have := (Iv h).2.1
  unfold Dt at this
  rw [Bool.and_eq_true, decide_eq_true_eq] at this
  exact this.1
theorem Oh (ws : List Str) (c t : Int) (hl : ws.length ≤ 9001) (hb : ∀ w ∈ ws, w.length ≤ 9000) : ∀ (d i f : Nat) (acc : List Df) (last : Int), d = ws.length - i → 3 ≤ i → i ≤ ws.length → d < f → acc.length = i - 3 → (i = 3 → last = -1) → (∀ h : 3 < i, ∀ hl : i - 4 < acc.length, acc[i - 4].1 = last) →
    Vs ws f 0 c t acc (i : Int) = some (match Dg last (ws.drop i) with | some l => (0, c, t, acc ++ l, true) | none => (0, 0, 0, [], false)) := by
  intro d
  induction d with
  | zero =>
    intro i f acc last h1 h2 h3 h4 h5 h6 h7
    obtain ⟨f, rfl⟩ : ∃ g, f = g + 1 := ⟨f - 1, by omega⟩
    show Xe (Vs ws f) ws 0 c t acc (i : Int) = _
    unfold Xe
    rw [decide_eq_false (show ¬ ((i : Int) < ((ws.length : Nat) : Int)) by omega), cond_false, List.drop_of_length_le (by omega)]
    simp [Dg]
  | succ d ih =>
    intro i f acc last h1 h2 h3 h4 h5 h6 h7
    obtain ⟨f, rfl⟩ : ∃ g, f = g + 1 := ⟨f - 1, by omega⟩
    have hi : i < ws.length := by omega
    obtain ⟨z, hz, hA⟩ := rSent ws[i] (hb _ (List.getElem_mem hi))
    show Xe (Vs ws f) ws 0 c t acc (i : Int) = _
    unfold Xe
    rw [decide_eq_true (show (i : Int) < ((ws.length : Nat) : Int) by omega), cond_true, U6 hi]
    simp only [Option.bind_some, hz]
    rw [List.drop_eq_getElem_cons hi]
    have stop : Zn (Vs ws f) 0 c t acc (i : Int) z true = some (0, 0, 0, [], false) := rfl
    unfold SentA at hA
    unfold Dg
    cases hs : Fp ws[i] with
    | none =>
      rw [hs] at hA
      simp only at hA
      rw [hA]
      simp only [Bool.not_false, cond_true, stop, Option.bind_none]
    | some y =>
      rw [hs] at hA
      simp only at hA
      subst hA
      have hnn := sent_nn hs
      simp only [Bool.not_true, cond_false, Option.bind_some]
      have go : Zn (Vs ws f) 0 c t acc (i : Int) (y.1, y.2.1, y.2.2.1, y.2.2.2, true) false = some (match Dg y.1 (ws.drop (i + 1)) with | some l => (0, c, t, acc ++ (y :: l), true) | none => (0, 0, 0, [], false)) := by
        unfold Zn
        rw [cond_false, Z7 (by simp; omega), show IntKind.wrap .i64 ((i : Int) + 1) = ((i + 1 : Nat) : Int) by rw [Z2 (by omega)]; omega]
        simp only [Option.bind_some]
        rw [ih (i + 1) f (acc ++ [y]) y.1 (by omega) (by omega) (by omega) (by omega) (by simp; omega) (fun h => by omega) fun _ hl => by
          rw [List.getElem_append_right (by omega)]
          simp]
        simp
      rcases Nat.lt_or_ge 3 i with h0 | h0
      · rw [decide_eq_true (show (i : Int) > 3 by omega), cond_true, show IntKind.wrap .i64 ((i : Int) - 4) = ((i - 4 : Nat) : Int) by rw [Z2 (by omega)]; omega, U6 (show i - 4 < acc.length by omega)]
        simp only [Option.bind_some]
        rw [h7 h0 (by omega)]
        by_cases hle : y.1 ≤ last
        · rw [decide_eq_true (show last ≥ y.1 from hle), if_pos hle]
          rfl
        · rw [decide_eq_false (show ¬ last ≥ y.1 from hle), if_neg hle, go]
          cases Dg y.1 (ws.drop (i + 1)) <;> rfl
      · have h3 : i = 3 := by omega
        rw [decide_eq_false (show ¬ ((i : Int) > 3) by omega), cond_false, h6 h3, if_neg (by omega), go]
        cases Dg y.1 (ws.drop (i + 1)) <;> rfl
theorem rTold (s : Str) (h : s.length ≤ 9000) : Ux s = some (Cm (L5 (Va 32 s))) := by
  unfold Ux
  rw [rWords s h]
  have hl := Gn 32 s
  have hcnt := Dr 32 s
  have hcl : s.count 32 ≤ s.length := List.count_le_length
  cases hw : Va 32 s with
  | nil => exact absurd hw (Nx 32 s)
  | cons w q =>
    rw [hw] at hl hcnt
    have hb : ∀ x ∈ w :: q, x.length ≤ 9000 := fun x hx => by have := hl x hx; omega
    have hg : ∀ i, ((w :: q).getD i []).length ≤ 9000 := fun i => by
      simp only [List.getD]
      cases hx : (w :: q)[i]? with
      | none => simp
      | some x => have := hb x (List.mem_of_getElem? hx); simpa using this
    have a1 := rAt (w :: q) 1
    have a2 := rAt (w :: q) 2
    rw [show ((1 : Nat) : Int) = 1 from rfl] at a1
    rw [show ((2 : Nat) : Int) = 2 from rfl] at a2
    have hm : (9000 : Nat) ≤ maxLen := by decide
    simp only [Option.bind_some, a1, a2, Ht _ (Nat.le_trans (hg 1) hm), Ht _ (Nat.le_trans (hg 2) hm)]
    rw [show idx (w :: q) 0 = some w from rfl]
    simp only [Option.bind_some]
    rw [Fq]
    have g1 : (w :: q).getD 1 [] = q.getD 0 [] := rfl
    have g2 : (w :: q).getD 2 [] = q.getD 1 [] := rfl
    simp only [g1, g2]
    have ne2 : ((((w :: q).length : Nat) : Int) != 2) = !(decide (q.length = 1)) := by
      have := K8 w q 1
      rw [show ((1 + 1 : Nat) : Int) = 2 from rfl] at this
      show (!((((w :: q).length : Nat) : Int) == 2)) = _
      rw [this]
    by_cases h1 : w = [101, 114, 114]
    · subst h1
      rw [if_pos rfl, show (([101, 114, 114] : Str) == [101, 114, 114]) = true from rfl, cond_true, ne2]
      have kt : ∀ z : Int × Bool, Zm z true = some (0, 0, 0, [], false) := fun z => rfl
      have kf : ∀ z : Int × Bool, Zm z false = some (z.1, 0, 0, [], true) := fun z => rfl
      simp only [kt]
      rcases q with _ | ⟨a, _ | ⟨b, r⟩⟩
      · show cond (!(Qq (Qj [])).2) _ _ = _
        rw [H4]
        rfl
      · show cond (!(Qq (Qj a)).2) _ (cond ((Qq (Qj a)).1 == 0) _ (Zm (Qq (Qj a)) false)) = some (Cm ((Qj a).bind fun (n : Nat) => if n = 0 then none else some ((n : Int), 0, 0, [])))
        cases ha : Qj a with
        | none => rfl
        | some n =>
          simp only [Qq, Bool.not_true, cond_false, Option.bind_some, kf]
          by_cases hn : n = 0
          · subst hn; rfl
          · rw [beq_eq_false_iff_ne.2 (show (n : Int) ≠ 0 by omega), if_neg hn]
            rfl
      · rw [decide_eq_false (show ¬ (a :: b :: r).length = 1 by simp)]
        simp only [Bool.not_false, kt]
        show cond (!(Qq (Qj a)).2) _ (cond ((Qq (Qj a)).1 == 0) _ _) = some (Cm none)
        cases (Qq (Qj a)).2 <;> cases ((Qq (Qj a)).1 == 0) <;> rfl
    · rw [if_neg h1, beq_eq_false_iff_ne.2 h1, cond_false]
      by_cases h2 : w = [111, 107]
      · subst h2
        rw [if_pos rfl, show (!(([111, 107] : Str) == [111, 107])) = false from rfl, cond_false]
        have kt : ∀ (z y : Int × Bool), Vt ([111, 107] :: q) z y true = some (0, 0, 0, [], false) := fun z y => rfl
        rcases q with _ | ⟨a, _ | ⟨b, r⟩⟩
        · show cond (!(Qq (Qj [])).2) _ _ = _
          rw [H4]
          rfl
        · show cond (!(Qq (Qj a)).2) _ (Vt _ _ _ (!(Qq (Qj [])).2)) = _
          rw [H4]
          cases (Qq (Qj a)).2 <;> rfl
        · show cond (!(Qq (Qj a)).2) (Vt ([111, 107] :: a :: b :: r) (Qq (Qj a)) (Qq (Qj b)) true) (Vt ([111, 107] :: a :: b :: r) (Qq (Qj a)) (Qq (Qj b)) (!(Qq (Qj b)).2)) = some (Cm ((Qj a).bind fun (n : Nat) => (Qj b).bind fun (m : Nat) => (Dg (-1) r).map fun l => (0, (n : Int), (m : Int), l)))
          rw [kt]
          cases ha : Qj a with
          | none => rfl
          | some n =>
            cases hb' : Qj b with
            | none => rfl
            | some m =>
              simp only [Qq, Bool.not_true, cond_false, Option.bind_some]
              unfold Vt
              rw [cond_false]
              have := Oh ([111, 107] :: a :: b :: r) (n : Int) (m : Int) (by omega) hb (([111, 107] :: a :: b :: r).length - 3) 3 Y1 [] (-1) rfl (by omega) (by simp) (by unfold Y1; simp only [List.length_cons] at hcnt ⊢; omega) rfl (fun _ => rfl) (fun h => by omega)
              refine this.trans ?_
              show some (match Dg (-1) r with | some l => _ | none => _) = _
              cases Dg (-1) r <;> rfl
      · rw [if_neg h2, beq_eq_false_iff_ne.2 h2]
        rfl
end Go.Proofs.YtoflbpmbkmephaaGreatDoor
namespace Go.Proofs.YtoflbpmbkmephaaGreatDoor
theorem Ft (e1 e2 e3 : Int) (e4 : Str) (e5 : Int) (e6 e7 e8 s : Str) (a b c : Int) (l : List Df) (h3 : 0 ≤ e3 ∧ e3 < 4294967296) (h4 : e4.length ≤ 140737488355328) (h6 : e6.length ≤ 140737488355328) (h7 : e7.length ≤ 140737488355328) (h8 : e8.length ≤ 140737488355328)
    (hn : ∀ n ∈ [a, b, c], -9223372036854775808 ≤ n ∧ n ≤ 9223372036854775807) (hl : l.length ≤ 140737488355328) (hb : ∀ x ∈ l, (-9223372036854775808 ≤ x.1 ∧ x.1 ≤ 9223372036854775807) ∧ x.2.1.length ≤ 140737488355328) :
    Y7 e1 e2 e3 e4 e5 e6 e7 e8 s a b c l = some true := by
  unfold Y7
  obtain ⟨g, hg, hq⟩ := great_ok e1 e2 e3 e4 e5 e6 e7 e8 h4 h6 h7 h8
  obtain ⟨g', hg', hq'⟩ := L7 a b c l hl fun x hx => (hb x hx).2
  rw [scrHead, hg]
  simp only [Option.bind_some]
  cases g with
  | true => rfl
  | false =>
    rw [cond_false, hg']
    simp only [Option.bind_some]
    cases g' with
    | true => rfl
    | false =>
      have hq := hq rfl
      obtain ⟨q1, q2⟩ := hq' rfl
      rw [cond_false]
      by_cases hs : ((List.length s : Nat) : Int) > 9000
      · rw [decide_eq_true hs]; rfl
      · rw [decide_eq_false hs]
        have hs : s.length ≤ 9000 := by omega
        have hok : EvOk (e1, e2, e3, e4, e5, e6, e7, e8) 9000 := ⟨h3, by show e4.length ≤ _; omega, by show e6.length ≤ _; omega, by show e7.length ≤ _; omega, by show e8.length ≤ _; omega⟩
        have hB : ∀ x ∈ l, x.2.1.length ≤ 1000000 := fun x hx => by have := mem_sum (fun x : Df => x.2.1.length) l x hx; omega
        have t1 := lLine (e1, e2, e3, e4, e5, e6, e7, e8) (hok.mono (by omega))
        have t2 := rLine (e1, e2, e3, e4, e5, e6, e7, e8) hok
        have t3 := lTell (a, b, c, l) (by show l.length ≤ _; omega) hB
        have t4 := rTell (a, b, c, l) (by show l.length ≤ _; omega) (by show (l.map fun x => x.2.1.length).sum ≤ _; omega)
        simp only at t1 t2 t3 t4
        unfold V9
        rw [cond_false, lEvent s (by omega), rEvent s hs, lTold s (by omega), rTold s hs]
        simp only [Option.bind_some, cond_true]
        rw [t1, t2, t3, t4]
        simp only [Option.bind_some, beq_self_eq_true, Bool.and_self, cond_true]
        have hlen : (Cm (L5 (Va 32 s))).2.2.2.1.length ≤ 140737488355328 := by
          cases ho : L5 (Va 32 s) with
          | none => simp [Cm]
          | some o => have := (told_inv ho).2.1; show o.2.2.2.length ≤ _; omega
        generalize Cm (L5 (Va 32 s)) = z at hlen
        obtain ⟨r, hr1, hr2⟩ := same_out (z.1, z.2.1, z.2.2.1, z.2.2.2.1) (z.1, z.2.1, z.2.2.1, z.2.2.2.1) hlen
        simp only at hr1
        rw [hr1, hr2.2 rfl]
        rfl
end Go.Proofs.YtoflbpmbkmephaaGreatDoor
namespace Go.Proofs.YtoflbpmbkmephaaGreatDoor
open Go.RowKit Go.ChangeShapes Go.WideShapes Go.Deep
theorem own : ownKnob Tryz.prog.godebug = none := by kernel_rfl
theorem L8 : laidOutB Tryz.prog = true := by kernel_rfl
section
variable {H : Type} {enc : TypeId × Value → H} {W : World} {spare : Nat → Bool} {held : Bool} {base b0 : Nat} {r : Reach}
end
end Go.Proofs.YtoflbpmbkmephaaGreatDoor
namespace Go.Proofs.YtoflbpmbkmephaaGreatDoor
open Go.RowKit Go.ChangeShapes Go.WideShapes Go.Deep
section
variable {H : Type} {enc : TypeId × Value → H} {P : Program} {W : World}
def Rds (enc : TypeId × Value → H) (P : Program) (W : World) (t : TypeId) {α : Type} (e : Enc α) (Q : Nat → α → Prop) : Prop :=
  ∀ (Y1 : Nat) (cs : List Value) (x : DataW H × List MemPlace), DataW.trod enc P W 0 (fun _ => true) true Y1 t cs = some x → ∃ a, cs = e.enc a ∧ ∀ r, (x.1.weights P t).all (· ≤ r) = true → Q r a
def RdsFs (enc : TypeId × Value → H) (P : Program) (W : World) (o : Nat) (fs : List (TypeId × Nat)) {α : Type} (e : Enc α) (Q : Nat → α → Prop) : Prop :=
  ∀ (Y1 : Nat) (cs : List Value) (xs : List (DataW H × List MemPlace)), xs.length = fs.length → (∀ (i : Nat) f, fs[i]? = some f → DataW.trod enc P W 0 (fun _ => true) true Y1 f.1 ((cs.drop f.2).take (P.cellsOf f.1)) = xs[i]?) →
    ∃ a, (cs.drop o).take e.sz = e.enc a ∧ ∀ r, (DataW.weightsEach P (fs.map (·.1)) (xs.map (·.1))).all (· ≤ r) = true → Q r a
theorem C4 {t : TypeId} {k : IntKind} (ht : P.underlying t = some (.int k)) : Rds enc P W t (Jw k) (fun _ n => (Lit.int k n).wf = true) := by
  intro Y1 cs x h
  obtain ⟨n, rfl, rfl, hw⟩ := DataW.trod_int ht h
  exact ⟨n, rfl, fun _ _ => hw⟩
theorem H6 {t : TypeId} (ht : P.underlying t = some .string) : Rds enc P W t Qn (fun r s => s.length ≤ r) := by
  intro Y1 cs x h
  obtain ⟨s, rfl, rfl, hs⟩ := DataW.trod_string ht h
  refine ⟨s.data.toList, rfl, fun r hr => ?_⟩
  simpa [DataW.weights] using hr
theorem Mt {t : TypeId} (ht : P.underlying t = some .bool) : Rds enc P W t Qm (fun _ _ => True) := by
  intro Y1 cs x h
  cases Y1 with
  | zero => simp [DataW.trod] at h
  | succ n =>
    unfold DataW.trod at h
    rw [ht] at h
    split at h
    · exact ⟨_, rfl, fun _ _ => trivial⟩
    all_goals simp_all
theorem fs_one {t : TypeId} {o : Nat} {α : Type} {e : Enc α} {Q : Nat → α → Prop} (h : Rds enc P W t e Q) (hc : P.cellsOf t = e.sz) : RdsFs enc P W o [(t, o)] e Q := by
  intro Y1 cs xs hl hf
  match xs, hl with
  | [x], _ =>
    have := hf 0 (t, o) rfl
    obtain ⟨a, ha, hq⟩ := h Y1 _ _ this
    rw [hc] at ha
    refine ⟨a, ha, fun r hr => hq r ?_⟩
    simpa [DataW.weightsEach] using hr
theorem R0 {t : TypeId} {o : Nat} {fs : List (TypeId × Nat)} {α β : Type} {e : Enc α} {e' : Enc β} {Q : Nat → α → Prop} {Q' : Nat → β → Prop} (h : Rds enc P W t e Q) (hc : P.cellsOf t = e.sz) (hr : RdsFs enc P W (o + e.sz) fs e' Q') :
    RdsFs enc P W o ((t, o) :: fs) (Qf e e') (fun r a => Q r a.1 ∧ Q' r a.2) := by
  intro Y1 cs xs hl hf
  match xs, hl with
  | x :: xs, hl =>
    have := hf 0 (t, o) rfl
    obtain ⟨a, ha, hq⟩ := h Y1 _ _ this
    obtain ⟨b, hb, hq'⟩ := hr Y1 cs xs (by simpa using hl) (fun i f hi => by have := hf (i + 1) f (by simpa using hi); simpa using this)
    refine ⟨(a, b), ?_, fun r hw => ?_⟩
    · show (cs.drop o).take (e.sz + e'.sz) = e.enc a ++ e'.enc b
      rw [hc] at ha
      rw [← ha, ← hb, List.take_add, List.drop_drop]
    · simp only [List.map_cons, DataW.weightsEach, List.all_append, Bool.and_eq_true] at hw
      exact ⟨hq r hw.1, hq' r hw.2⟩
theorem Fu {t : TypeId} {l : List (TypeId × Nat)} {α : Type} {e : Enc α} {Q : Nat → α → Prop} (hl : (match P.underlying t with | some (.struct fs) => some (fs.toList.map (fun f => (f.type, f.offset))) | _ => none) = some l) (hc : P.cellsOf t = e.sz)
    (hr : RdsFs enc P W 0 l e Q) : Rds enc P W t e Q := by
  intro Y1 cs x hx
  split at hl
  · rename_i fs hs
    simp only [Option.some.injEq] at hl
    subst hl
    obtain ⟨xs, n, _, rfl, hlen, hxs, hg⟩ := DataW.trod_struct hs hx
    obtain ⟨a, ha, hq⟩ := hr n cs xs (by simpa using hxs) (fun i f hi => by
      rw [List.getElem?_map, Option.map_eq_some_iff] at hi
      obtain ⟨f', hf', rfl⟩ := hi
      exact hg i f' (by simpa using hf'))
    rw [List.drop_zero, List.take_of_length_le (by omega)] at ha
    refine ⟨a, ha, fun r hw => hq r ?_⟩
    simp only [DataW.weights, hs] at hw
    simpa [List.map_map, Function.comp_def] using hw
  · cases hl
theorem En {t : TypeId} {n : Nat} : ∀ {ds : List (DataW H)} {d : DataW H}, d ∈ ds → n ∈ d.weights P t → n ∈ DataW.weightsAll P t ds
  | d0 :: ds, d, hd, hn => by
    simp only [DataW.weightsAll, List.mem_append]
    rcases List.mem_cons.1 hd with rfl | h
    · exact .inl hn
    · exact .inr (En h hn)
theorem rds_row {t te : TypeId} {α : Type} {e : Enc α} {Q : Nat → α → Prop} (ht : P.underlying t = some (.slice te)) (h : Rds enc P W te e Q) (hc : P.cellsOf te = e.sz) (h0 : 0 < e.sz) {Y1 : Nat} {cs : List Value} {x : DataW H × List MemPlace}
    (hx : DataW.trod enc P W 0 (fun _ => true) true Y1 t cs = some x) :
    ∃ (A : Option Addr) (c : Nat) (l : List α), cs = [.slice A l.length c] ∧ RdT e W A c l ∧ ∀ r, (x.1.weights P t).all (· ≤ r) = true → l.length * P.bytesOf te ≤ r ∧ ∀ a ∈ l, Q r a := by
  rcases DataW.trod_slice ht hx with ⟨rfl, rfl⟩ | ⟨a, len, cap, elems, rest, n, _, rfl, rfl, _, hl, hm, hlen, hel, _, _⟩
  · exact ⟨none, 0, [], rfl, RdT.nil _ W, fun r _ => ⟨by simp, fun a ha => by cases ha⟩⟩
  · have each : ∀ i, i ≤ len → ∃ l : List α, l.length = i ∧ ∀ j (hj : j < l.length), W.cells? 0 (a.add (j * P.cellsOf te)) (P.cellsOf te) = some (e.enc l[j]) ∧ ∀ y, elems[j]? = some y → ∀ r, (y.1.weights P te).all (· ≤ r) = true → Q r l[j] := by
      intro i
      induction i with
      | zero => exact fun _ => ⟨[], rfl, fun j hj => by simp at hj⟩
      | succ i ih =>
        intro hi
        obtain ⟨l, hll, hlg⟩ := ih (by omega)
        have := hel i (by omega)
        rw [List.getElem?_eq_getElem (by omega), Option.bind_eq_some_iff] at this
        obtain ⟨cs', h1, h2⟩ := this
        obtain ⟨b, rfl, hb⟩ := h n cs' _ h2
        refine ⟨l ++ [b], by simp [hll], fun j hj => ?_⟩
        by_cases hji : j < l.length
        · rw [List.getElem_append_left hji]
          exact hlg j hji
        · obtain rfl : j = i := by simp at hj; omega
          subst hll
          rw [List.getElem_concat_length rfl]
          refine ⟨h1, fun y hy => ?_⟩
          rw [List.getElem?_eq_getElem (by omega), Option.some.injEq] at hy
          subst hy
          exact hb
    obtain ⟨l, hll, hlg⟩ := each len (Nat.le_refl _)
    subst hll
    refine ⟨some a, cap, l, rfl, ⟨by rw [Y2], hl, hm, fun hn => ?_⟩, fun r hw => ?_⟩
    · have cell : ∀ j (hj : j < l.length) k, k < e.sz → W.cell? ((a.add (j * e.sz)).add k) = (e.enc l[j])[k]? := by
        intro j hj k hk
        have := (hlg j hj).1
        rw [hc] at this
        exact (World.cells?_some this).2.2 k hk
      have c0 := cell 0 hn 0 h0
      rw [Nat.zero_mul, List.getElem?_eq_getElem (by rw [e.len]; exact h0)] at c0
      obtain ⟨b, off, spot⟩ := a
      obtain rfl : spot = none := by simpa [Addr.add] using World.cell?_spot c0
      have hadd : ∀ i j : Nat, ((⟨b, off, none⟩ : Addr).add i).add j = ⟨b, off + (i + j), none⟩ := by
        intro i j
        unfold Addr.add
        by_cases hi : i = 0 <;> by_cases hj : j = 0 <;> simp [hi, hj, Nat.add_assoc]
      rw [hadd] at c0
      refine ⟨b, off, rfl, block_lt_of_cell c0, fun j u hu => ?_⟩
      have hlen2 := (List.getElem?_eq_some_iff.1 hu).1
      rw [Y2] at hlen2
      have hq : j / e.sz < l.length := Nat.div_lt_of_lt_mul (by rw [Nat.mul_comm]; exact hlen2)
      have hk : j % e.sz < e.sz := Nat.mod_lt _ h0
      have hj : j = j / e.sz * e.sz + j % e.sz := by rw [Nat.mul_comm]; exact (Nat.div_add_mod j e.sz).symm
      have hce := cell (j / e.sz) hq (j % e.sz) hk
      rw [hadd, ← hj] at hce
      rw [hce]
      have hgt := Bk e (l := l) (i := j / e.sz) (x := l[j / e.sz]) (List.getElem?_eq_getElem hq) (j := j % e.sz) (u := (e.enc l[j / e.sz])[j % e.sz]'(by rw [e.len]; exact hk)) (List.getElem?_eq_getElem _)
      rw [← hj, hu] at hgt
      rw [List.getElem?_eq_getElem (by rw [e.len]; exact hk), ← hgt]
    · simp only [DataW.weights, ht, List.all_cons, Bool.and_eq_true, decide_eq_true_eq, List.all_append] at hw
      refine ⟨Nat.le_trans (Nat.mul_le_mul_right _ (by simp; omega)) hw.1, fun b hb => ?_⟩
      obtain ⟨j, hj, rfl⟩ := List.mem_iff_getElem.1 hb
      refine (hlg j hj).2 _ (List.getElem?_eq_getElem (by omega)) r ?_
      rw [List.all_eq_true] at hw ⊢
      intro m hm'
      exact hw.2.1 m (En (List.mem_map.2 ⟨_, List.getElem_mem (by omega), rfl⟩) hm')
variable {r0 : Reach} {b0 : Nat}
theorem Mu {t : TypeId} {fs : Array Field} {α : Type} {e : Enc α} {Q : Nat → α → Prop} (hs : P.underlying t = some (.struct fs)) (h : Rds enc P W t e Q) {v : Value} {d : DataW H} {p : List MemPlace} (hv : Value.okWide P W r0 b0 t v)
    (hd : DataW.Trod enc P W 0 (fun _ => true) true t v d p) (hr : ∀ n ∈ d.weights P t, n ≤ reachBytes) : ∃ a, v = .agg ⟨e.enc a⟩ ∧ Q reachBytes a := by
  obtain ⟨cs, rfl, hsz⟩ := okWide_struct hs hv
  obtain ⟨Y1, hf⟩ := hd
  obtain ⟨a, ha, hq⟩ := h Y1 _ _ hf
  refine ⟨a, ?_, hq _ (by rw [List.all_eq_true]; intro n hn; exact decide_eq_true (hr n hn))⟩
  simp only [Value.cells] at ha
  rw [← ha]
end
end Go.Proofs.YtoflbpmbkmephaaGreatDoor
namespace Go.Proofs.YtoflbpmbkmephaaGreatDoor
theorem Lb : reachBytes ≤ 140737488355328 := by decide
section
variable {H : Type} {enc : TypeId × Value → H} {P : Program} {W : World}
theorem rds_rowq {t te : TypeId} {α : Type} {e : Enc α} {Q : Nat → α → Prop} (ht : P.underlying t = some (.slice te)) (h : Rds enc P W te e Q) (hc : P.cellsOf te = e.sz) (h0 : 0 < e.sz) (hb : Nat.ble 1 (P.bytesOf te) = true) :
    Rds enc P W t (eDS e) (fun r x => RdT e W x.1 x.2.1 x.2.2 ∧ x.2.2.length ≤ r ∧ ∀ a ∈ x.2.2, Q r a) := by
  intro Y1 cs x hx
  obtain ⟨A, c, l, rfl, hr, hq⟩ := rds_row ht h hc h0 hx
  refine ⟨(A, c, l), rfl, fun r hw => ?_⟩
  obtain ⟨h1, h2⟩ := hq r hw
  exact ⟨hr, Nat.le_trans (Nat.le_mul_of_pos_right _ (Nat.le_of_ble_eq_true hb)) h1, h2⟩
abbrev EvV := Int × Int × Int × List UInt8 × Int × List UInt8 × List UInt8 × List UInt8
def EvQ (r : Nat) (e : EvV) : Prop := (Lit.int .i64 e.1).wf = true ∧ (Lit.int .i64 e.2.1).wf = true ∧ (Lit.int .u32 e.2.2.1).wf = true ∧ e.2.2.2.1.length ≤ r ∧ (Lit.int .i64 e.2.2.2.2.1).wf = true ∧ e.2.2.2.2.2.1.length ≤ r ∧ e.2.2.2.2.2.2.1.length ≤ r ∧ e.2.2.2.2.2.2.2.length ≤ r
theorem ev_rds : Rds enc Tryz.prog W 52 (Qf (Jw .i64) (Qf (Jw .i64) (Qf (Jw .u32) (Qf Qn (Qf (Jw .i64) (Qf Qn (Qf Qn Qn))))))) EvQ :=
  Fu (l := [(3, 0), (3, 1), (50, 2), (9, 3), (2, 4), (9, 5), (9, 6), (9, 7)]) (by kernel_rfl) (by kernel_rfl)
    (R0 (C4 Tryz.underlying3) (by kernel_rfl) (R0 (C4 Tryz.underlying3) (by kernel_rfl) (R0 (C4 Tryz.underlying50) (by kernel_rfl) (R0 (H6 Tryz.underlying9) (by kernel_rfl)
      (R0 (C4 Tryz.underlying2) (by kernel_rfl) (R0 (H6 Tryz.underlying9) (by kernel_rfl) (R0 (H6 Tryz.underlying9) (by kernel_rfl) (fs_one (H6 Tryz.underlying9) (by kernel_rfl)))))))))
theorem u32_wf {a : Int} (h : (Lit.int .u32 a).wf = true) : 0 ≤ a ∧ a < 4294967296 := by
  simp [Lit.wf, IntKind.min, IntKind.max, IntKind.signed, IntKind.bits] at h
  omega
abbrev SentV := Int × List UInt8 × Bool × Bool
def SentQ (r : Nat) (x : SentV) : Prop := (Lit.int .i64 x.1).wf = true ∧ x.2.1.length ≤ r ∧ True ∧ True
theorem sent_rds : Rds enc Tryz.prog W 108 (Qf (Jw .i64) (Qf Qn (Qf Qm Qm))) SentQ :=
  Fu (l := [(3, 0), (9, 1), (4, 2), (4, 3)]) (by kernel_rfl) (by kernel_rfl)
    (R0 (C4 Tryz.underlying3) (by kernel_rfl) (R0 (H6 Tryz.underlying9) (by kernel_rfl) (R0 (Mt Tryz.underlying4) (by kernel_rfl) (fs_one (Mt Tryz.underlying4) (by kernel_rfl)))))
abbrev eSent : Enc SentV := Qf (Jw .i64) (Qf Qn (Qf Qm Qm))
def OutQ (W : World) (r : Nat) (c : Int × Int × Int × DS SentV) : Prop := (Lit.int .i64 c.1).wf = true ∧ (Lit.int .i64 c.2.1).wf = true ∧ (Lit.int .i64 c.2.2.1).wf = true ∧
  (RdT eSent W c.2.2.2.1 c.2.2.2.2.1 c.2.2.2.2.2 ∧ c.2.2.2.2.2.length ≤ r ∧ ∀ y ∈ c.2.2.2.2.2, SentQ r y)
theorem out_rds : Rds enc Tryz.prog W 55 (Qf (Jw .i64) (Qf (Jw .i64) (Qf (Jw .i64) (eDS eSent)))) (OutQ W) :=
  Fu (l := [(27, 0), (3, 1), (3, 2), (53, 3)]) (by kernel_rfl) (by kernel_rfl)
    (R0 (C4 Tryz.underlying27) (by kernel_rfl) (R0 (C4 Tryz.underlying3) (by kernel_rfl) (R0 (C4 Tryz.underlying3) (by kernel_rfl)
      (fs_one (rds_rowq Tryz.underlying53 sent_rds (by kernel_rfl) (by decide) (by kernel_rfl)) (by kernel_rfl)))))
theorem open_out {r0 : Reach} {b0 : Nat} {v : Value} {d : DataW H} {p : List MemPlace} (hv : Value.okWide Tryz.prog W r0 b0 55 v) (hd : DataW.Trod enc Tryz.prog W 0 (fun _ => true) true 55 v d p) (hr : ∀ n ∈ d.weights Tryz.prog 55, n ≤ reachBytes) :
    ∃ (a b c : Int) (A : Option Addr) (k : Nat) (l : List SentV), v = .agg #[.int .i64 a, .int .i64 b, .int .i64 c, .slice A (List.length l) k] ∧ OutQ W reachBytes (a, b, c, A, k, l) := by
  obtain ⟨⟨a, b, c, A, k, l⟩, rfl, q⟩ := Mu Tryz.underlying55 out_rds hv hd hr
  exact ⟨a, b, c, A, k, l, rfl, q⟩
theorem out_q {W : World} {a b c : Int} {A : Option Addr} {k : Nat} {l : List SentV} (h : OutQ W reachBytes (a, b, c, A, k, l)) : (∀ n ∈ [a, b, c], -9223372036854775808 ≤ n ∧ n ≤ 9223372036854775807) ∧ l.length ≤ 140737488355328 ∧ ∀ x ∈ l, (-9223372036854775808 ≤ x.1 ∧ x.1 ≤ 9223372036854775807) ∧ x.2.1.length ≤ 140737488355328 := by
  have hM := Lb
  have w : ∀ {n : Int}, (Lit.int .i64 n).wf = true → -9223372036854775808 ≤ n ∧ n ≤ 9223372036854775807 := fun {n} h => by
    simp [Lit.wf, IntKind.min, IntKind.max, IntKind.signed, IntKind.bits] at h
    omega
  obtain ⟨h1, h2, h3, _, h4, h5⟩ := h
  refine ⟨fun n hn => ?_, Nat.le_trans h4 hM, fun x hx => ⟨w (h5 x hx).1, Nat.le_trans (h5 x hx).2.1 hM⟩⟩
  simp only [List.mem_cons, List.not_mem_nil, or_false] at hn
  rcases hn with rfl | rfl | rfl
  · exact w h1
  · exact w h2
  · exact w h3
end
end Go.Proofs.YtoflbpmbkmephaaGreatDoor
namespace Go.Proofs.YtoflbpmbkmephaaGreatDoor
open Go.RowKit
abbrev Mv : List (String × DataW Unit) := [("math/bits.deBruijn32tab", Rows.laid_math_bits_deBruijn32tab), ("math/bits.deBruijn64tab", Rows.laid_math_bits_deBruijn64tab), ("internal/strconv.uint64pow10", Rows.laid_internal_strconv_uint64pow10)
  , ("unicode/utf8.acceptRanges", Rows.laid_unicode_utf8_acceptRanges), ("unicode/utf8.first", Rows.laid_unicode_utf8_first)
  ]
theorem gTab : Tryz.prog.globalNamed Cr = some 1 := by kernel_rfl
theorem gTabType : (Tryz.prog.globals[1]?).map (·.type) = some 209 := by kernel_rfl
theorem cellsTab : Tryz.prog.cellsOf 209 = 20 := by kernel_rfl
theorem cellsU64 : Tryz.prog.cellsOf 196 = 1 := by kernel_rfl
theorem laid_of {W : World} (h : laidMetH Tryz.prog Mv W) : Gu W := by
  have h1 := h.filter (fun x => x.1 == Cr)
  have e : Mv.filter (fun x => x.1 == Cr) = [(Cr, Lib.tabData .u64 Lib.pow10Tab)] := by kernel_rfl
  rw [e] at h1
  have ht : Lib.TabIs Tryz.prog W Cr .u64 Lib.pow10Tab := Lib.tabIs_of_head (rest := []) gTab gTabType Tryz.underlying209 Tryz.underlying196 cellsU64 cellsTab h1
  refine ⟨ht, fun g hg => ?_⟩
  obtain rfl := Option.some.inj (gTab.symm.trans hg)
  have := ht.cell gTab 0 (by decide)
  exact block_lt_of_cell this
def cells1 : DataW Unit → List Value
  | .lit (.int k z) => [.int k z]
  | .lit (.bool b) => [.bool b]
  | _ => []
def cells2 : DataW Unit → List Value
  | .agg l => l.flatMap cells1
  | d => cells1 d
def cells3 : DataW Unit → List Value
  | .agg l => l.flatMap cells2
  | d => cells2 d
def Fe (d : DataW Unit) : Obj → Obj
  | .cells _ t frozen => .cells (cells3 d).toArray t frozen
  | o => o
noncomputable def H7 (os : Os) : World :=
  { World.holding Tryz.prog os ⟨#[], #[], []⟩ with heap := ((((World.holding Tryz.prog os ⟨#[], #[], []⟩).heap.modify 4 (Fe Rows.laid_math_bits_deBruijn32tab)).modify 5 (Fe Rows.laid_math_bits_deBruijn64tab)).modify 1 (Fe Rows.laid_internal_strconv_uint64pow10)
    |>.modify 3 (Fe Rows.laid_unicode_utf8_acceptRanges) |>.modify 2 (Fe Rows.laid_unicode_utf8_first)
    ) }
end Go.Proofs.YtoflbpmbkmephaaGreatDoor
namespace Go.Proofs.YtoflbpmbkmephaaGreatDoor
open Go.ChangeShapes Go.WideShapes Go.ChangeAt Go.RowKit
open Go.ChangeMaps (open_string shut_string)
theorem Eg (H : Type) (enc : TypeId × Value → H) (W : World) (base : Nat) (args : Array Value) (ds gs : List (DataW H)) (before : List MemPlace) (vt : List TypeId)
    (hval : ∀ (j : Nat) t v, Tryz.f9.params[j]? = some t → args[j]? = some v → Value.okWide Tryz.prog W .any base t v)
    (hW : DataW.Whole enc Tryz.prog Tryz.f9.params.toList Rows.scriptTellsSpec.vars false W args.toList ds gs before) (hL : laidMetH Tryz.prog Rows.scriptTellsRow.laid W)
    (hZ : (DataW.weightsEach Tryz.prog (Tryz.f9.params.toList ++ vt) (ds ++ gs)).all (· ≤ reachBytes) = true) :
    Calls Tryz.prog 9 args W fun e W' => ∃ v, e = .returned v ∧ Rows.scriptTellsSpec.post enc Tryz.prog Tryz.f9 false true false false W args v W' := by
  have hW' := hW
  obtain ⟨p, q, hA0, hV, rfl, hfz, hnd⟩ := hW
  have hA : DataW.TrodAll enc Tryz.prog W 0 (fun _ => true) true Tryz.f9.params.toList args.toList ds p := hA0
  rw [Tryz.params9] at hA hval hZ
  obtain ⟨v0, vs0, d0, ds0, p0, q0, hargs, rfl, rfl, h0, r0⟩ := trodAll_cons hA
  obtain ⟨v1, vs1, d1, ds1, p1, q1, rfl, rfl, rfl, h1, r1⟩ := trodAll_cons r0
  obtain ⟨v2, vs2, d2, ds2, p2, q2, rfl, rfl, rfl, h2, r2⟩ := trodAll_cons r1
  obtain ⟨rfl, rfl, rfl⟩ := trodAll_nil r2
  obtain rfl : args = #[v0, v1, v2] := by cases args; simp_all
  obtain ⟨rfl, rfl⟩ := trodVars_none hV
  have wz : ∀ (j : Nat) t d, _ → _ → ∀ n ∈ DataW.weights Tryz.prog t d, n ≤ reachBytes := fun j t d ht hd n hn => of_decide_eq_true (List.all_eq_true.1 hZ n (DataW.weights_mem_each (j := j) ht hd n hn))
  have k0 := h0
  have lt0 : ∀ x ∈ p0, x.block < W.heap.size := by obtain ⟨m, hm⟩ := k0; exact DataW.trod_lt m _ _ _ hm
  have k1 := h1
  have lt1 : ∀ x ∈ p1, x.block < W.heap.size := by obtain ⟨m, hm⟩ := k1; exact DataW.trod_lt m _ _ _ hm
  have k2 := h2
  have lt2 : ∀ x ∈ p2, x.block < W.heap.size := by obtain ⟨m, hm⟩ := k2; exact DataW.trod_lt m _ _ _ hm
  obtain ⟨⟨a0_0, a0_1, a0_2, a0_3, a0_4, a0_5, a0_6, a0_7⟩, rfl, q0_⟩ := Mu Tryz.underlying52 ev_rds (hval 0 52 v0 rfl rfl) h0 (wz 0 52 d0 rfl rfl)
  obtain ⟨s1_, rfl, ed1_, _, hs1_⟩ := open_string Tryz.underlying9 (hval 1 9 v1 rfl rfl) h1
  have hn1_ : s1_.data.toList.length ≤ reachBytes := (wz 1 9 d1 rfl rfl) _ (by rw [ed1_]; simp [DataW.weights])
  obtain ⟨a2_0, a2_1, a2_2, A2_, c2_, l2_, rfl, q2_⟩ := open_out (hval 2 55 v2 rfl rfl) h2 (wz 2 55 d2 rfl rfl)
  clear hA0
  refine (R6 A2_ c2_ a0_0 a0_1 a0_2 a0_3 a0_4 a0_5 a0_6 a0_7 s1_.data.toList a2_0 a2_1 a2_2 l2_ W (laid_of hL) q2_.2.2.2.1 true (Ft _ _ _ _ _ _ _ _ _ _ _ _ _ (u32_wf q0_.2.2.1) (Nat.le_trans q0_.2.2.2.1 Lb) (Nat.le_trans q0_.2.2.2.2.2.1 Lb) (Nat.le_trans q0_.2.2.2.2.2.2.1 Lb) (Nat.le_trans q0_.2.2.2.2.2.2.2 Lb) (out_q q2_).1 (out_q q2_).2.1 (out_q q2_).2.2)).mono fun e W' ⟨he, bel0⟩ => ?_
  have bel := SP.keeps bel0
  subst he
  exact ⟨_, rfl, _, _, _, [], _, [], hW', trodAll_mk1 (shut_bool Tryz.underlying4 _), (trodAll_cons_mk (Below.trod L8 (by kernel_rfl) (of_decide_eq_true (by kernel_rfl)) k0 bel lt0) (trodAll_cons_mk (Below.trod L8 (by kernel_rfl) (of_decide_eq_true (by kernel_rfl)) k1 bel lt1) (trodAll_cons_mk (Below.trod L8 (by kernel_rfl) (of_decide_eq_true (by kernel_rfl)) k2 bel lt2) trodAll_mk0))), rfl, bel.frame _, fun h => by cases h⟩
theorem Eh (os : Os) : laidMet Tryz.prog Rows.scriptTellsRow.laid ((H7 os).forCall (fun _ _ => 0) ⟨#[], #[.agg #[.int .i64 0, .int .i64 0, .int .u32 0, .string ⟨#[]⟩, .int .i64 0, .string ⟨#[]⟩, .string ⟨#[]⟩, .string ⟨#[]⟩], .string ⟨#[]⟩, .agg #[.int .i64 0, .int .i64 0, .int .i64 0, .slice none 0 0]], []⟩).memory :=
  laidMet_of_run' 8 (by kernel_rfl) (by kernel_rfl)
theorem Fv (os : Os) {H : Type} (enc : TypeId × Value → H) : ∃ places, DataW.whole enc Tryz.prog ((H7 os).forCall (fun _ _ => 0) ⟨#[], #[.agg #[.int .i64 0, .int .i64 0, .int .u32 0, .string ⟨#[]⟩, .int .i64 0, .string ⟨#[]⟩, .string ⟨#[]⟩, .string ⟨#[]⟩], .string ⟨#[]⟩, .agg #[.int .i64 0, .int .i64 0, .int .i64 0, .slice none 0 0]], []⟩).memory Tryz.f9.params.toList Rows.scriptTellsSpec.vars false [.agg #[.int .i64 0, .int .i64 0, .int .u32 0, .string ⟨#[]⟩, .int .i64 0, .string ⟨#[]⟩, .string ⟨#[]⟩, .string ⟨#[]⟩], .string ⟨#[]⟩, .agg #[.int .i64 0, .int .i64 0, .int .i64 0, .slice none 0 0]] 8 = some ([.agg [.lit (.int .i64 0), .lit (.int .i64 0), .lit (.int .u32 0), .lit (.string []), .lit (.int .i64 0), .lit (.string []), .lit (.string []), .lit (.string [])], .lit (.string []), .agg [.lit (.int .i64 0), .lit (.int .i64 0), .lit (.int .i64 0), .nil]], [], places) :=
  ⟨[], by kernel_rfl⟩
theorem Ff (os : Os) (started : os.Started) (H : Type) (enc : TypeId × Value → H) (F : Stop.Interp) :
    ReturnsInHanded {} Tryz.checked os 9 .any ((OpenSpec.ofChange Rows.scriptTellsSpec).preRow enc Tryz.prog Tryz.f9 Rows.scriptTellsRow.domain false Rows.scriptTellsRow.laid) (((OpenSpec.ofChange Rows.scriptTellsSpec).at F).post enc Tryz.prog Tryz.f9 false true false false) := by
  obtain ⟨places, hx⟩ := Fv os enc
  refine returnsInHanded_of_row (C := Tryz.checked) (s := OpenSpec.ofChange Rows.scriptTellsSpec) own started (by kernel_rfl) Tryz.func9
    (witness_row_at (enc := enc) (C := Tryz.checked) false (H7 os) #[.agg #[.int .i64 0, .int .i64 0, .int .u32 0, .string ⟨#[]⟩, .int .i64 0, .string ⟨#[]⟩, .string ⟨#[]⟩, .string ⟨#[]⟩], .string ⟨#[]⟩, .agg #[.int .i64 0, .int .i64 0, .int .i64 0, .slice none 0 0]] rfl (by kernel_rfl) (by kernel_rfl) (by kernel_rfl)
      (OpenSpec.preRow_of_cond 8 hx (by kernel_rfl) (fun k hk => by cases hk) (by kernel_rfl) (Eh os))) ?_
  intro W base args ds gs before hval hW _ _ hZ hL _ _
  exact Eg H enc W base args ds gs before _ hval hW hL hZ
theorem F9 : Rows.ScriptTellsSaid :=
  OpenClaim.holds_of_cond 9 Tryz.f9 rfl rfl rfl rfl rfl rfl rfl ⟨rfl, rfl, rfl, rfl, rfl⟩ rfl rfl rfl rfl rfl (by kernel_rfl) Tryz.func9 (by kernel_rfl)
    (of_decide_eq_true (by kernel_rfl)) (by unfold Func.isWrapper; first | (rw [if_pos (by decide +kernel)]; kernel_rfl) | (rw [if_neg (by decide +kernel)]; exact ⟨rfl, rfl⟩))
    (fun os started H enc _ F => by rw [OpenClaim.pre_eq_preRow]; exact Ff os started H enc F)
theorem C5 (f : FuncId) (fn : Func) (hf : Tryz.pinned.checked.prog.funcNamed Rows.scriptTellsRow.func = some f) (hfn : Tryz.pinned.checked.prog.funcs[f]? = some fn) :
    false = Tryz.pinned.checked.prog.looks [] ∧ ∀ (j : Nat) t, fn.params[j]? = some t → Tryz.pinned.checked.prog.wantsStandIn t = false := by
  obtain rfl : f = 9 := Option.some.inj ((show Tryz.prog.funcNamed Rows.scriptTellsRow.func = some 9 by kernel_rfl).symm.trans hf) |>.symm
  obtain rfl : fn = Tryz.f9 := (Option.some.inj (Tryz.func9.symm.trans hfn)).symm
  refine ⟨by kernel_rfl, fun j t ht => ?_⟩
  have ha : (Tryz.f9.params.toList.all fun t => !Tryz.prog.wantsStandIn t) = true := by kernel_rfl
  rw [List.all_eq_true] at ha
  have := ha t (by rw [← Array.getElem?_toList] at ht; exact List.mem_of_getElem? ht)
  have h2 : Tryz.prog.wantsStandIn t = false := by simpa using this
  exact h2
theorem scriptTells_card : Rows.ScriptTellsCardSaid :=
  Claim7.holds_tied_plain_at .later [] _ _ _ _ F9 (fun _ h => by cases h) (by kernel_rfl) (fun _ h => by cases h) scriptTells_row_tie rfl ⟨rfl, rfl⟩ (by kernel_rfl) rfl C5 (by kernel_rfl)
#print axioms scriptTells_card
end Go.Proofs.YtoflbpmbkmephaaGreatDoor
