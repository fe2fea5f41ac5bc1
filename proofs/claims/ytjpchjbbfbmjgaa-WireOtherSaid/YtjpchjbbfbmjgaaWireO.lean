/- The walk of WireOther. (Printed by tools/gen_other.py.) -/
import Derived.Test.YtjpchjbbfbmjgaaWireQ
import Derived.Test.YtjpchjbbfbmjgaaWireLaw
namespace Go.Proofs.Ytjpchjbbfbmjgaa
set_option linter.unusedSimpArgs false
set_option linter.unusedVariables false
open Go.RowKit
def otherR (S1 S2 : ByteArray) (k n m k' n' m' : Int) (a b a' b' : ByteArray) (X Y : Bool) : Nat → Value → World → Prop
  | 0 => fun v w => v = .bool true
  | 1 => fun v w => v = .bool true
  | 2 => fun v w => v = msgV k a b n m
  | 3 => fun v w => IsBytes 0 w v (wputL k a b n m)
  | 4 => fun v w => v = .string S1
  | 5 => fun v w => v = msgV k' a' b' n' m'
  | 6 => fun v w => IsBytes 0 w v (wputL k' a' b' n' m')
  | 7 => fun v w => v = .string S2
  | 8 => fun v w => v = .bool X
  | 9 => fun v w => v = msgV k a b n m
  | 10 => fun v w => v = msgV k' a' b' n' m'
  | 11 => fun v w => v = .bool Y
  | 12 => fun v w => v = .bool (X == Y)
  | 13 => fun v w => v = .bool (X == Y)
  | 14 => fun v w => v = .bool (X == Y)
  | _ => fun _ _ => True
theorem otherR_keeps (S1 S2 : ByteArray) (k n m k' n' m' : Int) (a b a' b' : ByteArray) (X Y : Bool) (j : Nat) (v : Value) (w w' : World) (h : otherR S1 S2 k n m k' n' m' a b a' b' X Y j v w) (kk : Keeps w w') : otherR S1 S2 k n m k' n' m' a b a' b' X Y j v w' := by
  unfold otherR at h ⊢
  split at h <;> first | exact h | exact h.keeps kk
set_option maxRecDepth 100000 in
set_option maxHeartbeats 1000000 in
theorem other_any (k n m k' n' m' : Int) (a b a' b' : ByteArray) (w : World) (ha : a.size ≤ maxLen) (hb : b.size ≤ maxLen) (ha' : a'.size ≤ maxLen) (hb' : b'.size ≤ maxLen) :
    Calls Try.prog 6 #[msgV k a b n m, msgV k' a' b' n' m'] w fun e w' => e = .returned (.bool true) ∧ Below w.heap.size w w' := by
  unfold msgV
  go_enter Try.func6, Try.ntmps6
  go_wp2_with fail
  refine (head_any _).mono ?_
  rintro e w1 ⟨rfl, hb1⟩
  have B1 : Below w.heap.size w w1 := (((Below.refl _ _).alloc (Nat.le_refl _) _).alloc (by simp) _).trans (hb1.mono (by simp; omega))
  have G1 := ((Holds.new w _ _ _).alloc _).below hb1
  have G2 := (Holds.newAt (g := w.heap.size + 1) _ _ _ _ (by simp)).below hb1
  have h1 := G1.2
  have h2 := G2.2
  clear hb1
  go_wp2_with fail
  refine (great_any k n m a b _).mono ?_
  rintro e w2 ⟨⟨z, rfl⟩, hb2⟩
  have B2 : Below w.heap.size w w2 := B1.trans (hb2.mono B1.size)
  replace G1 := G1.below hb2
  replace G2 := G2.below hb2
  clear hb2 h1 h2 B1
  have h1 := G1.2
  have h2 := G2.2
  cases z with
  | true =>
    go_wp2_with fail
    go_ret
    exact ⟨rfl, B2⟩
  | false =>
    go_wp2_with fail
    refine (great_any k' n' m' a' b' _).mono ?_
    rintro e w3 ⟨⟨z, rfl⟩, hb3⟩
    have B3 : Below w.heap.size w w3 := B2.trans (hb3.mono B2.size)
    replace G1 := G1.below hb3
    replace G2 := G2.below hb3
    clear hb3 h1 h2 B2
    have h1 := G1.2
    have h2 := G2.2
    cases z with
    | true =>
      go_wp2_with fail
      go_ret
      exact ⟨rfl, B3⟩
    | false =>
      go_wp2_with fail
      refine (right_any k n m a b _ ha hb).mono ?_
      rintro e w4 ⟨rfl, hb4⟩
      have B4 : Below w.heap.size w w4 := B3.trans (hb4.mono B3.size)
      replace G1 := G1.below hb4
      replace G2 := G2.below hb4
      clear hb4 h1 h2 B3
      have h1 := G1.2
      have h2 := G2.2
      cases hr : rightB k a b n m with
      | false =>
        go_wp2_with fail
        go_ret
        exact ⟨rfl, B4⟩
      | true =>
        have HR := Lib.hid hr
        clear hr
        go_wp2_with fail
        refine (right_any k' n' m' a' b' _ ha' hb').mono ?_
        rintro e w5 ⟨rfl, hb5⟩
        have B5 : Below w.heap.size w w5 := B4.trans (hb5.mono B4.size)
        replace G1 := G1.below hb5
        replace G2 := G2.below hb5
        clear hb5 h1 h2 B4
        cases hr' : rightB k' a' b' n' m' with
        | false =>
          go_wp2_with fail
          go_ret
          exact ⟨rfl, B5⟩
        | true =>
          obtain ⟨S1, e1⟩ : ∃ S1, (⟨(wputL k a b n m).toArray⟩ : ByteArray) = S1 := ⟨_, rfl⟩
          obtain ⟨S2, e2⟩ : ∃ S2, (⟨(wputL k' a' b' n' m').toArray⟩ : ByteArray) = S2 := ⟨_, rfl⟩
          obtain ⟨X, ex⟩ : ∃ X, (S1.toList == S2.toList) = X := ⟨_, rfl⟩
          obtain ⟨Y, ey⟩ : ∃ Y, decide (k = k' ∧ a = a' ∧ b = b' ∧ n = n' ∧ m = m') = Y := ⟨_, rfl⟩
          have hXY : (X == Y) = true := by
            rw [← ex, ← ey]
            by_cases h : k = k' ∧ a = a' ∧ b = b' ∧ n = n' ∧ m = m'
            · obtain ⟨rfl, rfl, rfl, rfl, rfl⟩ := h
              rw [← e1, ← e2]
              simp
            · rw [decide_eq_false h]
              simp only [beq_false, Bool.not_eq_true', beq_eq_false_iff_ne, ne_eq, toList_eq_iff]
              intro h'
              rw [← e1, ← e2] at h'
              simp only [ByteArray.mk.injEq] at h'
              have h2 := congrArg Array.toList h'
              simp only at h2
              exact h (wput_inj HR.out hr' h2)
          have E1 := Lib.hid e1
          have E2 := Lib.hid e2
          have HX := Lib.hid ex
          have HY := Lib.hid ey
          have HXY := Lib.hid hXY
          clear e1 e2 ex ey hr' hXY
          generalize hg1 : w.heap.size = g1 at *
          have hH1 : ∀ wr : World, Keeps w5.drew wr → Holds wr g1 _ := fun wr hk => (show Holds w5.drew g1 _ from G1).below hk
          have hH2 : ∀ wr : World, Keeps w5.drew wr → Holds wr (g1 + 1) _ := fun wr hk => (show Holds w5.drew (g1 + 1) _ from G2).below hk
          clear G1 G2
          go_wp2_with fail
          refine wp_region_facts3 (by kernel_rfl) (by kernel_rfl) (by kernel_rfl) Keeps (otherR S1 S2 k n m k' n' m' a b a' b' X Y) (Keeps.refl _) (fun _ _ _ => Keeps.trans) (otherR_keeps S1 S2 k n m k' n' m' a b a' b' X Y) ?_ ?_
          · refine ⟨?_, ?_, ?_, ?_, ?_, ?_, ?_, ?_, ?_, ?_, ?_, ?_, ?_, ?_, ?_, trivial⟩
            · intro f wr hk hs hah hi
              have e5 : f.eval (.tmp 5) = .bool true := hs 5 (by simp [Still])
              refine puts_run hi (.inl rfl) (v := .bool true) (w' := wr) ?_ (Keeps.refl _) rfl
              clear hs hah hi
              generalize f.eval = ρ at *
              go_simp
            · intro f wr hk hs hah hi
              have r0 := ahead_get hah 0 .data (by simp) rfl rfl rfl
              have e24 : f.eval (.tmp 24) = .bool true := r0
              refine puts_run hi (.inl rfl) (v := .bool true) (w' := wr) ?_ (Keeps.refl _) rfl
              clear hs hah hi
              generalize f.eval = ρ at *
              go_simp
            · intro f wr hk hs hah hi
              have e2 : f.eval (.tmp 2) = .pointer (some ⟨g1, 0, none⟩) := hs 2 (by simp [Still])
              have g1 : f.eval (.tmp 25) = .bool true := ahead_get hah 1 .guard (by simp) rfl rfl rfl
              have c1 := (hH1 wr hk).2
              refine puts_run hi (.inr ⟨1, true, _, 25, rfl, rfl, rfl, g1⟩) (v := msgV k a b n m) (w' := wr) ?_ (Keeps.refl _) rfl
              clear hs hah hi
              generalize f.eval = ρ at *
              unfold msgV
              go_simp
            · intro f wr hk hs hah hi
              have r2 := ahead_get hah 2 .data (by simp) rfl rfl rfl
              have e26 : f.eval (.tmp 26) = msgV k a b n m := r2
              have g1 : f.eval (.tmp 25) = .bool true := ahead_get hah 1 .guard (by simp) rfl rfl rfl
              have qf : ∀ k, f.eval (.func k) = .func (.func k) #[] #[] := fun _ => rfl
              refine puts_call hi (.inr ⟨1, true, _, 25, rfl, rfl, rfl, g1⟩) (f := 15) (args := #[msgV k a b n m]) ?_ ((wput_any k n m a b _ ha hb).mono fun e w' h => h.bytes (C := 0) (Nat.zero_le _))
              clear hs hah hi
              generalize f.eval = ρ at *
              go_simp
            · intro f wr hk hs hah hi
              have r3 := ahead_get hah 3 .data (by simp) rfl rfl rfl
              obtain ⟨A3, n3, c3, e27, hr3, hq3⟩ := r3
              have g1 : f.eval (.tmp 25) = .bool true := ahead_get hah 1 .guard (by simp) rfl rfl rfl
              have hcv := run_convert_rd hr3
              rw [E1.out] at hcv
              refine puts_run hi (.inr ⟨1, true, _, 25, rfl, rfl, rfl, g1⟩) (v := .string S1) (w' := wr) ?_ (Keeps.refl _) rfl
              clear hs hah hi
              generalize f.eval = ρ at *
              go_simp
            · intro f wr hk hs hah hi
              have e3 : f.eval (.tmp 3) = .pointer (some ⟨g1 + 1, 0, none⟩) := hs 3 (by simp [Still])
              have g1 : f.eval (.tmp 25) = .bool true := ahead_get hah 1 .guard (by simp) rfl rfl rfl
              have c1 := (hH2 wr hk).2
              refine puts_run hi (.inr ⟨1, true, _, 25, rfl, rfl, rfl, g1⟩) (v := msgV k' a' b' n' m') (w' := wr) ?_ (Keeps.refl _) rfl
              clear hs hah hi
              generalize f.eval = ρ at *
              unfold msgV
              go_simp
            · intro f wr hk hs hah hi
              have r5 := ahead_get hah 5 .data (by simp) rfl rfl rfl
              have e29 : f.eval (.tmp 29) = msgV k' a' b' n' m' := r5
              have g1 : f.eval (.tmp 25) = .bool true := ahead_get hah 1 .guard (by simp) rfl rfl rfl
              have qf : ∀ k, f.eval (.func k) = .func (.func k) #[] #[] := fun _ => rfl
              refine puts_call hi (.inr ⟨1, true, _, 25, rfl, rfl, rfl, g1⟩) (f := 15) (args := #[msgV k' a' b' n' m']) ?_ ((wput_any k' n' m' a' b' _ ha' hb').mono fun e w' h => h.bytes (C := 0) (Nat.zero_le _))
              clear hs hah hi
              generalize f.eval = ρ at *
              go_simp
            · intro f wr hk hs hah hi
              have r6 := ahead_get hah 6 .data (by simp) rfl rfl rfl
              obtain ⟨A6, n6, c6, e30, hr6, hq6⟩ := r6
              have g1 : f.eval (.tmp 25) = .bool true := ahead_get hah 1 .guard (by simp) rfl rfl rfl
              have hcv := run_convert_rd hr6
              rw [E2.out] at hcv
              refine puts_run hi (.inr ⟨1, true, _, 25, rfl, rfl, rfl, g1⟩) (v := .string S2) (w' := wr) ?_ (Keeps.refl _) rfl
              clear hs hah hi
              generalize f.eval = ρ at *
              go_simp
            · intro f wr hk hs hah hi
              have r4 := ahead_get hah 4 .data (by simp) rfl rfl rfl
              have e28 : f.eval (.tmp 28) = .string S1 := r4
              have r7 := ahead_get hah 7 .data (by simp) rfl rfl rfl
              have e31 : f.eval (.tmp 31) = .string S2 := r7
              have g1 : f.eval (.tmp 25) = .bool true := ahead_get hah 1 .guard (by simp) rfl rfl rfl
              refine puts_run hi (.inr ⟨1, true, _, 25, rfl, rfl, rfl, g1⟩) (v := .bool X) (w' := wr) ?_ (Keeps.refl _) rfl
              clear hs hah hi
              generalize f.eval = ρ at *
              have hx := HX.out
              go_simp
              all_goals exact hx
            · intro f wr hk hs hah hi
              have e2 : f.eval (.tmp 2) = .pointer (some ⟨g1, 0, none⟩) := hs 2 (by simp [Still])
              have g1 : f.eval (.tmp 25) = .bool true := ahead_get hah 1 .guard (by simp) rfl rfl rfl
              have c1 := (hH1 wr hk).2
              refine puts_run hi (.inr ⟨1, true, _, 25, rfl, rfl, rfl, g1⟩) (v := msgV k a b n m) (w' := wr) ?_ (Keeps.refl _) rfl
              clear hs hah hi
              generalize f.eval = ρ at *
              unfold msgV
              go_simp
            · intro f wr hk hs hah hi
              have e3 : f.eval (.tmp 3) = .pointer (some ⟨g1 + 1, 0, none⟩) := hs 3 (by simp [Still])
              have g1 : f.eval (.tmp 25) = .bool true := ahead_get hah 1 .guard (by simp) rfl rfl rfl
              have c1 := (hH2 wr hk).2
              refine puts_run hi (.inr ⟨1, true, _, 25, rfl, rfl, rfl, g1⟩) (v := msgV k' a' b' n' m') (w' := wr) ?_ (Keeps.refl _) rfl
              clear hs hah hi
              generalize f.eval = ρ at *
              unfold msgV
              go_simp
            · intro f wr hk hs hah hi
              have r9 := ahead_get hah 9 .data (by simp) rfl rfl rfl
              have e33 : f.eval (.tmp 33) = msgV k a b n m := r9
              have r10 := ahead_get hah 10 .data (by simp) rfl rfl rfl
              have e34 : f.eval (.tmp 34) = msgV k' a' b' n' m' := r10
              have g1 : f.eval (.tmp 25) = .bool true := ahead_get hah 1 .guard (by simp) rfl rfl rfl
              refine puts_run hi (.inr ⟨1, true, _, 25, rfl, rfl, rfl, g1⟩) (v := .bool Y) (w' := wr) ?_ (Keeps.refl _) rfl
              clear hs hah hi
              generalize f.eval = ρ at *
              have hy := HY.out
              clear HX HY
              unfold msgV at e33 e34
              go_simp
              simp only [toList_eq_iff]
              rw [← hy]
              by_cases h1 : k = k' <;> by_cases h2 : a = a' <;> by_cases h3 : b = b' <;> by_cases h4 : n = n' <;> by_cases h5 : m = m' <;> simp [h1, h2, h3, h4, h5]
            · intro f wr hk hs hah hi
              have r8 := ahead_get hah 8 .data (by simp) rfl rfl rfl
              have e32 : f.eval (.tmp 32) = .bool X := r8
              have r11 := ahead_get hah 11 .data (by simp) rfl rfl rfl
              have e35 : f.eval (.tmp 35) = .bool Y := r11
              have g1 : f.eval (.tmp 25) = .bool true := ahead_get hah 1 .guard (by simp) rfl rfl rfl
              refine puts_run hi (.inr ⟨1, true, _, 25, rfl, rfl, rfl, g1⟩) (v := .bool (X == Y)) (w' := wr) ?_ (Keeps.refl _) rfl
              clear hs hah hi
              generalize f.eval = ρ at *
              go_simp
            · intro f wr hk hs hah hi
              have r1 := ahead_get hah 1 .data (by simp) rfl rfl rfl
              have e25 : f.eval (.tmp 25) = .bool true := r1
              have r12 := ahead_get hah 12 .data (by simp) rfl rfl rfl
              have e36 : f.eval (.tmp 36) = .bool (X == Y) := r12
              have qc : ∀ v, f.eval (.const v) = v := fun _ => rfl
              refine puts_run hi (.inl rfl) (v := .bool (X == Y)) (w' := wr) ?_ (Keeps.refl _) rfl
              clear hs hah hi
              generalize f.eval = ρ at *
              go_simp
            · intro f wr hk hs hah hi
              have r13 := ahead_get hah 13 .data (by simp) rfl rfl rfl
              have e37 : f.eval (.tmp 37) = .bool (X == Y) := r13
              refine puts_run hi (.inl rfl) (v := .bool (X == Y)) (w' := wr) ?_ (Keeps.refl _) rfl
              clear hs hah hi
              generalize f.eval = ρ at *
              go_simp
          · intro f ws hk hR
            have e4 : f 4 = .bool (X == Y) := hR 14 _ _ rfl rfl
            clear hR
            rw [HXY.out] at e4
            simp [putAll, Act.put, e4]
            go_wp2_with fail
            go_ret
            subst hg1
            exact ⟨rfl, B5.drew.trans (hk.mono (by have := B5.size; simpa using this))⟩
end Go.Proofs.Ytjpchjbbfbmjgaa
