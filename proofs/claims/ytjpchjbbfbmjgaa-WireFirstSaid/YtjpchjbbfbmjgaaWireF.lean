/- The walk of WireFirst. (Printed by tools/gen_first.py.) -/
import Derived.Test.YtjpchjbbfbmjgaaWireQ
import Derived.Test.YtjpchjbbfbmjgaaWireLaw
namespace Go.Proofs.Ytjpchjbbfbmjgaa
set_option linter.unusedSimpArgs false
set_option linter.unusedVariables false
open Go.RowKit
def firstR11 (k : Int) (g1 pb po L1n c1 : Nat) (A1 : Option Addr) : Nat → Value → World → Prop
  | 0 => fun v _ => v = .bool true
  | 1 => fun v _ => v = .bool true
  | 2 => fun v _ => v = .slice (some ⟨pb, po, none⟩) L1n c1
  | 3 => fun v _ => v = .int .i64 (L1n : Nat)
  | 4 => fun v _ => v = .bool false
  | 5 => fun v _ => v = .bool false
  | 6 => fun v _ => v = .slice (some ⟨pb, po, none⟩) L1n c1
  | 7 => fun v _ => v = .pointer (some ⟨pb, po, none⟩)
  | 8 => fun v _ => v = .int .u8 k
  | 9 => fun v _ => v = .int .i64 k
  | 10 => fun v _ => v = .pointer (some ⟨g1, 0, none⟩)
  | 11 => fun v _ => v = .int .i64 k
  | 12 => fun v _ => v = .bool true
  | 13 => fun v _ => v = .bool true
  | 14 => fun v _ => v = .bool true
  | 15 => fun v _ => v = .bool true
  | 16 => fun v _ => v = .bool true
  | 17 => fun v _ => v = .bool false
  | 18 => fun v _ => v = .bool false
  | 19 => fun v _ => v = .bool true
  | 20 => fun v _ => v = .bool true
  | 21 => fun v _ => v = .bool true
  | 22 => fun v _ => v = .bool true
  | _ => fun _ _ => True
theorem firstR11_keeps (k : Int) (g1 pb po L1n c1 : Nat) (A1 : Option Addr) (j : Nat) (v : Value) (w w' : World) (h : firstR11 k g1 pb po L1n c1 A1 j v w) (kk : Keeps w w') : firstR11 k g1 pb po L1n c1 A1 j v w' := by
  unfold firstR11 at h ⊢
  split at h <;> exact h
def firstR10 (k : Int) (g1 pb po L1n c1 : Nat) (A1 : Option Addr) : Nat → Value → World → Prop
  | 0 => fun v _ => v = .bool true
  | 1 => fun v _ => v = .bool true
  | 2 => fun v _ => v = .slice (some ⟨pb, po, none⟩) L1n c1
  | 3 => fun v _ => v = .int .i64 (L1n : Nat)
  | 4 => fun v _ => v = .bool false
  | 5 => fun v _ => v = .bool false
  | 6 => fun v _ => v = .slice (some ⟨pb, po, none⟩) L1n c1
  | 7 => fun v _ => v = .pointer (some ⟨pb, po, none⟩)
  | 8 => fun v _ => v = .int .u8 k
  | 9 => fun v _ => v = .int .i64 k
  | 10 => fun v _ => v = .pointer (some ⟨g1, 0, none⟩)
  | 11 => fun v _ => v = .int .i64 k
  | 12 => fun v _ => v = .bool true
  | 13 => fun v _ => v = .bool true
  | 14 => fun v _ => v = .bool true
  | 15 => fun v _ => v = .bool true
  | 16 => fun v _ => v = .bool false
  | 17 => fun v _ => v = .bool true
  | 18 => fun v _ => v = .bool true
  | 19 => fun v _ => True
  | 20 => fun v _ => v = .bool true
  | 21 => fun v _ => v = .bool true
  | 22 => fun v _ => v = .bool true
  | _ => fun _ _ => True
theorem firstR10_keeps (k : Int) (g1 pb po L1n c1 : Nat) (A1 : Option Addr) (j : Nat) (v : Value) (w w' : World) (h : firstR10 k g1 pb po L1n c1 A1 j v w) (kk : Keeps w w') : firstR10 k g1 pb po L1n c1 A1 j v w' := by
  unfold firstR10 at h ⊢
  split at h <;> exact h
def firstR01 (k : Int) (g1 pb po L1n c1 : Nat) (A1 : Option Addr) : Nat → Value → World → Prop
  | 0 => fun v _ => v = .bool true
  | 1 => fun v _ => v = .bool true
  | 2 => fun v _ => v = .slice A1 0 c1
  | 3 => fun v _ => v = .int .i64 0
  | 4 => fun v _ => v = .bool true
  | 5 => fun v _ => v = .bool true
  | 6 => fun v _ => True
  | 7 => fun v _ => True
  | 8 => fun v _ => True
  | 9 => fun v _ => True
  | 10 => fun v _ => True
  | 11 => fun v _ => True
  | 12 => fun v _ => True
  | 13 => fun v _ => v = .bool true
  | 14 => fun v _ => v = .bool true
  | 15 => fun v _ => v = .bool true
  | 16 => fun v _ => v = .bool true
  | 17 => fun v _ => v = .bool false
  | 18 => fun v _ => v = .bool false
  | 19 => fun v _ => v = .bool true
  | 20 => fun v _ => v = .bool true
  | 21 => fun v _ => v = .bool true
  | 22 => fun v _ => v = .bool true
  | _ => fun _ _ => True
theorem firstR01_keeps (k : Int) (g1 pb po L1n c1 : Nat) (A1 : Option Addr) (j : Nat) (v : Value) (w w' : World) (h : firstR01 k g1 pb po L1n c1 A1 j v w) (kk : Keeps w w') : firstR01 k g1 pb po L1n c1 A1 j v w' := by
  unfold firstR01 at h ⊢
  split at h <;> exact h
def firstR00 (k : Int) (g1 pb po L1n c1 : Nat) (A1 : Option Addr) : Nat → Value → World → Prop
  | 0 => fun v _ => v = .bool true
  | 1 => fun v _ => v = .bool true
  | 2 => fun v _ => v = .slice A1 0 c1
  | 3 => fun v _ => v = .int .i64 0
  | 4 => fun v _ => v = .bool true
  | 5 => fun v _ => v = .bool true
  | 6 => fun v _ => True
  | 7 => fun v _ => True
  | 8 => fun v _ => True
  | 9 => fun v _ => True
  | 10 => fun v _ => True
  | 11 => fun v _ => True
  | 12 => fun v _ => True
  | 13 => fun v _ => v = .bool true
  | 14 => fun v _ => v = .bool true
  | 15 => fun v _ => v = .bool true
  | 16 => fun v _ => v = .bool false
  | 17 => fun v _ => v = .bool true
  | 18 => fun v _ => v = .bool true
  | 19 => fun v _ => True
  | 20 => fun v _ => v = .bool true
  | 21 => fun v _ => v = .bool true
  | 22 => fun v _ => v = .bool true
  | _ => fun _ _ => True
theorem firstR00_keeps (k : Int) (g1 pb po L1n c1 : Nat) (A1 : Option Addr) (j : Nat) (v : Value) (w w' : World) (h : firstR00 k g1 pb po L1n c1 A1 j v w) (kk : Keeps w w') : firstR00 k g1 pb po L1n c1 A1 j v w' := by
  unfold firstR00 at h ⊢
  split at h <;> exact h
theorem cell_below_alloc (w : World) (o : Obj) (b off : Nat) (h : b < w.heap.size) : (w.alloc o).cell? ⟨b, off, none⟩ = w.cell? ⟨b, off, none⟩ := ((Below.refl _ _).alloc (Nat.le_refl _) o).cell (p := ⟨b, off, none⟩) h
theorem right_kind {k n m : Int} {a b : ByteArray} (h : rightB k a b n m = true) : 1 ≤ k ∧ k ≤ 14 := by
  simp only [rightB, Bool.and_eq_true, isKind, decide_eq_true_eq] at h
  exact h.1
set_option maxRecDepth 100000 in
set_option maxHeartbeats 2000000 in
theorem first_any (k n m : Int) (a b : ByteArray) {A : Option Addr} {N c : Nat} {l : List UInt8} (w : World) (ha : a.size ≤ maxLen) (hb : b.size ≤ maxLen) (h : Rd w A N c l) :
    Calls Try.prog 8 #[msgV k a b n m, .slice A N c] w fun e w' => e = .returned (.bool true) ∧ Below w.heap.size w w' := by
  unfold msgV
  go_enter Try.func8, Try.ntmps8
  go_wp2_with fail
  refine (head_any _).mono ?_
  rintro e w1 ⟨rfl, hb1⟩
  have B1 : Below w.heap.size w w1 := ((Below.refl _ _).alloc (Nat.le_refl _) _).trans (hb1.mono (by simp))
  have G1 := (Holds.new w _ _ _).below hb1
  have r1 := (h.alloc _).below hb1
  have h1 := G1.2
  clear hb1
  go_wp2_with fail
  refine (great_any k n m a b _).mono ?_
  rintro e w2 ⟨⟨z, rfl⟩, hb2⟩
  have B2 : Below w.heap.size w w2 := B1.trans (hb2.mono B1.size)
  replace G1 := G1.below hb2
  have r2 := r1.below hb2
  clear hb2 h1 B1 r1 h
  have h1 := G1.2
  cases z with
  | true =>
    go_wp2_with fail
    go_ret
    exact ⟨rfl, B2⟩
  | false =>
    cases hl : decide ((9000 : Int) < (N : Int)) with
    | true =>
      go_wp2_with fail
      go_ret
      exact ⟨rfl, B2⟩
    | false =>
      go_wp2_with fail
      refine (wput_any k n m a b _ ha hb).mono ?_
      rintro e w3 ⟨v3, rfl, ho3, hb3⟩
      obtain ⟨A1, c1, rfl⟩ := ho3.shape
      have B3 : Below w.heap.size w w3 := B2.trans (hb3.mono B2.size)
      have q3 := ho3.rd.1
      have r3 := r2.below hb3
      replace G1 := G1.below hb3
      clear hb3 h1 B2 r2 ho3 hl
      go_wp2_with fail
      refine (wget_any _ r3).mono ?_
      rintro e w4 ⟨rfl, hb4⟩
      have B4 : Below w.heap.size w w4 := B3.trans (hb4.mono B3.size)
      have q4 := q3.below hb4
      have r4 := r3.below hb4
      replace G1 := G1.below hb4
      clear hb4 B3 r3 q3
      generalize hg1 : w.heap.size = g1 at *
      cases hr : rightB k a b n m with
      | false =>
        have hw0 : wputL k a b n m = [] := by simp [wputL, hr]
        rw [hw0]
        simp only [List.length_nil]
        clear q4 hw0 hr
        have hH1 : ∀ o (wr : World), Keeps (w4.alloc o).drew wr → Holds wr g1 _ := fun o wr hk => (show Holds (w4.alloc o).drew g1 _ from G1.alloc o).below hk
        cases hq : wgetL l with
        | some x =>
          obtain ⟨x1, x2⟩ := put_wget hq
          obtain ⟨r0, x3, _, x4⟩ := wput_cons x1
          have x5 : 1 ≤ x.k ∧ x.k ≤ 14 := right_kind x1
          rw [x2] at x3
          have hlen := r4.len
          rw [x3] at hlen
          simp only [List.length_cons] at hlen
          obtain ⟨ab, ao, rfl, hab, hcell⟩ := r4.2.2.2 (by omega)
          have hc0 := hcell 0 (by omega)
          rw [x3] at hc0
          simp only [Nat.add_zero, List.getD_cons_zero, x4] at hc0
          have hc1 := fun o => (cell_below_alloc w4 o ab ao hab).trans hc0
          have hpos0 : (0 : Int) < (N : Int) := by omega
          have x51 := x5.1
          have x52 := x5.2
          simp only [wgetV, msgOf, msgV]
          clear x1 x2 x3 x4 x5 hlen hcell hc0 r4 hq
          go_wp2_with fail
          refine wp_region_facts3 (by kernel_rfl) (by kernel_rfl) (by kernel_rfl) Keeps (firstR01 k g1 0 0 0 c1 A1) (Keeps.refl _) (fun _ _ _ => Keeps.trans) (firstR01_keeps k g1 0 0 0 c1 A1) ?_ ?_
          · refine ⟨?_, ?_, ?_, ?_, ?_, ?_, ?_, ?_, ?_, ?_, ?_, ?_, ?_, ?_, ?_, ?_, ?_, ?_, ?_, ?_, ?_, ?_, ?_, trivial⟩
            · intro f wr hk hs hah hi
              have e5 : f.eval (.tmp 5) = .bool true := hs 5 (by simp [Still])
              refine puts_run hi (.inl rfl) (v := .bool true) (w' := wr) ?_ (Keeps.refl _) rfl
              clear hs hah hi
              generalize f.eval = ρ at *
              go_simp
            · intro f wr hk hs hah hi
              have r0 := ahead_get hah 0 .data (by simp) rfl rfl rfl
              have e41 : f.eval (.tmp 41) = .bool true := r0
              refine puts_run hi (.inl rfl) (v := .bool true) (w' := wr) ?_ (Keeps.refl _) rfl
              clear hs hah hi
              generalize f.eval = ρ at *
              go_simp
            · intro f wr hk hs hah hi
              have e6 : f.eval (.tmp 6) = .slice A1 0 c1 := hs 6 (by simp [Still])
              have g1 : f.eval (.tmp 42) = .bool true := ahead_get hah 1 .guard (by simp) rfl rfl rfl
              refine puts_run hi (.inr ⟨1, true, _, 42, rfl, rfl, rfl, g1⟩) (v := .slice A1 0 c1) (w' := wr) ?_ (Keeps.refl _) rfl
              clear hs hah hi
              generalize f.eval = ρ at *
              go_simp
            · intro f wr hk hs hah hi
              have r2 := ahead_get hah 2 .data (by simp) rfl rfl rfl
              have e43 : f.eval (.tmp 43) = .slice A1 0 c1 := r2
              have g1 : f.eval (.tmp 42) = .bool true := ahead_get hah 1 .guard (by simp) rfl rfl rfl
              refine puts_run hi (.inr ⟨1, true, _, 42, rfl, rfl, rfl, g1⟩) (v := .int .i64 0) (w' := wr) ?_ (Keeps.refl _) rfl
              clear hs hah hi
              generalize f.eval = ρ at *
              go_simp
            · intro f wr hk hs hah hi
              have r3 := ahead_get hah 3 .data (by simp) rfl rfl rfl
              have e44 : f.eval (.tmp 44) = .int .i64 0 := r3
              have g1 : f.eval (.tmp 42) = .bool true := ahead_get hah 1 .guard (by simp) rfl rfl rfl
              have qc : ∀ v, f.eval (.const v) = v := fun _ => rfl
              refine puts_run hi (.inr ⟨1, true, _, 42, rfl, rfl, rfl, g1⟩) (v := .bool true) (w' := wr) ?_ (Keeps.refl _) rfl
              clear hs hah hi
              generalize f.eval = ρ at *
              go_simp
            · intro f wr hk hs hah hi
              have r4 := ahead_get hah 4 .data (by simp) rfl rfl rfl
              have e45 : f.eval (.tmp 45) = .bool true := r4
              have g1 : f.eval (.tmp 42) = .bool true := ahead_get hah 1 .guard (by simp) rfl rfl rfl
              refine puts_run hi (.inr ⟨1, true, _, 42, rfl, rfl, rfl, g1⟩) (v := .bool true) (w' := wr) ?_ (Keeps.refl _) rfl
              clear hs hah hi
              generalize f.eval = ρ at *
              go_simp
            · intro f wr hk hs hah hi
              have g5 : f.eval (.tmp 46) = .bool true := ahead_get hah 5 .guard (by simp) rfl rfl rfl
              exact puts_skip hi rfl rfl rfl g5 (by decide) (Keeps.refl _) trivial
            · intro f wr hk hs hah hi
              have g5 : f.eval (.tmp 46) = .bool true := ahead_get hah 5 .guard (by simp) rfl rfl rfl
              exact puts_skip hi rfl rfl rfl g5 (by decide) (Keeps.refl _) trivial
            · intro f wr hk hs hah hi
              have g5 : f.eval (.tmp 46) = .bool true := ahead_get hah 5 .guard (by simp) rfl rfl rfl
              exact puts_skip hi rfl rfl rfl g5 (by decide) (Keeps.refl _) trivial
            · intro f wr hk hs hah hi
              have g5 : f.eval (.tmp 46) = .bool true := ahead_get hah 5 .guard (by simp) rfl rfl rfl
              exact puts_skip hi rfl rfl rfl g5 (by decide) (Keeps.refl _) trivial
            · intro f wr hk hs hah hi
              have g5 : f.eval (.tmp 46) = .bool true := ahead_get hah 5 .guard (by simp) rfl rfl rfl
              exact puts_skip hi rfl rfl rfl g5 (by decide) (Keeps.refl _) trivial
            · intro f wr hk hs hah hi
              have g5 : f.eval (.tmp 46) = .bool true := ahead_get hah 5 .guard (by simp) rfl rfl rfl
              exact puts_skip hi rfl rfl rfl g5 (by decide) (Keeps.refl _) trivial
            · intro f wr hk hs hah hi
              have g5 : f.eval (.tmp 46) = .bool true := ahead_get hah 5 .guard (by simp) rfl rfl rfl
              exact puts_skip hi rfl rfl rfl g5 (by decide) (Keeps.refl _) trivial
            · intro f wr hk hs hah hi
              have r5 := ahead_get hah 5 .data (by simp) rfl rfl rfl
              have e46 : f.eval (.tmp 46) = .bool true := r5
              have g1 : f.eval (.tmp 42) = .bool true := ahead_get hah 1 .guard (by simp) rfl rfl rfl
              have qc : ∀ v, f.eval (.const v) = v := fun _ => rfl
              refine puts_run hi (.inr ⟨1, true, _, 42, rfl, rfl, rfl, g1⟩) (v := .bool true) (w' := wr) ?_ (Keeps.refl _) rfl
              clear hs hah hi
              generalize f.eval = ρ at *
              go_simp
            · intro f wr hk hs hah hi
              have r1 := ahead_get hah 1 .data (by simp) rfl rfl rfl
              have e42 : f.eval (.tmp 42) = .bool true := r1
              have r13 := ahead_get hah 13 .data (by simp) rfl rfl rfl
              have e54 : f.eval (.tmp 54) = .bool true := r13
              have qc : ∀ v, f.eval (.const v) = v := fun _ => rfl
              refine puts_run hi (.inl rfl) (v := .bool true) (w' := wr) ?_ (Keeps.refl _) rfl
              clear hs hah hi
              generalize f.eval = ρ at *
              go_simp
            · intro f wr hk hs hah hi
              have r14 := ahead_get hah 14 .data (by simp) rfl rfl rfl
              have e55 : f.eval (.tmp 55) = .bool true := r14
              refine puts_run hi (.inl rfl) (v := .bool true) (w' := wr) ?_ (Keeps.refl _) rfl
              clear hs hah hi
              generalize f.eval = ρ at *
              go_simp
            · intro f wr hk hs hah hi
              have e8 : f.eval (.tmp 8) = .bool true := hs 8 (by simp [Still])
              have g15 : f.eval (.tmp 56) = .bool true := ahead_get hah 15 .guard (by simp) rfl rfl rfl
              refine puts_run hi (.inr ⟨15, true, _, 56, rfl, rfl, rfl, g15⟩) (v := .bool true) (w' := wr) ?_ (Keeps.refl _) rfl
              clear hs hah hi
              generalize f.eval = ρ at *
              go_simp
            · intro f wr hk hs hah hi
              have r16 := ahead_get hah 16 .data (by simp) rfl rfl rfl
              have e57 : f.eval (.tmp 57) = .bool true := r16
              have g15 : f.eval (.tmp 56) = .bool true := ahead_get hah 15 .guard (by simp) rfl rfl rfl
              refine puts_run hi (.inr ⟨15, true, _, 56, rfl, rfl, rfl, g15⟩) (v := .bool false) (w' := wr) ?_ (Keeps.refl _) rfl
              clear hs hah hi
              generalize f.eval = ρ at *
              go_simp
            · intro f wr hk hs hah hi
              have r17 := ahead_get hah 17 .data (by simp) rfl rfl rfl
              have e58 : f.eval (.tmp 58) = .bool false := r17
              have g15 : f.eval (.tmp 56) = .bool true := ahead_get hah 15 .guard (by simp) rfl rfl rfl
              refine puts_run hi (.inr ⟨15, true, _, 56, rfl, rfl, rfl, g15⟩) (v := .bool false) (w' := wr) ?_ (Keeps.refl _) rfl
              clear hs hah hi
              generalize f.eval = ρ at *
              go_simp
            · intro f wr hk hs hah hi
              have e9 : f.eval (.tmp 9) = .bool true := hs 9 (by simp [Still])
              have g18 : f.eval (.tmp 59) = .bool false := ahead_get hah 18 .guard (by simp) rfl rfl rfl
              refine puts_run hi (.inr ⟨18, false, _, 59, rfl, rfl, rfl, g18⟩) (v := .bool true) (w' := wr) ?_ (Keeps.refl _) rfl
              clear hs hah hi
              generalize f.eval = ρ at *
              go_simp
            · intro f wr hk hs hah hi
              have r18 := ahead_get hah 18 .data (by simp) rfl rfl rfl
              have e59 : f.eval (.tmp 59) = .bool false := r18
              have r19 := ahead_get hah 19 .data (by simp) rfl rfl rfl
              have e60 : f.eval (.tmp 60) = .bool true := r19
              have g15 : f.eval (.tmp 56) = .bool true := ahead_get hah 15 .guard (by simp) rfl rfl rfl
              have qc : ∀ v, f.eval (.const v) = v := fun _ => rfl
              refine puts_run hi (.inr ⟨15, true, _, 56, rfl, rfl, rfl, g15⟩) (v := .bool true) (w' := wr) ?_ (Keeps.refl _) rfl
              clear hs hah hi
              generalize f.eval = ρ at *
              go_simp
            · intro f wr hk hs hah hi
              have r15 := ahead_get hah 15 .data (by simp) rfl rfl rfl
              have e56 : f.eval (.tmp 56) = .bool true := r15
              have r20 := ahead_get hah 20 .data (by simp) rfl rfl rfl
              have e61 : f.eval (.tmp 61) = .bool true := r20
              have qc : ∀ v, f.eval (.const v) = v := fun _ => rfl
              refine puts_run hi (.inl rfl) (v := .bool true) (w' := wr) ?_ (Keeps.refl _) rfl
              clear hs hah hi
              generalize f.eval = ρ at *
              go_simp
            · intro f wr hk hs hah hi
              have r21 := ahead_get hah 21 .data (by simp) rfl rfl rfl
              have e62 : f.eval (.tmp 62) = .bool true := r21
              refine puts_run hi (.inl rfl) (v := .bool true) (w' := wr) ?_ (Keeps.refl _) rfl
              clear hs hah hi
              generalize f.eval = ρ at *
              go_simp
          · intro f ws hk hR
            have e4 : f 4 = .bool true := hR 22 _ _ rfl rfl
            clear hR
            simp [putAll, Act.put, e4]
            go_wp2_with fail
            go_ret
            subst hg1
            exact ⟨rfl, ((B4.alloc B4.size _).drew).trans (hk.mono (by have := B4.size; simp; omega))⟩
        | none =>
          simp only [wgetV, msgOf, msgV]
          clear hq
          have hlen := r4.len
          cases l with
          | nil =>
            simp only [List.length_nil] at hlen
            subst hlen
            clear r4
            go_wp2_with fail
            refine wp_region_facts3 (by kernel_rfl) (by kernel_rfl) (by kernel_rfl) Keeps (firstR00 k g1 0 0 0 c1 A1) (Keeps.refl _) (fun _ _ _ => Keeps.trans) (firstR00_keeps k g1 0 0 0 c1 A1) ?_ ?_
            · refine ⟨?_, ?_, ?_, ?_, ?_, ?_, ?_, ?_, ?_, ?_, ?_, ?_, ?_, ?_, ?_, ?_, ?_, ?_, ?_, ?_, ?_, ?_, ?_, trivial⟩
              · intro f wr hk hs hah hi
                have e5 : f.eval (.tmp 5) = .bool true := hs 5 (by simp [Still])
                refine puts_run hi (.inl rfl) (v := .bool true) (w' := wr) ?_ (Keeps.refl _) rfl
                clear hs hah hi
                generalize f.eval = ρ at *
                go_simp
              · intro f wr hk hs hah hi
                have r0 := ahead_get hah 0 .data (by simp) rfl rfl rfl
                have e41 : f.eval (.tmp 41) = .bool true := r0
                refine puts_run hi (.inl rfl) (v := .bool true) (w' := wr) ?_ (Keeps.refl _) rfl
                clear hs hah hi
                generalize f.eval = ρ at *
                go_simp
              · intro f wr hk hs hah hi
                have e6 : f.eval (.tmp 6) = .slice A1 0 c1 := hs 6 (by simp [Still])
                have g1 : f.eval (.tmp 42) = .bool true := ahead_get hah 1 .guard (by simp) rfl rfl rfl
                refine puts_run hi (.inr ⟨1, true, _, 42, rfl, rfl, rfl, g1⟩) (v := .slice A1 0 c1) (w' := wr) ?_ (Keeps.refl _) rfl
                clear hs hah hi
                generalize f.eval = ρ at *
                go_simp
              · intro f wr hk hs hah hi
                have r2 := ahead_get hah 2 .data (by simp) rfl rfl rfl
                have e43 : f.eval (.tmp 43) = .slice A1 0 c1 := r2
                have g1 : f.eval (.tmp 42) = .bool true := ahead_get hah 1 .guard (by simp) rfl rfl rfl
                refine puts_run hi (.inr ⟨1, true, _, 42, rfl, rfl, rfl, g1⟩) (v := .int .i64 0) (w' := wr) ?_ (Keeps.refl _) rfl
                clear hs hah hi
                generalize f.eval = ρ at *
                go_simp
              · intro f wr hk hs hah hi
                have r3 := ahead_get hah 3 .data (by simp) rfl rfl rfl
                have e44 : f.eval (.tmp 44) = .int .i64 0 := r3
                have g1 : f.eval (.tmp 42) = .bool true := ahead_get hah 1 .guard (by simp) rfl rfl rfl
                have qc : ∀ v, f.eval (.const v) = v := fun _ => rfl
                refine puts_run hi (.inr ⟨1, true, _, 42, rfl, rfl, rfl, g1⟩) (v := .bool true) (w' := wr) ?_ (Keeps.refl _) rfl
                clear hs hah hi
                generalize f.eval = ρ at *
                go_simp
              · intro f wr hk hs hah hi
                have r4 := ahead_get hah 4 .data (by simp) rfl rfl rfl
                have e45 : f.eval (.tmp 45) = .bool true := r4
                have g1 : f.eval (.tmp 42) = .bool true := ahead_get hah 1 .guard (by simp) rfl rfl rfl
                refine puts_run hi (.inr ⟨1, true, _, 42, rfl, rfl, rfl, g1⟩) (v := .bool true) (w' := wr) ?_ (Keeps.refl _) rfl
                clear hs hah hi
                generalize f.eval = ρ at *
                go_simp
              · intro f wr hk hs hah hi
                have g5 : f.eval (.tmp 46) = .bool true := ahead_get hah 5 .guard (by simp) rfl rfl rfl
                exact puts_skip hi rfl rfl rfl g5 (by decide) (Keeps.refl _) trivial
              · intro f wr hk hs hah hi
                have g5 : f.eval (.tmp 46) = .bool true := ahead_get hah 5 .guard (by simp) rfl rfl rfl
                exact puts_skip hi rfl rfl rfl g5 (by decide) (Keeps.refl _) trivial
              · intro f wr hk hs hah hi
                have g5 : f.eval (.tmp 46) = .bool true := ahead_get hah 5 .guard (by simp) rfl rfl rfl
                exact puts_skip hi rfl rfl rfl g5 (by decide) (Keeps.refl _) trivial
              · intro f wr hk hs hah hi
                have g5 : f.eval (.tmp 46) = .bool true := ahead_get hah 5 .guard (by simp) rfl rfl rfl
                exact puts_skip hi rfl rfl rfl g5 (by decide) (Keeps.refl _) trivial
              · intro f wr hk hs hah hi
                have g5 : f.eval (.tmp 46) = .bool true := ahead_get hah 5 .guard (by simp) rfl rfl rfl
                exact puts_skip hi rfl rfl rfl g5 (by decide) (Keeps.refl _) trivial
              · intro f wr hk hs hah hi
                have g5 : f.eval (.tmp 46) = .bool true := ahead_get hah 5 .guard (by simp) rfl rfl rfl
                exact puts_skip hi rfl rfl rfl g5 (by decide) (Keeps.refl _) trivial
              · intro f wr hk hs hah hi
                have g5 : f.eval (.tmp 46) = .bool true := ahead_get hah 5 .guard (by simp) rfl rfl rfl
                exact puts_skip hi rfl rfl rfl g5 (by decide) (Keeps.refl _) trivial
              · intro f wr hk hs hah hi
                have r5 := ahead_get hah 5 .data (by simp) rfl rfl rfl
                have e46 : f.eval (.tmp 46) = .bool true := r5
                have g1 : f.eval (.tmp 42) = .bool true := ahead_get hah 1 .guard (by simp) rfl rfl rfl
                have qc : ∀ v, f.eval (.const v) = v := fun _ => rfl
                refine puts_run hi (.inr ⟨1, true, _, 42, rfl, rfl, rfl, g1⟩) (v := .bool true) (w' := wr) ?_ (Keeps.refl _) rfl
                clear hs hah hi
                generalize f.eval = ρ at *
                go_simp
              · intro f wr hk hs hah hi
                have r1 := ahead_get hah 1 .data (by simp) rfl rfl rfl
                have e42 : f.eval (.tmp 42) = .bool true := r1
                have r13 := ahead_get hah 13 .data (by simp) rfl rfl rfl
                have e54 : f.eval (.tmp 54) = .bool true := r13
                have qc : ∀ v, f.eval (.const v) = v := fun _ => rfl
                refine puts_run hi (.inl rfl) (v := .bool true) (w' := wr) ?_ (Keeps.refl _) rfl
                clear hs hah hi
                generalize f.eval = ρ at *
                go_simp
              · intro f wr hk hs hah hi
                have r14 := ahead_get hah 14 .data (by simp) rfl rfl rfl
                have e55 : f.eval (.tmp 55) = .bool true := r14
                refine puts_run hi (.inl rfl) (v := .bool true) (w' := wr) ?_ (Keeps.refl _) rfl
                clear hs hah hi
                generalize f.eval = ρ at *
                go_simp
              · intro f wr hk hs hah hi
                have e8 : f.eval (.tmp 8) = .bool false := hs 8 (by simp [Still])
                have g15 : f.eval (.tmp 56) = .bool true := ahead_get hah 15 .guard (by simp) rfl rfl rfl
                refine puts_run hi (.inr ⟨15, true, _, 56, rfl, rfl, rfl, g15⟩) (v := .bool false) (w' := wr) ?_ (Keeps.refl _) rfl
                clear hs hah hi
                generalize f.eval = ρ at *
                go_simp
              · intro f wr hk hs hah hi
                have r16 := ahead_get hah 16 .data (by simp) rfl rfl rfl
                have e57 : f.eval (.tmp 57) = .bool false := r16
                have g15 : f.eval (.tmp 56) = .bool true := ahead_get hah 15 .guard (by simp) rfl rfl rfl
                refine puts_run hi (.inr ⟨15, true, _, 56, rfl, rfl, rfl, g15⟩) (v := .bool true) (w' := wr) ?_ (Keeps.refl _) rfl
                clear hs hah hi
                generalize f.eval = ρ at *
                go_simp
              · intro f wr hk hs hah hi
                have r17 := ahead_get hah 17 .data (by simp) rfl rfl rfl
                have e58 : f.eval (.tmp 58) = .bool true := r17
                have g15 : f.eval (.tmp 56) = .bool true := ahead_get hah 15 .guard (by simp) rfl rfl rfl
                refine puts_run hi (.inr ⟨15, true, _, 56, rfl, rfl, rfl, g15⟩) (v := .bool true) (w' := wr) ?_ (Keeps.refl _) rfl
                clear hs hah hi
                generalize f.eval = ρ at *
                go_simp
              · intro f wr hk hs hah hi
                have g18 : f.eval (.tmp 59) = .bool true := ahead_get hah 18 .guard (by simp) rfl rfl rfl
                exact puts_skip hi rfl rfl rfl g18 (by decide) (Keeps.refl _) trivial
              · intro f wr hk hs hah hi
                have r18 := ahead_get hah 18 .data (by simp) rfl rfl rfl
                have e59 : f.eval (.tmp 59) = .bool true := r18
                have g15 : f.eval (.tmp 56) = .bool true := ahead_get hah 15 .guard (by simp) rfl rfl rfl
                have qc : ∀ v, f.eval (.const v) = v := fun _ => rfl
                refine puts_run hi (.inr ⟨15, true, _, 56, rfl, rfl, rfl, g15⟩) (v := .bool true) (w' := wr) ?_ (Keeps.refl _) rfl
                clear hs hah hi
                generalize f.eval = ρ at *
                go_simp
              · intro f wr hk hs hah hi
                have r15 := ahead_get hah 15 .data (by simp) rfl rfl rfl
                have e56 : f.eval (.tmp 56) = .bool true := r15
                have r20 := ahead_get hah 20 .data (by simp) rfl rfl rfl
                have e61 : f.eval (.tmp 61) = .bool true := r20
                have qc : ∀ v, f.eval (.const v) = v := fun _ => rfl
                refine puts_run hi (.inl rfl) (v := .bool true) (w' := wr) ?_ (Keeps.refl _) rfl
                clear hs hah hi
                generalize f.eval = ρ at *
                go_simp
              · intro f wr hk hs hah hi
                have r21 := ahead_get hah 21 .data (by simp) rfl rfl rfl
                have e62 : f.eval (.tmp 62) = .bool true := r21
                refine puts_run hi (.inl rfl) (v := .bool true) (w' := wr) ?_ (Keeps.refl _) rfl
                clear hs hah hi
                generalize f.eval = ρ at *
                go_simp
            · intro f ws hk hR
              have e4 : f 4 = .bool true := hR 22 _ _ rfl rfl
              clear hR
              simp [putAll, Act.put, e4]
              go_wp2_with fail
              go_ret
              subst hg1
              exact ⟨rfl, ((B4.alloc B4.size _).drew).trans (hk.mono (by have := B4.size; simp; omega))⟩
          | cons y r0 =>
            have hy := y.toNat_lt
            simp only [List.length_cons] at hlen
            obtain ⟨ab, ao, rfl, hab, hcell⟩ := r4.2.2.2 (by omega)
            have hc0 := hcell 0 (by omega)
            simp only [Nat.add_zero, List.getD_cons_zero] at hc0
            have hc1 := fun o => (cell_below_alloc w4 o ab ao hab).trans hc0
            have hpos0 : (0 : Int) < (N : Int) := by omega
            clear hlen hcell hc0 r4
            cases k1 : decide ((1 : Int) ≤ (y.toNat : Int)) with
            | true =>
              go_wp2_with fail
              refine wp_region_facts3 (by kernel_rfl) (by kernel_rfl) (by kernel_rfl) Keeps (firstR00 k g1 0 0 0 c1 A1) (Keeps.refl _) (fun _ _ _ => Keeps.trans) (firstR00_keeps k g1 0 0 0 c1 A1) ?_ ?_
              · refine ⟨?_, ?_, ?_, ?_, ?_, ?_, ?_, ?_, ?_, ?_, ?_, ?_, ?_, ?_, ?_, ?_, ?_, ?_, ?_, ?_, ?_, ?_, ?_, trivial⟩
                · intro f wr hk hs hah hi
                  have e5 : f.eval (.tmp 5) = .bool true := hs 5 (by simp [Still])
                  refine puts_run hi (.inl rfl) (v := .bool true) (w' := wr) ?_ (Keeps.refl _) rfl
                  clear hs hah hi
                  generalize f.eval = ρ at *
                  go_simp
                · intro f wr hk hs hah hi
                  have r0 := ahead_get hah 0 .data (by simp) rfl rfl rfl
                  have e41 : f.eval (.tmp 41) = .bool true := r0
                  refine puts_run hi (.inl rfl) (v := .bool true) (w' := wr) ?_ (Keeps.refl _) rfl
                  clear hs hah hi
                  generalize f.eval = ρ at *
                  go_simp
                · intro f wr hk hs hah hi
                  have e6 : f.eval (.tmp 6) = .slice A1 0 c1 := hs 6 (by simp [Still])
                  have g1 : f.eval (.tmp 42) = .bool true := ahead_get hah 1 .guard (by simp) rfl rfl rfl
                  refine puts_run hi (.inr ⟨1, true, _, 42, rfl, rfl, rfl, g1⟩) (v := .slice A1 0 c1) (w' := wr) ?_ (Keeps.refl _) rfl
                  clear hs hah hi
                  generalize f.eval = ρ at *
                  go_simp
                · intro f wr hk hs hah hi
                  have r2 := ahead_get hah 2 .data (by simp) rfl rfl rfl
                  have e43 : f.eval (.tmp 43) = .slice A1 0 c1 := r2
                  have g1 : f.eval (.tmp 42) = .bool true := ahead_get hah 1 .guard (by simp) rfl rfl rfl
                  refine puts_run hi (.inr ⟨1, true, _, 42, rfl, rfl, rfl, g1⟩) (v := .int .i64 0) (w' := wr) ?_ (Keeps.refl _) rfl
                  clear hs hah hi
                  generalize f.eval = ρ at *
                  go_simp
                · intro f wr hk hs hah hi
                  have r3 := ahead_get hah 3 .data (by simp) rfl rfl rfl
                  have e44 : f.eval (.tmp 44) = .int .i64 0 := r3
                  have g1 : f.eval (.tmp 42) = .bool true := ahead_get hah 1 .guard (by simp) rfl rfl rfl
                  have qc : ∀ v, f.eval (.const v) = v := fun _ => rfl
                  refine puts_run hi (.inr ⟨1, true, _, 42, rfl, rfl, rfl, g1⟩) (v := .bool true) (w' := wr) ?_ (Keeps.refl _) rfl
                  clear hs hah hi
                  generalize f.eval = ρ at *
                  go_simp
                · intro f wr hk hs hah hi
                  have r4 := ahead_get hah 4 .data (by simp) rfl rfl rfl
                  have e45 : f.eval (.tmp 45) = .bool true := r4
                  have g1 : f.eval (.tmp 42) = .bool true := ahead_get hah 1 .guard (by simp) rfl rfl rfl
                  refine puts_run hi (.inr ⟨1, true, _, 42, rfl, rfl, rfl, g1⟩) (v := .bool true) (w' := wr) ?_ (Keeps.refl _) rfl
                  clear hs hah hi
                  generalize f.eval = ρ at *
                  go_simp
                · intro f wr hk hs hah hi
                  have g5 : f.eval (.tmp 46) = .bool true := ahead_get hah 5 .guard (by simp) rfl rfl rfl
                  exact puts_skip hi rfl rfl rfl g5 (by decide) (Keeps.refl _) trivial
                · intro f wr hk hs hah hi
                  have g5 : f.eval (.tmp 46) = .bool true := ahead_get hah 5 .guard (by simp) rfl rfl rfl
                  exact puts_skip hi rfl rfl rfl g5 (by decide) (Keeps.refl _) trivial
                · intro f wr hk hs hah hi
                  have g5 : f.eval (.tmp 46) = .bool true := ahead_get hah 5 .guard (by simp) rfl rfl rfl
                  exact puts_skip hi rfl rfl rfl g5 (by decide) (Keeps.refl _) trivial
                · intro f wr hk hs hah hi
                  have g5 : f.eval (.tmp 46) = .bool true := ahead_get hah 5 .guard (by simp) rfl rfl rfl
                  exact puts_skip hi rfl rfl rfl g5 (by decide) (Keeps.refl _) trivial
                · intro f wr hk hs hah hi
                  have g5 : f.eval (.tmp 46) = .bool true := ahead_get hah 5 .guard (by simp) rfl rfl rfl
                  exact puts_skip hi rfl rfl rfl g5 (by decide) (Keeps.refl _) trivial
                · intro f wr hk hs hah hi
                  have g5 : f.eval (.tmp 46) = .bool true := ahead_get hah 5 .guard (by simp) rfl rfl rfl
                  exact puts_skip hi rfl rfl rfl g5 (by decide) (Keeps.refl _) trivial
                · intro f wr hk hs hah hi
                  have g5 : f.eval (.tmp 46) = .bool true := ahead_get hah 5 .guard (by simp) rfl rfl rfl
                  exact puts_skip hi rfl rfl rfl g5 (by decide) (Keeps.refl _) trivial
                · intro f wr hk hs hah hi
                  have r5 := ahead_get hah 5 .data (by simp) rfl rfl rfl
                  have e46 : f.eval (.tmp 46) = .bool true := r5
                  have g1 : f.eval (.tmp 42) = .bool true := ahead_get hah 1 .guard (by simp) rfl rfl rfl
                  have qc : ∀ v, f.eval (.const v) = v := fun _ => rfl
                  refine puts_run hi (.inr ⟨1, true, _, 42, rfl, rfl, rfl, g1⟩) (v := .bool true) (w' := wr) ?_ (Keeps.refl _) rfl
                  clear hs hah hi
                  generalize f.eval = ρ at *
                  go_simp
                · intro f wr hk hs hah hi
                  have r1 := ahead_get hah 1 .data (by simp) rfl rfl rfl
                  have e42 : f.eval (.tmp 42) = .bool true := r1
                  have r13 := ahead_get hah 13 .data (by simp) rfl rfl rfl
                  have e54 : f.eval (.tmp 54) = .bool true := r13
                  have qc : ∀ v, f.eval (.const v) = v := fun _ => rfl
                  refine puts_run hi (.inl rfl) (v := .bool true) (w' := wr) ?_ (Keeps.refl _) rfl
                  clear hs hah hi
                  generalize f.eval = ρ at *
                  go_simp
                · intro f wr hk hs hah hi
                  have r14 := ahead_get hah 14 .data (by simp) rfl rfl rfl
                  have e55 : f.eval (.tmp 55) = .bool true := r14
                  refine puts_run hi (.inl rfl) (v := .bool true) (w' := wr) ?_ (Keeps.refl _) rfl
                  clear hs hah hi
                  generalize f.eval = ρ at *
                  go_simp
                · intro f wr hk hs hah hi
                  have e8 : f.eval (.tmp 8) = .bool false := hs 8 (by simp [Still])
                  have g15 : f.eval (.tmp 56) = .bool true := ahead_get hah 15 .guard (by simp) rfl rfl rfl
                  refine puts_run hi (.inr ⟨15, true, _, 56, rfl, rfl, rfl, g15⟩) (v := .bool false) (w' := wr) ?_ (Keeps.refl _) rfl
                  clear hs hah hi
                  generalize f.eval = ρ at *
                  go_simp
                · intro f wr hk hs hah hi
                  have r16 := ahead_get hah 16 .data (by simp) rfl rfl rfl
                  have e57 : f.eval (.tmp 57) = .bool false := r16
                  have g15 : f.eval (.tmp 56) = .bool true := ahead_get hah 15 .guard (by simp) rfl rfl rfl
                  refine puts_run hi (.inr ⟨15, true, _, 56, rfl, rfl, rfl, g15⟩) (v := .bool true) (w' := wr) ?_ (Keeps.refl _) rfl
                  clear hs hah hi
                  generalize f.eval = ρ at *
                  go_simp
                · intro f wr hk hs hah hi
                  have r17 := ahead_get hah 17 .data (by simp) rfl rfl rfl
                  have e58 : f.eval (.tmp 58) = .bool true := r17
                  have g15 : f.eval (.tmp 56) = .bool true := ahead_get hah 15 .guard (by simp) rfl rfl rfl
                  refine puts_run hi (.inr ⟨15, true, _, 56, rfl, rfl, rfl, g15⟩) (v := .bool true) (w' := wr) ?_ (Keeps.refl _) rfl
                  clear hs hah hi
                  generalize f.eval = ρ at *
                  go_simp
                · intro f wr hk hs hah hi
                  have g18 : f.eval (.tmp 59) = .bool true := ahead_get hah 18 .guard (by simp) rfl rfl rfl
                  exact puts_skip hi rfl rfl rfl g18 (by decide) (Keeps.refl _) trivial
                · intro f wr hk hs hah hi
                  have r18 := ahead_get hah 18 .data (by simp) rfl rfl rfl
                  have e59 : f.eval (.tmp 59) = .bool true := r18
                  have g15 : f.eval (.tmp 56) = .bool true := ahead_get hah 15 .guard (by simp) rfl rfl rfl
                  have qc : ∀ v, f.eval (.const v) = v := fun _ => rfl
                  refine puts_run hi (.inr ⟨15, true, _, 56, rfl, rfl, rfl, g15⟩) (v := .bool true) (w' := wr) ?_ (Keeps.refl _) rfl
                  clear hs hah hi
                  generalize f.eval = ρ at *
                  go_simp
                · intro f wr hk hs hah hi
                  have r15 := ahead_get hah 15 .data (by simp) rfl rfl rfl
                  have e56 : f.eval (.tmp 56) = .bool true := r15
                  have r20 := ahead_get hah 20 .data (by simp) rfl rfl rfl
                  have e61 : f.eval (.tmp 61) = .bool true := r20
                  have qc : ∀ v, f.eval (.const v) = v := fun _ => rfl
                  refine puts_run hi (.inl rfl) (v := .bool true) (w' := wr) ?_ (Keeps.refl _) rfl
                  clear hs hah hi
                  generalize f.eval = ρ at *
                  go_simp
                · intro f wr hk hs hah hi
                  have r21 := ahead_get hah 21 .data (by simp) rfl rfl rfl
                  have e62 : f.eval (.tmp 62) = .bool true := r21
                  refine puts_run hi (.inl rfl) (v := .bool true) (w' := wr) ?_ (Keeps.refl _) rfl
                  clear hs hah hi
                  generalize f.eval = ρ at *
                  go_simp
              · intro f ws hk hR
                have e4 : f 4 = .bool true := hR 22 _ _ rfl rfl
                clear hR
                simp [putAll, Act.put, e4]
                go_wp2_with fail
                go_ret
                subst hg1
                exact ⟨rfl, ((B4.alloc B4.size _).drew).trans (hk.mono (by have := B4.size; simp; omega))⟩
            | false =>
              go_wp2_with fail
              refine wp_region_facts3 (by kernel_rfl) (by kernel_rfl) (by kernel_rfl) Keeps (firstR00 k g1 0 0 0 c1 A1) (Keeps.refl _) (fun _ _ _ => Keeps.trans) (firstR00_keeps k g1 0 0 0 c1 A1) ?_ ?_
              · refine ⟨?_, ?_, ?_, ?_, ?_, ?_, ?_, ?_, ?_, ?_, ?_, ?_, ?_, ?_, ?_, ?_, ?_, ?_, ?_, ?_, ?_, ?_, ?_, trivial⟩
                · intro f wr hk hs hah hi
                  have e5 : f.eval (.tmp 5) = .bool true := hs 5 (by simp [Still])
                  refine puts_run hi (.inl rfl) (v := .bool true) (w' := wr) ?_ (Keeps.refl _) rfl
                  clear hs hah hi
                  generalize f.eval = ρ at *
                  go_simp
                · intro f wr hk hs hah hi
                  have r0 := ahead_get hah 0 .data (by simp) rfl rfl rfl
                  have e41 : f.eval (.tmp 41) = .bool true := r0
                  refine puts_run hi (.inl rfl) (v := .bool true) (w' := wr) ?_ (Keeps.refl _) rfl
                  clear hs hah hi
                  generalize f.eval = ρ at *
                  go_simp
                · intro f wr hk hs hah hi
                  have e6 : f.eval (.tmp 6) = .slice A1 0 c1 := hs 6 (by simp [Still])
                  have g1 : f.eval (.tmp 42) = .bool true := ahead_get hah 1 .guard (by simp) rfl rfl rfl
                  refine puts_run hi (.inr ⟨1, true, _, 42, rfl, rfl, rfl, g1⟩) (v := .slice A1 0 c1) (w' := wr) ?_ (Keeps.refl _) rfl
                  clear hs hah hi
                  generalize f.eval = ρ at *
                  go_simp
                · intro f wr hk hs hah hi
                  have r2 := ahead_get hah 2 .data (by simp) rfl rfl rfl
                  have e43 : f.eval (.tmp 43) = .slice A1 0 c1 := r2
                  have g1 : f.eval (.tmp 42) = .bool true := ahead_get hah 1 .guard (by simp) rfl rfl rfl
                  refine puts_run hi (.inr ⟨1, true, _, 42, rfl, rfl, rfl, g1⟩) (v := .int .i64 0) (w' := wr) ?_ (Keeps.refl _) rfl
                  clear hs hah hi
                  generalize f.eval = ρ at *
                  go_simp
                · intro f wr hk hs hah hi
                  have r3 := ahead_get hah 3 .data (by simp) rfl rfl rfl
                  have e44 : f.eval (.tmp 44) = .int .i64 0 := r3
                  have g1 : f.eval (.tmp 42) = .bool true := ahead_get hah 1 .guard (by simp) rfl rfl rfl
                  have qc : ∀ v, f.eval (.const v) = v := fun _ => rfl
                  refine puts_run hi (.inr ⟨1, true, _, 42, rfl, rfl, rfl, g1⟩) (v := .bool true) (w' := wr) ?_ (Keeps.refl _) rfl
                  clear hs hah hi
                  generalize f.eval = ρ at *
                  go_simp
                · intro f wr hk hs hah hi
                  have r4 := ahead_get hah 4 .data (by simp) rfl rfl rfl
                  have e45 : f.eval (.tmp 45) = .bool true := r4
                  have g1 : f.eval (.tmp 42) = .bool true := ahead_get hah 1 .guard (by simp) rfl rfl rfl
                  refine puts_run hi (.inr ⟨1, true, _, 42, rfl, rfl, rfl, g1⟩) (v := .bool true) (w' := wr) ?_ (Keeps.refl _) rfl
                  clear hs hah hi
                  generalize f.eval = ρ at *
                  go_simp
                · intro f wr hk hs hah hi
                  have g5 : f.eval (.tmp 46) = .bool true := ahead_get hah 5 .guard (by simp) rfl rfl rfl
                  exact puts_skip hi rfl rfl rfl g5 (by decide) (Keeps.refl _) trivial
                · intro f wr hk hs hah hi
                  have g5 : f.eval (.tmp 46) = .bool true := ahead_get hah 5 .guard (by simp) rfl rfl rfl
                  exact puts_skip hi rfl rfl rfl g5 (by decide) (Keeps.refl _) trivial
                · intro f wr hk hs hah hi
                  have g5 : f.eval (.tmp 46) = .bool true := ahead_get hah 5 .guard (by simp) rfl rfl rfl
                  exact puts_skip hi rfl rfl rfl g5 (by decide) (Keeps.refl _) trivial
                · intro f wr hk hs hah hi
                  have g5 : f.eval (.tmp 46) = .bool true := ahead_get hah 5 .guard (by simp) rfl rfl rfl
                  exact puts_skip hi rfl rfl rfl g5 (by decide) (Keeps.refl _) trivial
                · intro f wr hk hs hah hi
                  have g5 : f.eval (.tmp 46) = .bool true := ahead_get hah 5 .guard (by simp) rfl rfl rfl
                  exact puts_skip hi rfl rfl rfl g5 (by decide) (Keeps.refl _) trivial
                · intro f wr hk hs hah hi
                  have g5 : f.eval (.tmp 46) = .bool true := ahead_get hah 5 .guard (by simp) rfl rfl rfl
                  exact puts_skip hi rfl rfl rfl g5 (by decide) (Keeps.refl _) trivial
                · intro f wr hk hs hah hi
                  have g5 : f.eval (.tmp 46) = .bool true := ahead_get hah 5 .guard (by simp) rfl rfl rfl
                  exact puts_skip hi rfl rfl rfl g5 (by decide) (Keeps.refl _) trivial
                · intro f wr hk hs hah hi
                  have r5 := ahead_get hah 5 .data (by simp) rfl rfl rfl
                  have e46 : f.eval (.tmp 46) = .bool true := r5
                  have g1 : f.eval (.tmp 42) = .bool true := ahead_get hah 1 .guard (by simp) rfl rfl rfl
                  have qc : ∀ v, f.eval (.const v) = v := fun _ => rfl
                  refine puts_run hi (.inr ⟨1, true, _, 42, rfl, rfl, rfl, g1⟩) (v := .bool true) (w' := wr) ?_ (Keeps.refl _) rfl
                  clear hs hah hi
                  generalize f.eval = ρ at *
                  go_simp
                · intro f wr hk hs hah hi
                  have r1 := ahead_get hah 1 .data (by simp) rfl rfl rfl
                  have e42 : f.eval (.tmp 42) = .bool true := r1
                  have r13 := ahead_get hah 13 .data (by simp) rfl rfl rfl
                  have e54 : f.eval (.tmp 54) = .bool true := r13
                  have qc : ∀ v, f.eval (.const v) = v := fun _ => rfl
                  refine puts_run hi (.inl rfl) (v := .bool true) (w' := wr) ?_ (Keeps.refl _) rfl
                  clear hs hah hi
                  generalize f.eval = ρ at *
                  go_simp
                · intro f wr hk hs hah hi
                  have r14 := ahead_get hah 14 .data (by simp) rfl rfl rfl
                  have e55 : f.eval (.tmp 55) = .bool true := r14
                  refine puts_run hi (.inl rfl) (v := .bool true) (w' := wr) ?_ (Keeps.refl _) rfl
                  clear hs hah hi
                  generalize f.eval = ρ at *
                  go_simp
                · intro f wr hk hs hah hi
                  have e8 : f.eval (.tmp 8) = .bool false := hs 8 (by simp [Still])
                  have g15 : f.eval (.tmp 56) = .bool true := ahead_get hah 15 .guard (by simp) rfl rfl rfl
                  refine puts_run hi (.inr ⟨15, true, _, 56, rfl, rfl, rfl, g15⟩) (v := .bool false) (w' := wr) ?_ (Keeps.refl _) rfl
                  clear hs hah hi
                  generalize f.eval = ρ at *
                  go_simp
                · intro f wr hk hs hah hi
                  have r16 := ahead_get hah 16 .data (by simp) rfl rfl rfl
                  have e57 : f.eval (.tmp 57) = .bool false := r16
                  have g15 : f.eval (.tmp 56) = .bool true := ahead_get hah 15 .guard (by simp) rfl rfl rfl
                  refine puts_run hi (.inr ⟨15, true, _, 56, rfl, rfl, rfl, g15⟩) (v := .bool true) (w' := wr) ?_ (Keeps.refl _) rfl
                  clear hs hah hi
                  generalize f.eval = ρ at *
                  go_simp
                · intro f wr hk hs hah hi
                  have r17 := ahead_get hah 17 .data (by simp) rfl rfl rfl
                  have e58 : f.eval (.tmp 58) = .bool true := r17
                  have g15 : f.eval (.tmp 56) = .bool true := ahead_get hah 15 .guard (by simp) rfl rfl rfl
                  refine puts_run hi (.inr ⟨15, true, _, 56, rfl, rfl, rfl, g15⟩) (v := .bool true) (w' := wr) ?_ (Keeps.refl _) rfl
                  clear hs hah hi
                  generalize f.eval = ρ at *
                  go_simp
                · intro f wr hk hs hah hi
                  have g18 : f.eval (.tmp 59) = .bool true := ahead_get hah 18 .guard (by simp) rfl rfl rfl
                  exact puts_skip hi rfl rfl rfl g18 (by decide) (Keeps.refl _) trivial
                · intro f wr hk hs hah hi
                  have r18 := ahead_get hah 18 .data (by simp) rfl rfl rfl
                  have e59 : f.eval (.tmp 59) = .bool true := r18
                  have g15 : f.eval (.tmp 56) = .bool true := ahead_get hah 15 .guard (by simp) rfl rfl rfl
                  have qc : ∀ v, f.eval (.const v) = v := fun _ => rfl
                  refine puts_run hi (.inr ⟨15, true, _, 56, rfl, rfl, rfl, g15⟩) (v := .bool true) (w' := wr) ?_ (Keeps.refl _) rfl
                  clear hs hah hi
                  generalize f.eval = ρ at *
                  go_simp
                · intro f wr hk hs hah hi
                  have r15 := ahead_get hah 15 .data (by simp) rfl rfl rfl
                  have e56 : f.eval (.tmp 56) = .bool true := r15
                  have r20 := ahead_get hah 20 .data (by simp) rfl rfl rfl
                  have e61 : f.eval (.tmp 61) = .bool true := r20
                  have qc : ∀ v, f.eval (.const v) = v := fun _ => rfl
                  refine puts_run hi (.inl rfl) (v := .bool true) (w' := wr) ?_ (Keeps.refl _) rfl
                  clear hs hah hi
                  generalize f.eval = ρ at *
                  go_simp
                · intro f wr hk hs hah hi
                  have r21 := ahead_get hah 21 .data (by simp) rfl rfl rfl
                  have e62 : f.eval (.tmp 62) = .bool true := r21
                  refine puts_run hi (.inl rfl) (v := .bool true) (w' := wr) ?_ (Keeps.refl _) rfl
                  clear hs hah hi
                  generalize f.eval = ρ at *
                  go_simp
              · intro f ws hk hR
                have e4 : f 4 = .bool true := hR 22 _ _ rfl rfl
                clear hR
                simp [putAll, Act.put, e4]
                go_wp2_with fail
                go_ret
                subst hg1
                exact ⟨rfl, ((B4.alloc B4.size _).drew).trans (hk.mono (by have := B4.size; simp; omega))⟩
      | true =>
        obtain ⟨r1, y1, _, y2⟩ := wput_cons hr
        have y3 := right_kind hr
        rw [y1] at q4 ⊢
        generalize hL : (UInt8.ofNat k.toNat :: r1).length = L1n at q4 ⊢
        have hLp : 0 < L1n := by rw [← hL]; simp
        obtain ⟨pb, po, rfl, hpb, hpc⟩ := q4.2.2.2 hLp
        have hp0 := hpc 0 hLp
        simp only [Nat.add_zero, List.getD_cons_zero, y2] at hp0
        have hP : ∀ o (wr : World), Keeps (w4.alloc o).drew wr → wr.cell? ⟨pb, po, none⟩ = some (.int .u8 k) := fun o wr hk => (hk.cell (p := ⟨pb, po, none⟩) (by simp; omega)).trans ((show (w4.alloc o).drew.cell? ⟨pb, po, none⟩ = _ from cell_below_alloc w4 o pb po hpb).trans hp0)
        have hne : ((L1n : Int) == 0) = false := by simp; omega
        have hpos : (0 : Int) < (L1n : Int) := by omega
        have hL0 : L1n ≠ 0 := by omega
        have hwk := Lib.hid (show IntKind.i64.wrap k = k by simp [IntKind.wrap, IntKind.signed, IntKind.bits]; omega)
        have hk1 := y3.1
        have hk14 := y3.2
        clear q4 hpc hp0 y1 y2 y3 hr hL hLp
        have hH1 : ∀ o (wr : World), Keeps (w4.alloc o).drew wr → Holds wr g1 _ := fun o wr hk => (show Holds (w4.alloc o).drew g1 _ from G1.alloc o).below hk
        cases hq : wgetL l with
        | some x =>
          obtain ⟨x1, x2⟩ := put_wget hq
          obtain ⟨r0, x3, _, x4⟩ := wput_cons x1
          have x5 : 1 ≤ x.k ∧ x.k ≤ 14 := right_kind x1
          rw [x2] at x3
          have hlen := r4.len
          rw [x3] at hlen
          simp only [List.length_cons] at hlen
          obtain ⟨ab, ao, rfl, hab, hcell⟩ := r4.2.2.2 (by omega)
          have hc0 := hcell 0 (by omega)
          rw [x3] at hc0
          simp only [Nat.add_zero, List.getD_cons_zero, x4] at hc0
          have hc1 := fun o => (cell_below_alloc w4 o ab ao hab).trans hc0
          have hpos0 : (0 : Int) < (N : Int) := by omega
          have x51 := x5.1
          have x52 := x5.2
          simp only [wgetV, msgOf, msgV]
          clear x1 x2 x3 x4 x5 hlen hcell hc0 r4 hq
          go_wp2_with fail
          refine wp_region_facts3 (by kernel_rfl) (by kernel_rfl) (by kernel_rfl) Keeps (firstR11 k g1 pb po L1n c1 none) (Keeps.refl _) (fun _ _ _ => Keeps.trans) (firstR11_keeps k g1 pb po L1n c1 none) ?_ ?_
          · refine ⟨?_, ?_, ?_, ?_, ?_, ?_, ?_, ?_, ?_, ?_, ?_, ?_, ?_, ?_, ?_, ?_, ?_, ?_, ?_, ?_, ?_, ?_, ?_, trivial⟩
            · intro f wr hk hs hah hi
              have e5 : f.eval (.tmp 5) = .bool true := hs 5 (by simp [Still])
              refine puts_run hi (.inl rfl) (v := .bool true) (w' := wr) ?_ (Keeps.refl _) rfl
              clear hs hah hi
              generalize f.eval = ρ at *
              go_simp
            · intro f wr hk hs hah hi
              have r0 := ahead_get hah 0 .data (by simp) rfl rfl rfl
              have e41 : f.eval (.tmp 41) = .bool true := r0
              refine puts_run hi (.inl rfl) (v := .bool true) (w' := wr) ?_ (Keeps.refl _) rfl
              clear hs hah hi
              generalize f.eval = ρ at *
              go_simp
            · intro f wr hk hs hah hi
              have e6 : f.eval (.tmp 6) = .slice (some ⟨pb, po, none⟩) L1n c1 := hs 6 (by simp [Still])
              have g1 : f.eval (.tmp 42) = .bool true := ahead_get hah 1 .guard (by simp) rfl rfl rfl
              refine puts_run hi (.inr ⟨1, true, _, 42, rfl, rfl, rfl, g1⟩) (v := .slice (some ⟨pb, po, none⟩) L1n c1) (w' := wr) ?_ (Keeps.refl _) rfl
              clear hs hah hi
              generalize f.eval = ρ at *
              go_simp
            · intro f wr hk hs hah hi
              have r2 := ahead_get hah 2 .data (by simp) rfl rfl rfl
              have e43 : f.eval (.tmp 43) = .slice (some ⟨pb, po, none⟩) L1n c1 := r2
              have g1 : f.eval (.tmp 42) = .bool true := ahead_get hah 1 .guard (by simp) rfl rfl rfl
              refine puts_run hi (.inr ⟨1, true, _, 42, rfl, rfl, rfl, g1⟩) (v := .int .i64 (L1n : Nat)) (w' := wr) ?_ (Keeps.refl _) rfl
              clear hs hah hi
              generalize f.eval = ρ at *
              go_simp
            · intro f wr hk hs hah hi
              have r3 := ahead_get hah 3 .data (by simp) rfl rfl rfl
              have e44 : f.eval (.tmp 44) = .int .i64 (L1n : Nat) := r3
              have g1 : f.eval (.tmp 42) = .bool true := ahead_get hah 1 .guard (by simp) rfl rfl rfl
              have qc : ∀ v, f.eval (.const v) = v := fun _ => rfl
              refine puts_run hi (.inr ⟨1, true, _, 42, rfl, rfl, rfl, g1⟩) (v := .bool false) (w' := wr) ?_ (Keeps.refl _) rfl
              clear hs hah hi
              generalize f.eval = ρ at *
              go_simp
            · intro f wr hk hs hah hi
              have r4 := ahead_get hah 4 .data (by simp) rfl rfl rfl
              have e45 : f.eval (.tmp 45) = .bool false := r4
              have g1 : f.eval (.tmp 42) = .bool true := ahead_get hah 1 .guard (by simp) rfl rfl rfl
              refine puts_run hi (.inr ⟨1, true, _, 42, rfl, rfl, rfl, g1⟩) (v := .bool false) (w' := wr) ?_ (Keeps.refl _) rfl
              clear hs hah hi
              generalize f.eval = ρ at *
              go_simp
            · intro f wr hk hs hah hi
              have e6 : f.eval (.tmp 6) = .slice (some ⟨pb, po, none⟩) L1n c1 := hs 6 (by simp [Still])
              have g5 : f.eval (.tmp 46) = .bool false := ahead_get hah 5 .guard (by simp) rfl rfl rfl
              refine puts_run hi (.inr ⟨5, false, _, 46, rfl, rfl, rfl, g5⟩) (v := .slice (some ⟨pb, po, none⟩) L1n c1) (w' := wr) ?_ (Keeps.refl _) rfl
              clear hs hah hi
              generalize f.eval = ρ at *
              go_simp
            · intro f wr hk hs hah hi
              have r6 := ahead_get hah 6 .data (by simp) rfl rfl rfl
              have e47 : f.eval (.tmp 47) = .slice (some ⟨pb, po, none⟩) L1n c1 := r6
              have g5 : f.eval (.tmp 46) = .bool false := ahead_get hah 5 .guard (by simp) rfl rfl rfl
              have qc : ∀ v, f.eval (.const v) = v := fun _ => rfl
              refine puts_run hi (.inr ⟨5, false, _, 46, rfl, rfl, rfl, g5⟩) (v := .pointer (some ⟨pb, po, none⟩)) (w' := wr) ?_ (Keeps.refl _) rfl
              clear hs hah hi
              generalize f.eval = ρ at *
              go_simp
              all_goals exact fun h0 => absurd h0 hL0
            · intro f wr hk hs hah hi
              have r7 := ahead_get hah 7 .data (by simp) rfl rfl rfl
              have e48 : f.eval (.tmp 48) = .pointer (some ⟨pb, po, none⟩) := r7
              have g5 : f.eval (.tmp 46) = .bool false := ahead_get hah 5 .guard (by simp) rfl rfl rfl
              have c1 := hP _ wr hk
              refine puts_run hi (.inr ⟨5, false, _, 46, rfl, rfl, rfl, g5⟩) (v := .int .u8 k) (w' := wr) ?_ (Keeps.refl _) rfl
              clear hs hah hi
              generalize f.eval = ρ at *
              go_simp
            · intro f wr hk hs hah hi
              have r8 := ahead_get hah 8 .data (by simp) rfl rfl rfl
              have e49 : f.eval (.tmp 49) = .int .u8 k := r8
              have g5 : f.eval (.tmp 46) = .bool false := ahead_get hah 5 .guard (by simp) rfl rfl rfl
              refine puts_run hi (.inr ⟨5, false, _, 46, rfl, rfl, rfl, g5⟩) (v := .int .i64 k) (w' := wr) ?_ (Keeps.refl _) rfl
              clear hs hah hi
              generalize f.eval = ρ at *
              go_simp
              all_goals exact hwk.out
            · intro f wr hk hs hah hi
              have e2 : f.eval (.tmp 2) = .pointer (some ⟨g1, 0, none⟩) := hs 2 (by simp [Still])
              have g5 : f.eval (.tmp 46) = .bool false := ahead_get hah 5 .guard (by simp) rfl rfl rfl
              refine puts_run hi (.inr ⟨5, false, _, 46, rfl, rfl, rfl, g5⟩) (v := .pointer (some ⟨g1, 0, none⟩)) (w' := wr) ?_ (Keeps.refl _) rfl
              clear hs hah hi
              generalize f.eval = ρ at *
              go_simp
            · intro f wr hk hs hah hi
              have r10 := ahead_get hah 10 .data (by simp) rfl rfl rfl
              have e51 : f.eval (.tmp 51) = .pointer (some ⟨g1, 0, none⟩) := r10
              have g5 : f.eval (.tmp 46) = .bool false := ahead_get hah 5 .guard (by simp) rfl rfl rfl
              have c1 := (hH1 _ wr hk).2 0
              simp only [List.getElem?_toArray, List.getElem?_cons_zero] at c1
              refine puts_run hi (.inr ⟨5, false, _, 46, rfl, rfl, rfl, g5⟩) (v := .int .i64 k) (w' := wr) ?_ (Keeps.refl _) rfl
              clear hs hah hi
              generalize f.eval = ρ at *
              go_simp
            · intro f wr hk hs hah hi
              have r9 := ahead_get hah 9 .data (by simp) rfl rfl rfl
              have e50 : f.eval (.tmp 50) = .int .i64 k := r9
              have r11 := ahead_get hah 11 .data (by simp) rfl rfl rfl
              have e52 : f.eval (.tmp 52) = .int .i64 k := r11
              have g5 : f.eval (.tmp 46) = .bool false := ahead_get hah 5 .guard (by simp) rfl rfl rfl
              refine puts_run hi (.inr ⟨5, false, _, 46, rfl, rfl, rfl, g5⟩) (v := .bool true) (w' := wr) ?_ (Keeps.refl _) rfl
              clear hs hah hi
              generalize f.eval = ρ at *
              go_simp
            · intro f wr hk hs hah hi
              have r5 := ahead_get hah 5 .data (by simp) rfl rfl rfl
              have e46 : f.eval (.tmp 46) = .bool false := r5
              have r12 := ahead_get hah 12 .data (by simp) rfl rfl rfl
              have e53 : f.eval (.tmp 53) = .bool true := r12
              have g1 : f.eval (.tmp 42) = .bool true := ahead_get hah 1 .guard (by simp) rfl rfl rfl
              have qc : ∀ v, f.eval (.const v) = v := fun _ => rfl
              refine puts_run hi (.inr ⟨1, true, _, 42, rfl, rfl, rfl, g1⟩) (v := .bool true) (w' := wr) ?_ (Keeps.refl _) rfl
              clear hs hah hi
              generalize f.eval = ρ at *
              go_simp
            · intro f wr hk hs hah hi
              have r1 := ahead_get hah 1 .data (by simp) rfl rfl rfl
              have e42 : f.eval (.tmp 42) = .bool true := r1
              have r13 := ahead_get hah 13 .data (by simp) rfl rfl rfl
              have e54 : f.eval (.tmp 54) = .bool true := r13
              have qc : ∀ v, f.eval (.const v) = v := fun _ => rfl
              refine puts_run hi (.inl rfl) (v := .bool true) (w' := wr) ?_ (Keeps.refl _) rfl
              clear hs hah hi
              generalize f.eval = ρ at *
              go_simp
            · intro f wr hk hs hah hi
              have r14 := ahead_get hah 14 .data (by simp) rfl rfl rfl
              have e55 : f.eval (.tmp 55) = .bool true := r14
              refine puts_run hi (.inl rfl) (v := .bool true) (w' := wr) ?_ (Keeps.refl _) rfl
              clear hs hah hi
              generalize f.eval = ρ at *
              go_simp
            · intro f wr hk hs hah hi
              have e8 : f.eval (.tmp 8) = .bool true := hs 8 (by simp [Still])
              have g15 : f.eval (.tmp 56) = .bool true := ahead_get hah 15 .guard (by simp) rfl rfl rfl
              refine puts_run hi (.inr ⟨15, true, _, 56, rfl, rfl, rfl, g15⟩) (v := .bool true) (w' := wr) ?_ (Keeps.refl _) rfl
              clear hs hah hi
              generalize f.eval = ρ at *
              go_simp
            · intro f wr hk hs hah hi
              have r16 := ahead_get hah 16 .data (by simp) rfl rfl rfl
              have e57 : f.eval (.tmp 57) = .bool true := r16
              have g15 : f.eval (.tmp 56) = .bool true := ahead_get hah 15 .guard (by simp) rfl rfl rfl
              refine puts_run hi (.inr ⟨15, true, _, 56, rfl, rfl, rfl, g15⟩) (v := .bool false) (w' := wr) ?_ (Keeps.refl _) rfl
              clear hs hah hi
              generalize f.eval = ρ at *
              go_simp
            · intro f wr hk hs hah hi
              have r17 := ahead_get hah 17 .data (by simp) rfl rfl rfl
              have e58 : f.eval (.tmp 58) = .bool false := r17
              have g15 : f.eval (.tmp 56) = .bool true := ahead_get hah 15 .guard (by simp) rfl rfl rfl
              refine puts_run hi (.inr ⟨15, true, _, 56, rfl, rfl, rfl, g15⟩) (v := .bool false) (w' := wr) ?_ (Keeps.refl _) rfl
              clear hs hah hi
              generalize f.eval = ρ at *
              go_simp
            · intro f wr hk hs hah hi
              have e9 : f.eval (.tmp 9) = .bool true := hs 9 (by simp [Still])
              have g18 : f.eval (.tmp 59) = .bool false := ahead_get hah 18 .guard (by simp) rfl rfl rfl
              refine puts_run hi (.inr ⟨18, false, _, 59, rfl, rfl, rfl, g18⟩) (v := .bool true) (w' := wr) ?_ (Keeps.refl _) rfl
              clear hs hah hi
              generalize f.eval = ρ at *
              go_simp
            · intro f wr hk hs hah hi
              have r18 := ahead_get hah 18 .data (by simp) rfl rfl rfl
              have e59 : f.eval (.tmp 59) = .bool false := r18
              have r19 := ahead_get hah 19 .data (by simp) rfl rfl rfl
              have e60 : f.eval (.tmp 60) = .bool true := r19
              have g15 : f.eval (.tmp 56) = .bool true := ahead_get hah 15 .guard (by simp) rfl rfl rfl
              have qc : ∀ v, f.eval (.const v) = v := fun _ => rfl
              refine puts_run hi (.inr ⟨15, true, _, 56, rfl, rfl, rfl, g15⟩) (v := .bool true) (w' := wr) ?_ (Keeps.refl _) rfl
              clear hs hah hi
              generalize f.eval = ρ at *
              go_simp
            · intro f wr hk hs hah hi
              have r15 := ahead_get hah 15 .data (by simp) rfl rfl rfl
              have e56 : f.eval (.tmp 56) = .bool true := r15
              have r20 := ahead_get hah 20 .data (by simp) rfl rfl rfl
              have e61 : f.eval (.tmp 61) = .bool true := r20
              have qc : ∀ v, f.eval (.const v) = v := fun _ => rfl
              refine puts_run hi (.inl rfl) (v := .bool true) (w' := wr) ?_ (Keeps.refl _) rfl
              clear hs hah hi
              generalize f.eval = ρ at *
              go_simp
            · intro f wr hk hs hah hi
              have r21 := ahead_get hah 21 .data (by simp) rfl rfl rfl
              have e62 : f.eval (.tmp 62) = .bool true := r21
              refine puts_run hi (.inl rfl) (v := .bool true) (w' := wr) ?_ (Keeps.refl _) rfl
              clear hs hah hi
              generalize f.eval = ρ at *
              go_simp
          · intro f ws hk hR
            have e4 : f 4 = .bool true := hR 22 _ _ rfl rfl
            clear hR
            simp [putAll, Act.put, e4]
            go_wp2_with fail
            go_ret
            subst hg1
            exact ⟨rfl, ((B4.alloc B4.size _).drew).trans (hk.mono (by have := B4.size; simp; omega))⟩
        | none =>
          simp only [wgetV, msgOf, msgV]
          clear hq
          have hlen := r4.len
          cases l with
          | nil =>
            simp only [List.length_nil] at hlen
            subst hlen
            clear r4
            go_wp2_with fail
            refine wp_region_facts3 (by kernel_rfl) (by kernel_rfl) (by kernel_rfl) Keeps (firstR10 k g1 pb po L1n c1 none) (Keeps.refl _) (fun _ _ _ => Keeps.trans) (firstR10_keeps k g1 pb po L1n c1 none) ?_ ?_
            · refine ⟨?_, ?_, ?_, ?_, ?_, ?_, ?_, ?_, ?_, ?_, ?_, ?_, ?_, ?_, ?_, ?_, ?_, ?_, ?_, ?_, ?_, ?_, ?_, trivial⟩
              · intro f wr hk hs hah hi
                have e5 : f.eval (.tmp 5) = .bool true := hs 5 (by simp [Still])
                refine puts_run hi (.inl rfl) (v := .bool true) (w' := wr) ?_ (Keeps.refl _) rfl
                clear hs hah hi
                generalize f.eval = ρ at *
                go_simp
              · intro f wr hk hs hah hi
                have r0 := ahead_get hah 0 .data (by simp) rfl rfl rfl
                have e41 : f.eval (.tmp 41) = .bool true := r0
                refine puts_run hi (.inl rfl) (v := .bool true) (w' := wr) ?_ (Keeps.refl _) rfl
                clear hs hah hi
                generalize f.eval = ρ at *
                go_simp
              · intro f wr hk hs hah hi
                have e6 : f.eval (.tmp 6) = .slice (some ⟨pb, po, none⟩) L1n c1 := hs 6 (by simp [Still])
                have g1 : f.eval (.tmp 42) = .bool true := ahead_get hah 1 .guard (by simp) rfl rfl rfl
                refine puts_run hi (.inr ⟨1, true, _, 42, rfl, rfl, rfl, g1⟩) (v := .slice (some ⟨pb, po, none⟩) L1n c1) (w' := wr) ?_ (Keeps.refl _) rfl
                clear hs hah hi
                generalize f.eval = ρ at *
                go_simp
              · intro f wr hk hs hah hi
                have r2 := ahead_get hah 2 .data (by simp) rfl rfl rfl
                have e43 : f.eval (.tmp 43) = .slice (some ⟨pb, po, none⟩) L1n c1 := r2
                have g1 : f.eval (.tmp 42) = .bool true := ahead_get hah 1 .guard (by simp) rfl rfl rfl
                refine puts_run hi (.inr ⟨1, true, _, 42, rfl, rfl, rfl, g1⟩) (v := .int .i64 (L1n : Nat)) (w' := wr) ?_ (Keeps.refl _) rfl
                clear hs hah hi
                generalize f.eval = ρ at *
                go_simp
              · intro f wr hk hs hah hi
                have r3 := ahead_get hah 3 .data (by simp) rfl rfl rfl
                have e44 : f.eval (.tmp 44) = .int .i64 (L1n : Nat) := r3
                have g1 : f.eval (.tmp 42) = .bool true := ahead_get hah 1 .guard (by simp) rfl rfl rfl
                have qc : ∀ v, f.eval (.const v) = v := fun _ => rfl
                refine puts_run hi (.inr ⟨1, true, _, 42, rfl, rfl, rfl, g1⟩) (v := .bool false) (w' := wr) ?_ (Keeps.refl _) rfl
                clear hs hah hi
                generalize f.eval = ρ at *
                go_simp
              · intro f wr hk hs hah hi
                have r4 := ahead_get hah 4 .data (by simp) rfl rfl rfl
                have e45 : f.eval (.tmp 45) = .bool false := r4
                have g1 : f.eval (.tmp 42) = .bool true := ahead_get hah 1 .guard (by simp) rfl rfl rfl
                refine puts_run hi (.inr ⟨1, true, _, 42, rfl, rfl, rfl, g1⟩) (v := .bool false) (w' := wr) ?_ (Keeps.refl _) rfl
                clear hs hah hi
                generalize f.eval = ρ at *
                go_simp
              · intro f wr hk hs hah hi
                have e6 : f.eval (.tmp 6) = .slice (some ⟨pb, po, none⟩) L1n c1 := hs 6 (by simp [Still])
                have g5 : f.eval (.tmp 46) = .bool false := ahead_get hah 5 .guard (by simp) rfl rfl rfl
                refine puts_run hi (.inr ⟨5, false, _, 46, rfl, rfl, rfl, g5⟩) (v := .slice (some ⟨pb, po, none⟩) L1n c1) (w' := wr) ?_ (Keeps.refl _) rfl
                clear hs hah hi
                generalize f.eval = ρ at *
                go_simp
              · intro f wr hk hs hah hi
                have r6 := ahead_get hah 6 .data (by simp) rfl rfl rfl
                have e47 : f.eval (.tmp 47) = .slice (some ⟨pb, po, none⟩) L1n c1 := r6
                have g5 : f.eval (.tmp 46) = .bool false := ahead_get hah 5 .guard (by simp) rfl rfl rfl
                have qc : ∀ v, f.eval (.const v) = v := fun _ => rfl
                refine puts_run hi (.inr ⟨5, false, _, 46, rfl, rfl, rfl, g5⟩) (v := .pointer (some ⟨pb, po, none⟩)) (w' := wr) ?_ (Keeps.refl _) rfl
                clear hs hah hi
                generalize f.eval = ρ at *
                go_simp
                all_goals exact fun h0 => absurd h0 hL0
              · intro f wr hk hs hah hi
                have r7 := ahead_get hah 7 .data (by simp) rfl rfl rfl
                have e48 : f.eval (.tmp 48) = .pointer (some ⟨pb, po, none⟩) := r7
                have g5 : f.eval (.tmp 46) = .bool false := ahead_get hah 5 .guard (by simp) rfl rfl rfl
                have c1 := hP _ wr hk
                refine puts_run hi (.inr ⟨5, false, _, 46, rfl, rfl, rfl, g5⟩) (v := .int .u8 k) (w' := wr) ?_ (Keeps.refl _) rfl
                clear hs hah hi
                generalize f.eval = ρ at *
                go_simp
              · intro f wr hk hs hah hi
                have r8 := ahead_get hah 8 .data (by simp) rfl rfl rfl
                have e49 : f.eval (.tmp 49) = .int .u8 k := r8
                have g5 : f.eval (.tmp 46) = .bool false := ahead_get hah 5 .guard (by simp) rfl rfl rfl
                refine puts_run hi (.inr ⟨5, false, _, 46, rfl, rfl, rfl, g5⟩) (v := .int .i64 k) (w' := wr) ?_ (Keeps.refl _) rfl
                clear hs hah hi
                generalize f.eval = ρ at *
                go_simp
                all_goals exact hwk.out
              · intro f wr hk hs hah hi
                have e2 : f.eval (.tmp 2) = .pointer (some ⟨g1, 0, none⟩) := hs 2 (by simp [Still])
                have g5 : f.eval (.tmp 46) = .bool false := ahead_get hah 5 .guard (by simp) rfl rfl rfl
                refine puts_run hi (.inr ⟨5, false, _, 46, rfl, rfl, rfl, g5⟩) (v := .pointer (some ⟨g1, 0, none⟩)) (w' := wr) ?_ (Keeps.refl _) rfl
                clear hs hah hi
                generalize f.eval = ρ at *
                go_simp
              · intro f wr hk hs hah hi
                have r10 := ahead_get hah 10 .data (by simp) rfl rfl rfl
                have e51 : f.eval (.tmp 51) = .pointer (some ⟨g1, 0, none⟩) := r10
                have g5 : f.eval (.tmp 46) = .bool false := ahead_get hah 5 .guard (by simp) rfl rfl rfl
                have c1 := (hH1 _ wr hk).2 0
                simp only [List.getElem?_toArray, List.getElem?_cons_zero] at c1
                refine puts_run hi (.inr ⟨5, false, _, 46, rfl, rfl, rfl, g5⟩) (v := .int .i64 k) (w' := wr) ?_ (Keeps.refl _) rfl
                clear hs hah hi
                generalize f.eval = ρ at *
                go_simp
              · intro f wr hk hs hah hi
                have r9 := ahead_get hah 9 .data (by simp) rfl rfl rfl
                have e50 : f.eval (.tmp 50) = .int .i64 k := r9
                have r11 := ahead_get hah 11 .data (by simp) rfl rfl rfl
                have e52 : f.eval (.tmp 52) = .int .i64 k := r11
                have g5 : f.eval (.tmp 46) = .bool false := ahead_get hah 5 .guard (by simp) rfl rfl rfl
                refine puts_run hi (.inr ⟨5, false, _, 46, rfl, rfl, rfl, g5⟩) (v := .bool true) (w' := wr) ?_ (Keeps.refl _) rfl
                clear hs hah hi
                generalize f.eval = ρ at *
                go_simp
              · intro f wr hk hs hah hi
                have r5 := ahead_get hah 5 .data (by simp) rfl rfl rfl
                have e46 : f.eval (.tmp 46) = .bool false := r5
                have r12 := ahead_get hah 12 .data (by simp) rfl rfl rfl
                have e53 : f.eval (.tmp 53) = .bool true := r12
                have g1 : f.eval (.tmp 42) = .bool true := ahead_get hah 1 .guard (by simp) rfl rfl rfl
                have qc : ∀ v, f.eval (.const v) = v := fun _ => rfl
                refine puts_run hi (.inr ⟨1, true, _, 42, rfl, rfl, rfl, g1⟩) (v := .bool true) (w' := wr) ?_ (Keeps.refl _) rfl
                clear hs hah hi
                generalize f.eval = ρ at *
                go_simp
              · intro f wr hk hs hah hi
                have r1 := ahead_get hah 1 .data (by simp) rfl rfl rfl
                have e42 : f.eval (.tmp 42) = .bool true := r1
                have r13 := ahead_get hah 13 .data (by simp) rfl rfl rfl
                have e54 : f.eval (.tmp 54) = .bool true := r13
                have qc : ∀ v, f.eval (.const v) = v := fun _ => rfl
                refine puts_run hi (.inl rfl) (v := .bool true) (w' := wr) ?_ (Keeps.refl _) rfl
                clear hs hah hi
                generalize f.eval = ρ at *
                go_simp
              · intro f wr hk hs hah hi
                have r14 := ahead_get hah 14 .data (by simp) rfl rfl rfl
                have e55 : f.eval (.tmp 55) = .bool true := r14
                refine puts_run hi (.inl rfl) (v := .bool true) (w' := wr) ?_ (Keeps.refl _) rfl
                clear hs hah hi
                generalize f.eval = ρ at *
                go_simp
              · intro f wr hk hs hah hi
                have e8 : f.eval (.tmp 8) = .bool false := hs 8 (by simp [Still])
                have g15 : f.eval (.tmp 56) = .bool true := ahead_get hah 15 .guard (by simp) rfl rfl rfl
                refine puts_run hi (.inr ⟨15, true, _, 56, rfl, rfl, rfl, g15⟩) (v := .bool false) (w' := wr) ?_ (Keeps.refl _) rfl
                clear hs hah hi
                generalize f.eval = ρ at *
                go_simp
              · intro f wr hk hs hah hi
                have r16 := ahead_get hah 16 .data (by simp) rfl rfl rfl
                have e57 : f.eval (.tmp 57) = .bool false := r16
                have g15 : f.eval (.tmp 56) = .bool true := ahead_get hah 15 .guard (by simp) rfl rfl rfl
                refine puts_run hi (.inr ⟨15, true, _, 56, rfl, rfl, rfl, g15⟩) (v := .bool true) (w' := wr) ?_ (Keeps.refl _) rfl
                clear hs hah hi
                generalize f.eval = ρ at *
                go_simp
              · intro f wr hk hs hah hi
                have r17 := ahead_get hah 17 .data (by simp) rfl rfl rfl
                have e58 : f.eval (.tmp 58) = .bool true := r17
                have g15 : f.eval (.tmp 56) = .bool true := ahead_get hah 15 .guard (by simp) rfl rfl rfl
                refine puts_run hi (.inr ⟨15, true, _, 56, rfl, rfl, rfl, g15⟩) (v := .bool true) (w' := wr) ?_ (Keeps.refl _) rfl
                clear hs hah hi
                generalize f.eval = ρ at *
                go_simp
              · intro f wr hk hs hah hi
                have g18 : f.eval (.tmp 59) = .bool true := ahead_get hah 18 .guard (by simp) rfl rfl rfl
                exact puts_skip hi rfl rfl rfl g18 (by decide) (Keeps.refl _) trivial
              · intro f wr hk hs hah hi
                have r18 := ahead_get hah 18 .data (by simp) rfl rfl rfl
                have e59 : f.eval (.tmp 59) = .bool true := r18
                have g15 : f.eval (.tmp 56) = .bool true := ahead_get hah 15 .guard (by simp) rfl rfl rfl
                have qc : ∀ v, f.eval (.const v) = v := fun _ => rfl
                refine puts_run hi (.inr ⟨15, true, _, 56, rfl, rfl, rfl, g15⟩) (v := .bool true) (w' := wr) ?_ (Keeps.refl _) rfl
                clear hs hah hi
                generalize f.eval = ρ at *
                go_simp
              · intro f wr hk hs hah hi
                have r15 := ahead_get hah 15 .data (by simp) rfl rfl rfl
                have e56 : f.eval (.tmp 56) = .bool true := r15
                have r20 := ahead_get hah 20 .data (by simp) rfl rfl rfl
                have e61 : f.eval (.tmp 61) = .bool true := r20
                have qc : ∀ v, f.eval (.const v) = v := fun _ => rfl
                refine puts_run hi (.inl rfl) (v := .bool true) (w' := wr) ?_ (Keeps.refl _) rfl
                clear hs hah hi
                generalize f.eval = ρ at *
                go_simp
              · intro f wr hk hs hah hi
                have r21 := ahead_get hah 21 .data (by simp) rfl rfl rfl
                have e62 : f.eval (.tmp 62) = .bool true := r21
                refine puts_run hi (.inl rfl) (v := .bool true) (w' := wr) ?_ (Keeps.refl _) rfl
                clear hs hah hi
                generalize f.eval = ρ at *
                go_simp
            · intro f ws hk hR
              have e4 : f 4 = .bool true := hR 22 _ _ rfl rfl
              clear hR
              simp [putAll, Act.put, e4]
              go_wp2_with fail
              go_ret
              subst hg1
              exact ⟨rfl, ((B4.alloc B4.size _).drew).trans (hk.mono (by have := B4.size; simp; omega))⟩
          | cons y r0 =>
            have hy := y.toNat_lt
            simp only [List.length_cons] at hlen
            obtain ⟨ab, ao, rfl, hab, hcell⟩ := r4.2.2.2 (by omega)
            have hc0 := hcell 0 (by omega)
            simp only [Nat.add_zero, List.getD_cons_zero] at hc0
            have hc1 := fun o => (cell_below_alloc w4 o ab ao hab).trans hc0
            have hpos0 : (0 : Int) < (N : Int) := by omega
            clear hlen hcell hc0 r4
            cases k1 : decide ((1 : Int) ≤ (y.toNat : Int)) with
            | true =>
              go_wp2_with fail
              refine wp_region_facts3 (by kernel_rfl) (by kernel_rfl) (by kernel_rfl) Keeps (firstR10 k g1 pb po L1n c1 none) (Keeps.refl _) (fun _ _ _ => Keeps.trans) (firstR10_keeps k g1 pb po L1n c1 none) ?_ ?_
              · refine ⟨?_, ?_, ?_, ?_, ?_, ?_, ?_, ?_, ?_, ?_, ?_, ?_, ?_, ?_, ?_, ?_, ?_, ?_, ?_, ?_, ?_, ?_, ?_, trivial⟩
                · intro f wr hk hs hah hi
                  have e5 : f.eval (.tmp 5) = .bool true := hs 5 (by simp [Still])
                  refine puts_run hi (.inl rfl) (v := .bool true) (w' := wr) ?_ (Keeps.refl _) rfl
                  clear hs hah hi
                  generalize f.eval = ρ at *
                  go_simp
                · intro f wr hk hs hah hi
                  have r0 := ahead_get hah 0 .data (by simp) rfl rfl rfl
                  have e41 : f.eval (.tmp 41) = .bool true := r0
                  refine puts_run hi (.inl rfl) (v := .bool true) (w' := wr) ?_ (Keeps.refl _) rfl
                  clear hs hah hi
                  generalize f.eval = ρ at *
                  go_simp
                · intro f wr hk hs hah hi
                  have e6 : f.eval (.tmp 6) = .slice (some ⟨pb, po, none⟩) L1n c1 := hs 6 (by simp [Still])
                  have g1 : f.eval (.tmp 42) = .bool true := ahead_get hah 1 .guard (by simp) rfl rfl rfl
                  refine puts_run hi (.inr ⟨1, true, _, 42, rfl, rfl, rfl, g1⟩) (v := .slice (some ⟨pb, po, none⟩) L1n c1) (w' := wr) ?_ (Keeps.refl _) rfl
                  clear hs hah hi
                  generalize f.eval = ρ at *
                  go_simp
                · intro f wr hk hs hah hi
                  have r2 := ahead_get hah 2 .data (by simp) rfl rfl rfl
                  have e43 : f.eval (.tmp 43) = .slice (some ⟨pb, po, none⟩) L1n c1 := r2
                  have g1 : f.eval (.tmp 42) = .bool true := ahead_get hah 1 .guard (by simp) rfl rfl rfl
                  refine puts_run hi (.inr ⟨1, true, _, 42, rfl, rfl, rfl, g1⟩) (v := .int .i64 (L1n : Nat)) (w' := wr) ?_ (Keeps.refl _) rfl
                  clear hs hah hi
                  generalize f.eval = ρ at *
                  go_simp
                · intro f wr hk hs hah hi
                  have r3 := ahead_get hah 3 .data (by simp) rfl rfl rfl
                  have e44 : f.eval (.tmp 44) = .int .i64 (L1n : Nat) := r3
                  have g1 : f.eval (.tmp 42) = .bool true := ahead_get hah 1 .guard (by simp) rfl rfl rfl
                  have qc : ∀ v, f.eval (.const v) = v := fun _ => rfl
                  refine puts_run hi (.inr ⟨1, true, _, 42, rfl, rfl, rfl, g1⟩) (v := .bool false) (w' := wr) ?_ (Keeps.refl _) rfl
                  clear hs hah hi
                  generalize f.eval = ρ at *
                  go_simp
                · intro f wr hk hs hah hi
                  have r4 := ahead_get hah 4 .data (by simp) rfl rfl rfl
                  have e45 : f.eval (.tmp 45) = .bool false := r4
                  have g1 : f.eval (.tmp 42) = .bool true := ahead_get hah 1 .guard (by simp) rfl rfl rfl
                  refine puts_run hi (.inr ⟨1, true, _, 42, rfl, rfl, rfl, g1⟩) (v := .bool false) (w' := wr) ?_ (Keeps.refl _) rfl
                  clear hs hah hi
                  generalize f.eval = ρ at *
                  go_simp
                · intro f wr hk hs hah hi
                  have e6 : f.eval (.tmp 6) = .slice (some ⟨pb, po, none⟩) L1n c1 := hs 6 (by simp [Still])
                  have g5 : f.eval (.tmp 46) = .bool false := ahead_get hah 5 .guard (by simp) rfl rfl rfl
                  refine puts_run hi (.inr ⟨5, false, _, 46, rfl, rfl, rfl, g5⟩) (v := .slice (some ⟨pb, po, none⟩) L1n c1) (w' := wr) ?_ (Keeps.refl _) rfl
                  clear hs hah hi
                  generalize f.eval = ρ at *
                  go_simp
                · intro f wr hk hs hah hi
                  have r6 := ahead_get hah 6 .data (by simp) rfl rfl rfl
                  have e47 : f.eval (.tmp 47) = .slice (some ⟨pb, po, none⟩) L1n c1 := r6
                  have g5 : f.eval (.tmp 46) = .bool false := ahead_get hah 5 .guard (by simp) rfl rfl rfl
                  have qc : ∀ v, f.eval (.const v) = v := fun _ => rfl
                  refine puts_run hi (.inr ⟨5, false, _, 46, rfl, rfl, rfl, g5⟩) (v := .pointer (some ⟨pb, po, none⟩)) (w' := wr) ?_ (Keeps.refl _) rfl
                  clear hs hah hi
                  generalize f.eval = ρ at *
                  go_simp
                  all_goals exact fun h0 => absurd h0 hL0
                · intro f wr hk hs hah hi
                  have r7 := ahead_get hah 7 .data (by simp) rfl rfl rfl
                  have e48 : f.eval (.tmp 48) = .pointer (some ⟨pb, po, none⟩) := r7
                  have g5 : f.eval (.tmp 46) = .bool false := ahead_get hah 5 .guard (by simp) rfl rfl rfl
                  have c1 := hP _ wr hk
                  refine puts_run hi (.inr ⟨5, false, _, 46, rfl, rfl, rfl, g5⟩) (v := .int .u8 k) (w' := wr) ?_ (Keeps.refl _) rfl
                  clear hs hah hi
                  generalize f.eval = ρ at *
                  go_simp
                · intro f wr hk hs hah hi
                  have r8 := ahead_get hah 8 .data (by simp) rfl rfl rfl
                  have e49 : f.eval (.tmp 49) = .int .u8 k := r8
                  have g5 : f.eval (.tmp 46) = .bool false := ahead_get hah 5 .guard (by simp) rfl rfl rfl
                  refine puts_run hi (.inr ⟨5, false, _, 46, rfl, rfl, rfl, g5⟩) (v := .int .i64 k) (w' := wr) ?_ (Keeps.refl _) rfl
                  clear hs hah hi
                  generalize f.eval = ρ at *
                  go_simp
                  all_goals exact hwk.out
                · intro f wr hk hs hah hi
                  have e2 : f.eval (.tmp 2) = .pointer (some ⟨g1, 0, none⟩) := hs 2 (by simp [Still])
                  have g5 : f.eval (.tmp 46) = .bool false := ahead_get hah 5 .guard (by simp) rfl rfl rfl
                  refine puts_run hi (.inr ⟨5, false, _, 46, rfl, rfl, rfl, g5⟩) (v := .pointer (some ⟨g1, 0, none⟩)) (w' := wr) ?_ (Keeps.refl _) rfl
                  clear hs hah hi
                  generalize f.eval = ρ at *
                  go_simp
                · intro f wr hk hs hah hi
                  have r10 := ahead_get hah 10 .data (by simp) rfl rfl rfl
                  have e51 : f.eval (.tmp 51) = .pointer (some ⟨g1, 0, none⟩) := r10
                  have g5 : f.eval (.tmp 46) = .bool false := ahead_get hah 5 .guard (by simp) rfl rfl rfl
                  have c1 := (hH1 _ wr hk).2 0
                  simp only [List.getElem?_toArray, List.getElem?_cons_zero] at c1
                  refine puts_run hi (.inr ⟨5, false, _, 46, rfl, rfl, rfl, g5⟩) (v := .int .i64 k) (w' := wr) ?_ (Keeps.refl _) rfl
                  clear hs hah hi
                  generalize f.eval = ρ at *
                  go_simp
                · intro f wr hk hs hah hi
                  have r9 := ahead_get hah 9 .data (by simp) rfl rfl rfl
                  have e50 : f.eval (.tmp 50) = .int .i64 k := r9
                  have r11 := ahead_get hah 11 .data (by simp) rfl rfl rfl
                  have e52 : f.eval (.tmp 52) = .int .i64 k := r11
                  have g5 : f.eval (.tmp 46) = .bool false := ahead_get hah 5 .guard (by simp) rfl rfl rfl
                  refine puts_run hi (.inr ⟨5, false, _, 46, rfl, rfl, rfl, g5⟩) (v := .bool true) (w' := wr) ?_ (Keeps.refl _) rfl
                  clear hs hah hi
                  generalize f.eval = ρ at *
                  go_simp
                · intro f wr hk hs hah hi
                  have r5 := ahead_get hah 5 .data (by simp) rfl rfl rfl
                  have e46 : f.eval (.tmp 46) = .bool false := r5
                  have r12 := ahead_get hah 12 .data (by simp) rfl rfl rfl
                  have e53 : f.eval (.tmp 53) = .bool true := r12
                  have g1 : f.eval (.tmp 42) = .bool true := ahead_get hah 1 .guard (by simp) rfl rfl rfl
                  have qc : ∀ v, f.eval (.const v) = v := fun _ => rfl
                  refine puts_run hi (.inr ⟨1, true, _, 42, rfl, rfl, rfl, g1⟩) (v := .bool true) (w' := wr) ?_ (Keeps.refl _) rfl
                  clear hs hah hi
                  generalize f.eval = ρ at *
                  go_simp
                · intro f wr hk hs hah hi
                  have r1 := ahead_get hah 1 .data (by simp) rfl rfl rfl
                  have e42 : f.eval (.tmp 42) = .bool true := r1
                  have r13 := ahead_get hah 13 .data (by simp) rfl rfl rfl
                  have e54 : f.eval (.tmp 54) = .bool true := r13
                  have qc : ∀ v, f.eval (.const v) = v := fun _ => rfl
                  refine puts_run hi (.inl rfl) (v := .bool true) (w' := wr) ?_ (Keeps.refl _) rfl
                  clear hs hah hi
                  generalize f.eval = ρ at *
                  go_simp
                · intro f wr hk hs hah hi
                  have r14 := ahead_get hah 14 .data (by simp) rfl rfl rfl
                  have e55 : f.eval (.tmp 55) = .bool true := r14
                  refine puts_run hi (.inl rfl) (v := .bool true) (w' := wr) ?_ (Keeps.refl _) rfl
                  clear hs hah hi
                  generalize f.eval = ρ at *
                  go_simp
                · intro f wr hk hs hah hi
                  have e8 : f.eval (.tmp 8) = .bool false := hs 8 (by simp [Still])
                  have g15 : f.eval (.tmp 56) = .bool true := ahead_get hah 15 .guard (by simp) rfl rfl rfl
                  refine puts_run hi (.inr ⟨15, true, _, 56, rfl, rfl, rfl, g15⟩) (v := .bool false) (w' := wr) ?_ (Keeps.refl _) rfl
                  clear hs hah hi
                  generalize f.eval = ρ at *
                  go_simp
                · intro f wr hk hs hah hi
                  have r16 := ahead_get hah 16 .data (by simp) rfl rfl rfl
                  have e57 : f.eval (.tmp 57) = .bool false := r16
                  have g15 : f.eval (.tmp 56) = .bool true := ahead_get hah 15 .guard (by simp) rfl rfl rfl
                  refine puts_run hi (.inr ⟨15, true, _, 56, rfl, rfl, rfl, g15⟩) (v := .bool true) (w' := wr) ?_ (Keeps.refl _) rfl
                  clear hs hah hi
                  generalize f.eval = ρ at *
                  go_simp
                · intro f wr hk hs hah hi
                  have r17 := ahead_get hah 17 .data (by simp) rfl rfl rfl
                  have e58 : f.eval (.tmp 58) = .bool true := r17
                  have g15 : f.eval (.tmp 56) = .bool true := ahead_get hah 15 .guard (by simp) rfl rfl rfl
                  refine puts_run hi (.inr ⟨15, true, _, 56, rfl, rfl, rfl, g15⟩) (v := .bool true) (w' := wr) ?_ (Keeps.refl _) rfl
                  clear hs hah hi
                  generalize f.eval = ρ at *
                  go_simp
                · intro f wr hk hs hah hi
                  have g18 : f.eval (.tmp 59) = .bool true := ahead_get hah 18 .guard (by simp) rfl rfl rfl
                  exact puts_skip hi rfl rfl rfl g18 (by decide) (Keeps.refl _) trivial
                · intro f wr hk hs hah hi
                  have r18 := ahead_get hah 18 .data (by simp) rfl rfl rfl
                  have e59 : f.eval (.tmp 59) = .bool true := r18
                  have g15 : f.eval (.tmp 56) = .bool true := ahead_get hah 15 .guard (by simp) rfl rfl rfl
                  have qc : ∀ v, f.eval (.const v) = v := fun _ => rfl
                  refine puts_run hi (.inr ⟨15, true, _, 56, rfl, rfl, rfl, g15⟩) (v := .bool true) (w' := wr) ?_ (Keeps.refl _) rfl
                  clear hs hah hi
                  generalize f.eval = ρ at *
                  go_simp
                · intro f wr hk hs hah hi
                  have r15 := ahead_get hah 15 .data (by simp) rfl rfl rfl
                  have e56 : f.eval (.tmp 56) = .bool true := r15
                  have r20 := ahead_get hah 20 .data (by simp) rfl rfl rfl
                  have e61 : f.eval (.tmp 61) = .bool true := r20
                  have qc : ∀ v, f.eval (.const v) = v := fun _ => rfl
                  refine puts_run hi (.inl rfl) (v := .bool true) (w' := wr) ?_ (Keeps.refl _) rfl
                  clear hs hah hi
                  generalize f.eval = ρ at *
                  go_simp
                · intro f wr hk hs hah hi
                  have r21 := ahead_get hah 21 .data (by simp) rfl rfl rfl
                  have e62 : f.eval (.tmp 62) = .bool true := r21
                  refine puts_run hi (.inl rfl) (v := .bool true) (w' := wr) ?_ (Keeps.refl _) rfl
                  clear hs hah hi
                  generalize f.eval = ρ at *
                  go_simp
              · intro f ws hk hR
                have e4 : f 4 = .bool true := hR 22 _ _ rfl rfl
                clear hR
                simp [putAll, Act.put, e4]
                go_wp2_with fail
                go_ret
                subst hg1
                exact ⟨rfl, ((B4.alloc B4.size _).drew).trans (hk.mono (by have := B4.size; simp; omega))⟩
            | false =>
              go_wp2_with fail
              refine wp_region_facts3 (by kernel_rfl) (by kernel_rfl) (by kernel_rfl) Keeps (firstR10 k g1 pb po L1n c1 none) (Keeps.refl _) (fun _ _ _ => Keeps.trans) (firstR10_keeps k g1 pb po L1n c1 none) ?_ ?_
              · refine ⟨?_, ?_, ?_, ?_, ?_, ?_, ?_, ?_, ?_, ?_, ?_, ?_, ?_, ?_, ?_, ?_, ?_, ?_, ?_, ?_, ?_, ?_, ?_, trivial⟩
                · intro f wr hk hs hah hi
                  have e5 : f.eval (.tmp 5) = .bool true := hs 5 (by simp [Still])
                  refine puts_run hi (.inl rfl) (v := .bool true) (w' := wr) ?_ (Keeps.refl _) rfl
                  clear hs hah hi
                  generalize f.eval = ρ at *
                  go_simp
                · intro f wr hk hs hah hi
                  have r0 := ahead_get hah 0 .data (by simp) rfl rfl rfl
                  have e41 : f.eval (.tmp 41) = .bool true := r0
                  refine puts_run hi (.inl rfl) (v := .bool true) (w' := wr) ?_ (Keeps.refl _) rfl
                  clear hs hah hi
                  generalize f.eval = ρ at *
                  go_simp
                · intro f wr hk hs hah hi
                  have e6 : f.eval (.tmp 6) = .slice (some ⟨pb, po, none⟩) L1n c1 := hs 6 (by simp [Still])
                  have g1 : f.eval (.tmp 42) = .bool true := ahead_get hah 1 .guard (by simp) rfl rfl rfl
                  refine puts_run hi (.inr ⟨1, true, _, 42, rfl, rfl, rfl, g1⟩) (v := .slice (some ⟨pb, po, none⟩) L1n c1) (w' := wr) ?_ (Keeps.refl _) rfl
                  clear hs hah hi
                  generalize f.eval = ρ at *
                  go_simp
                · intro f wr hk hs hah hi
                  have r2 := ahead_get hah 2 .data (by simp) rfl rfl rfl
                  have e43 : f.eval (.tmp 43) = .slice (some ⟨pb, po, none⟩) L1n c1 := r2
                  have g1 : f.eval (.tmp 42) = .bool true := ahead_get hah 1 .guard (by simp) rfl rfl rfl
                  refine puts_run hi (.inr ⟨1, true, _, 42, rfl, rfl, rfl, g1⟩) (v := .int .i64 (L1n : Nat)) (w' := wr) ?_ (Keeps.refl _) rfl
                  clear hs hah hi
                  generalize f.eval = ρ at *
                  go_simp
                · intro f wr hk hs hah hi
                  have r3 := ahead_get hah 3 .data (by simp) rfl rfl rfl
                  have e44 : f.eval (.tmp 44) = .int .i64 (L1n : Nat) := r3
                  have g1 : f.eval (.tmp 42) = .bool true := ahead_get hah 1 .guard (by simp) rfl rfl rfl
                  have qc : ∀ v, f.eval (.const v) = v := fun _ => rfl
                  refine puts_run hi (.inr ⟨1, true, _, 42, rfl, rfl, rfl, g1⟩) (v := .bool false) (w' := wr) ?_ (Keeps.refl _) rfl
                  clear hs hah hi
                  generalize f.eval = ρ at *
                  go_simp
                · intro f wr hk hs hah hi
                  have r4 := ahead_get hah 4 .data (by simp) rfl rfl rfl
                  have e45 : f.eval (.tmp 45) = .bool false := r4
                  have g1 : f.eval (.tmp 42) = .bool true := ahead_get hah 1 .guard (by simp) rfl rfl rfl
                  refine puts_run hi (.inr ⟨1, true, _, 42, rfl, rfl, rfl, g1⟩) (v := .bool false) (w' := wr) ?_ (Keeps.refl _) rfl
                  clear hs hah hi
                  generalize f.eval = ρ at *
                  go_simp
                · intro f wr hk hs hah hi
                  have e6 : f.eval (.tmp 6) = .slice (some ⟨pb, po, none⟩) L1n c1 := hs 6 (by simp [Still])
                  have g5 : f.eval (.tmp 46) = .bool false := ahead_get hah 5 .guard (by simp) rfl rfl rfl
                  refine puts_run hi (.inr ⟨5, false, _, 46, rfl, rfl, rfl, g5⟩) (v := .slice (some ⟨pb, po, none⟩) L1n c1) (w' := wr) ?_ (Keeps.refl _) rfl
                  clear hs hah hi
                  generalize f.eval = ρ at *
                  go_simp
                · intro f wr hk hs hah hi
                  have r6 := ahead_get hah 6 .data (by simp) rfl rfl rfl
                  have e47 : f.eval (.tmp 47) = .slice (some ⟨pb, po, none⟩) L1n c1 := r6
                  have g5 : f.eval (.tmp 46) = .bool false := ahead_get hah 5 .guard (by simp) rfl rfl rfl
                  have qc : ∀ v, f.eval (.const v) = v := fun _ => rfl
                  refine puts_run hi (.inr ⟨5, false, _, 46, rfl, rfl, rfl, g5⟩) (v := .pointer (some ⟨pb, po, none⟩)) (w' := wr) ?_ (Keeps.refl _) rfl
                  clear hs hah hi
                  generalize f.eval = ρ at *
                  go_simp
                  all_goals exact fun h0 => absurd h0 hL0
                · intro f wr hk hs hah hi
                  have r7 := ahead_get hah 7 .data (by simp) rfl rfl rfl
                  have e48 : f.eval (.tmp 48) = .pointer (some ⟨pb, po, none⟩) := r7
                  have g5 : f.eval (.tmp 46) = .bool false := ahead_get hah 5 .guard (by simp) rfl rfl rfl
                  have c1 := hP _ wr hk
                  refine puts_run hi (.inr ⟨5, false, _, 46, rfl, rfl, rfl, g5⟩) (v := .int .u8 k) (w' := wr) ?_ (Keeps.refl _) rfl
                  clear hs hah hi
                  generalize f.eval = ρ at *
                  go_simp
                · intro f wr hk hs hah hi
                  have r8 := ahead_get hah 8 .data (by simp) rfl rfl rfl
                  have e49 : f.eval (.tmp 49) = .int .u8 k := r8
                  have g5 : f.eval (.tmp 46) = .bool false := ahead_get hah 5 .guard (by simp) rfl rfl rfl
                  refine puts_run hi (.inr ⟨5, false, _, 46, rfl, rfl, rfl, g5⟩) (v := .int .i64 k) (w' := wr) ?_ (Keeps.refl _) rfl
                  clear hs hah hi
                  generalize f.eval = ρ at *
                  go_simp
                  all_goals exact hwk.out
                · intro f wr hk hs hah hi
                  have e2 : f.eval (.tmp 2) = .pointer (some ⟨g1, 0, none⟩) := hs 2 (by simp [Still])
                  have g5 : f.eval (.tmp 46) = .bool false := ahead_get hah 5 .guard (by simp) rfl rfl rfl
                  refine puts_run hi (.inr ⟨5, false, _, 46, rfl, rfl, rfl, g5⟩) (v := .pointer (some ⟨g1, 0, none⟩)) (w' := wr) ?_ (Keeps.refl _) rfl
                  clear hs hah hi
                  generalize f.eval = ρ at *
                  go_simp
                · intro f wr hk hs hah hi
                  have r10 := ahead_get hah 10 .data (by simp) rfl rfl rfl
                  have e51 : f.eval (.tmp 51) = .pointer (some ⟨g1, 0, none⟩) := r10
                  have g5 : f.eval (.tmp 46) = .bool false := ahead_get hah 5 .guard (by simp) rfl rfl rfl
                  have c1 := (hH1 _ wr hk).2 0
                  simp only [List.getElem?_toArray, List.getElem?_cons_zero] at c1
                  refine puts_run hi (.inr ⟨5, false, _, 46, rfl, rfl, rfl, g5⟩) (v := .int .i64 k) (w' := wr) ?_ (Keeps.refl _) rfl
                  clear hs hah hi
                  generalize f.eval = ρ at *
                  go_simp
                · intro f wr hk hs hah hi
                  have r9 := ahead_get hah 9 .data (by simp) rfl rfl rfl
                  have e50 : f.eval (.tmp 50) = .int .i64 k := r9
                  have r11 := ahead_get hah 11 .data (by simp) rfl rfl rfl
                  have e52 : f.eval (.tmp 52) = .int .i64 k := r11
                  have g5 : f.eval (.tmp 46) = .bool false := ahead_get hah 5 .guard (by simp) rfl rfl rfl
                  refine puts_run hi (.inr ⟨5, false, _, 46, rfl, rfl, rfl, g5⟩) (v := .bool true) (w' := wr) ?_ (Keeps.refl _) rfl
                  clear hs hah hi
                  generalize f.eval = ρ at *
                  go_simp
                · intro f wr hk hs hah hi
                  have r5 := ahead_get hah 5 .data (by simp) rfl rfl rfl
                  have e46 : f.eval (.tmp 46) = .bool false := r5
                  have r12 := ahead_get hah 12 .data (by simp) rfl rfl rfl
                  have e53 : f.eval (.tmp 53) = .bool true := r12
                  have g1 : f.eval (.tmp 42) = .bool true := ahead_get hah 1 .guard (by simp) rfl rfl rfl
                  have qc : ∀ v, f.eval (.const v) = v := fun _ => rfl
                  refine puts_run hi (.inr ⟨1, true, _, 42, rfl, rfl, rfl, g1⟩) (v := .bool true) (w' := wr) ?_ (Keeps.refl _) rfl
                  clear hs hah hi
                  generalize f.eval = ρ at *
                  go_simp
                · intro f wr hk hs hah hi
                  have r1 := ahead_get hah 1 .data (by simp) rfl rfl rfl
                  have e42 : f.eval (.tmp 42) = .bool true := r1
                  have r13 := ahead_get hah 13 .data (by simp) rfl rfl rfl
                  have e54 : f.eval (.tmp 54) = .bool true := r13
                  have qc : ∀ v, f.eval (.const v) = v := fun _ => rfl
                  refine puts_run hi (.inl rfl) (v := .bool true) (w' := wr) ?_ (Keeps.refl _) rfl
                  clear hs hah hi
                  generalize f.eval = ρ at *
                  go_simp
                · intro f wr hk hs hah hi
                  have r14 := ahead_get hah 14 .data (by simp) rfl rfl rfl
                  have e55 : f.eval (.tmp 55) = .bool true := r14
                  refine puts_run hi (.inl rfl) (v := .bool true) (w' := wr) ?_ (Keeps.refl _) rfl
                  clear hs hah hi
                  generalize f.eval = ρ at *
                  go_simp
                · intro f wr hk hs hah hi
                  have e8 : f.eval (.tmp 8) = .bool false := hs 8 (by simp [Still])
                  have g15 : f.eval (.tmp 56) = .bool true := ahead_get hah 15 .guard (by simp) rfl rfl rfl
                  refine puts_run hi (.inr ⟨15, true, _, 56, rfl, rfl, rfl, g15⟩) (v := .bool false) (w' := wr) ?_ (Keeps.refl _) rfl
                  clear hs hah hi
                  generalize f.eval = ρ at *
                  go_simp
                · intro f wr hk hs hah hi
                  have r16 := ahead_get hah 16 .data (by simp) rfl rfl rfl
                  have e57 : f.eval (.tmp 57) = .bool false := r16
                  have g15 : f.eval (.tmp 56) = .bool true := ahead_get hah 15 .guard (by simp) rfl rfl rfl
                  refine puts_run hi (.inr ⟨15, true, _, 56, rfl, rfl, rfl, g15⟩) (v := .bool true) (w' := wr) ?_ (Keeps.refl _) rfl
                  clear hs hah hi
                  generalize f.eval = ρ at *
                  go_simp
                · intro f wr hk hs hah hi
                  have r17 := ahead_get hah 17 .data (by simp) rfl rfl rfl
                  have e58 : f.eval (.tmp 58) = .bool true := r17
                  have g15 : f.eval (.tmp 56) = .bool true := ahead_get hah 15 .guard (by simp) rfl rfl rfl
                  refine puts_run hi (.inr ⟨15, true, _, 56, rfl, rfl, rfl, g15⟩) (v := .bool true) (w' := wr) ?_ (Keeps.refl _) rfl
                  clear hs hah hi
                  generalize f.eval = ρ at *
                  go_simp
                · intro f wr hk hs hah hi
                  have g18 : f.eval (.tmp 59) = .bool true := ahead_get hah 18 .guard (by simp) rfl rfl rfl
                  exact puts_skip hi rfl rfl rfl g18 (by decide) (Keeps.refl _) trivial
                · intro f wr hk hs hah hi
                  have r18 := ahead_get hah 18 .data (by simp) rfl rfl rfl
                  have e59 : f.eval (.tmp 59) = .bool true := r18
                  have g15 : f.eval (.tmp 56) = .bool true := ahead_get hah 15 .guard (by simp) rfl rfl rfl
                  have qc : ∀ v, f.eval (.const v) = v := fun _ => rfl
                  refine puts_run hi (.inr ⟨15, true, _, 56, rfl, rfl, rfl, g15⟩) (v := .bool true) (w' := wr) ?_ (Keeps.refl _) rfl
                  clear hs hah hi
                  generalize f.eval = ρ at *
                  go_simp
                · intro f wr hk hs hah hi
                  have r15 := ahead_get hah 15 .data (by simp) rfl rfl rfl
                  have e56 : f.eval (.tmp 56) = .bool true := r15
                  have r20 := ahead_get hah 20 .data (by simp) rfl rfl rfl
                  have e61 : f.eval (.tmp 61) = .bool true := r20
                  have qc : ∀ v, f.eval (.const v) = v := fun _ => rfl
                  refine puts_run hi (.inl rfl) (v := .bool true) (w' := wr) ?_ (Keeps.refl _) rfl
                  clear hs hah hi
                  generalize f.eval = ρ at *
                  go_simp
                · intro f wr hk hs hah hi
                  have r21 := ahead_get hah 21 .data (by simp) rfl rfl rfl
                  have e62 : f.eval (.tmp 62) = .bool true := r21
                  refine puts_run hi (.inl rfl) (v := .bool true) (w' := wr) ?_ (Keeps.refl _) rfl
                  clear hs hah hi
                  generalize f.eval = ρ at *
                  go_simp
              · intro f ws hk hR
                have e4 : f 4 = .bool true := hR 22 _ _ rfl rfl
                clear hR
                simp [putAll, Act.put, e4]
                go_wp2_with fail
                go_ret
                subst hg1
                exact ⟨rfl, ((B4.alloc B4.size _).drew).trans (hk.mono (by have := B4.size; simp; omega))⟩
end Go.Proofs.Ytjpchjbbfbmjgaa
