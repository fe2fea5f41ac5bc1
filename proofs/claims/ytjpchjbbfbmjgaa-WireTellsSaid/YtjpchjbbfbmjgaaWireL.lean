/- Walks of the laws of wire: Great, WireBounds. -/
import Derived.Test.YtjpchjbbfbmjgaaWireH
namespace Go.Proofs.Ytjpchjbbfbmjgaa
set_option linter.unusedSimpArgs false
set_option linter.unusedVariables false
open Go.RowKit
theorem great_any (k n m : Int) (a b : ByteArray) (w : World) :
    Calls Try.prog 10 #[msgV k a b n m] w fun e w' => (∃ z, e = .returned (.bool z)) ∧ Below w.heap.size w w' := by
  unfold msgV
  go_enter Try.func10, Try.ntmps10
  go_wp2_with fail
  go_ret
  exact ⟨⟨_, ret_bool rfl⟩, (Below.refl _ _).alloc (Nat.le_refl _) _⟩
theorem right_cut {k n m : Int} {a b : ByteArray} (j : Nat) (h : rightB k a b n m = true) : rightB k (a.extract 0 j) b n m = true := by
  have hs : (a.extract 0 j).size ≤ a.size := by simp; omega
  have he : a.data.toList.isEmpty = true → (a.extract 0 j).data.toList.isEmpty = true := by
    intro h
    simp at h
    simp [h]
  simp only [rightB, wordB, Bool.and_eq_true, Bool.or_eq_true, decide_eq_true_eq] at h ⊢
  obtain ⟨h1, ⟨h2, h3⟩, h4⟩ := h
  exact ⟨h1, ⟨by omega, h3.imp id he⟩, h4⟩
theorem right_half {k n m : Int} {a b : ByteArray} (h : rightB k a b n m = true) : rightB k a b (wrap64 (n.tdiv 2)) m = true := by
  simp only [rightB, numB, Bool.and_eq_true, Bool.or_eq_true, decide_eq_true_eq, beq_iff_eq] at h ⊢
  obtain ⟨h1, h2, h3, ⟨⟨h4, h5⟩, h6⟩, h7⟩ := h
  have e : wrap64 (n.tdiv 2) = n / 2 := by
    rw [Int.tdiv_eq_ediv_of_nonneg h4]
    unfold wrap64
    omega
  rw [e]
  exact ⟨h1, h2, h3, ⟨⟨by omega, by omega⟩, h6.imp id (fun h => by omega)⟩, h7⟩
theorem right_long (k n m : Int) (a b : ByteArray) (h : 64 < a.size) : rightB k a b n m = false := by
  have : wordB a (hasA k) = false := by unfold wordB; rw [decide_eq_false (by omega)]; rfl
  simp [rightB, this]
theorem right_much (k n m : Int) (a b : ByteArray) (h : 1099511627776 < n) : rightB k a b n m = false := by
  have : numB n (hasN k) = false := by unfold numB; rw [decide_eq_false (p := n ≤ 1099511627776) (by omega)]; simp
  simp [rightB, this]
theorem right_less (k n m : Int) (a b : ByteArray) (h : m < 0) : rightB k a b n m = false := by
  have : numB m (hasM k) = false := by unfold numB; rw [decide_eq_false (p := 0 ≤ m) (by omega)]; simp
  simp [rightB, this]
def z65 : List UInt8 := List.replicate 65 0
theorem run_make65 (w : World) : (Instr.makeSlice 24 (.int .i64 65) (.int .i64 65)).run Try.prog w = .ok (.slice (some ⟨w.heap.size, 0, none⟩) 65 65) (w.alloc (.cells (bV z65).toArray 5)) := by
  obtain ⟨i0, hi, hz0, hz1, hz2⟩ := info_parts prog_info8
  have := run_makeSlice (P := Try.prog) w 24 5 i0 (.int .u8 0) prog_bytes hi hz0 .i64 .i64 65 65 (by omega) (by omega) (by rw [hz1]; decide) (by rw [hz2]; omega) (by omega)
  rw [this, hz1]
  have e : madeCells (Value.int IntKind.u8 0).cells (Int.toNat 65 * 1) = (bV z65).toArray := by kernel_rfl
  rw [e]
  rfl
theorem run_conv65 (w : World) (g : Nat) (hg : g = w.heap.size) : (convert 24 9 (.slice (some ⟨g, 0, none⟩) 65 65)).run Try.prog (w.alloc (.cells (bV z65).toArray 5)) = .ok (.string ⟨z65.toArray⟩) (w.alloc (.cells (bV z65).toArray 5)) :=
  run_convert_rd (Rd.litAt hg (by simp [z65]) (by simp [maxLen]) (by simp))
set_option maxRecDepth 100000 in
set_option maxHeartbeats 1000000 in
theorem bounds_any (k n m : Int) (a b : ByteArray) (cut : Int) (w : World) (ha : a.size ≤ maxLen) (hb : b.size ≤ maxLen) (hc0 : 0 ≤ cut) (hc1 : cut ≤ 255) :
    Calls Try.prog 7 #[msgV k a b n m, .int .u8 cut] w fun e w' => e = .returned (.bool true) ∧ Below w.heap.size w w' := by
  unfold msgV
  go_enter Try.func7, Try.ntmps7
  go_wp2_with fail
  refine (head_any _).mono ?_
  rintro e w1 ⟨rfl, hb1⟩
  have B1 : Below w.heap.size w w1 := ((Below.refl _ _).alloc (Nat.le_refl _) _).trans (hb1.mono (by simp))
  have H1 := (Holds.new w _ _ _).below hb1
  have h1 := H1.2
  clear hb1
  go_wp2_with fail
  refine (great_any k n m a b _).mono ?_
  rintro e w2 ⟨⟨z, rfl⟩, hb2⟩
  have B2 : Below w.heap.size w w2 := B1.trans (hb2.mono B1.size)
  have H2 := H1.below hb2
  have h2 := H2.2
  clear hb2 h1 H1 B1
  cases z with
  | true =>
    go_wp2_with fail
    go_ret
    exact ⟨rfl, B2⟩
  | false =>
    go_wp2_with fail
    refine (right_any k n m a b _ ha hb).mono ?_
    rintro e w3 ⟨rfl, hb3⟩
    have B3 : Below w.heap.size w w3 := B2.trans (hb3.mono B2.size)
    have H3 := H2.below hb3
    have h3 := H3.2
    have l3 := H3.1
    clear hb3 h2 H2 B2
    cases hr : rightB k a b n m with
    | false =>
      go_wp2_with fail
      go_ret
      exact ⟨rfl, B3⟩
    | true =>
      have HR := Lib.hid hr
      clear hr
      have hz : (ByteArray.mk z65.toArray).size ≤ maxLen := by simp [z65, maxLen, ByteArray.size]
      have hz' : 64 < (ByteArray.mk z65.toArray).size := by simp [z65, ByteArray.size]
      have hae : ∀ j, (a.extract 0 j).size ≤ maxLen := fun j => Nat.le_trans (by simp; omega) ha
      have hmk := run_make65
      have hcv := run_conv65
      have k3 := fun o1 o2 o3 => (((H3.alloc o1).alloc o2).alloc o3).2
      have k4 := fun o1 o2 o3 o4 => ((((H3.alloc o1).alloc o2).alloc o3).alloc o4).2
      have k5 := fun o1 o2 o3 o4 o5 => (((((H3.alloc o1).alloc o2).alloc o3).alloc o4).alloc o5).2
      go_wp2_with fail
      all_goals
        clear k3 k4 k5 hmk hcv h3
        refine (right_any _ _ _ _ _ _ (by first | exact ha | exact hae _) hb).mono ?_
        rintro e w4 ⟨rfl, hb4⟩
        first | rw [HR.out] | rw [right_cut _ HR.out]
        have B4 : Below w.heap.size w w4 := ((((((B3.alloc (by omega) _).alloc (by simp; omega) _).alloc (by simp; omega) _).alloc (by simp; omega) _).alloc (by simp; omega) _).alloc (by simp; omega) _).trans (hb4.mono (by simp; omega))
        have Q2 := (((((Holds.newAt (g := w3.heap.size + 1) _ _ _ _ (by simp)).alloc _).alloc _).alloc _).alloc _).below hb4
        have Q3 := ((((Holds.newAt (g := w3.heap.size + 1 + 1) _ _ _ _ (by simp)).alloc _).alloc _).alloc _).below hb4
        have Q4 := ((Holds.newAt (g := w3.heap.size + 1 + 1 + 1 + 1) _ _ _ _ (by simp)).alloc _).below hb4
        have Q5 := (Holds.newAt (g := w3.heap.size + 1 + 1 + 1 + 1 + 1) _ _ _ _ (by simp)).below hb4
        clear hb4 B3 l3 H3
        have q := Q2.2
        go_wp2_with fail
        refine (right_any _ _ _ _ _ _ ha hb).mono ?_
        rintro e w5 ⟨rfl, hb5⟩
        rw [right_half HR.out]
        have B5 := B4.trans (hb5.mono B4.size)
        replace Q3 := Q3.below hb5
        replace Q4 := Q4.below hb5
        replace Q5 := Q5.below hb5
        clear hb5 B4 q Q2
        have q := Q3.2
        go_wp2_with fail
        refine (right_any _ _ _ _ _ _ hz hb).mono ?_
        rintro e w6 ⟨rfl, hb6⟩
        rw [right_long _ _ _ _ _ hz']
        have B6 := B5.trans (hb6.mono B5.size)
        replace Q3 := Q3.below hb6
        replace Q4 := Q4.below hb6
        replace Q5 := Q5.below hb6
        clear hb6 B5 q
        have q := Q4.2
        go_wp2_with fail
        refine (right_any _ _ _ _ _ _ ha hb).mono ?_
        rintro e w7 ⟨rfl, hb7⟩
        rw [right_much _ _ _ _ _ (by omega)]
        have B7 := B6.trans (hb7.mono B6.size)
        replace Q3 := Q3.below hb7
        replace Q5 := Q5.below hb7
        clear hb7 B6 q Q4
        have q := Q5.2
        go_wp2_with fail
        refine (right_any _ _ _ _ _ _ ha hb).mono ?_
        rintro e w8 ⟨rfl, hb8⟩
        rw [right_less _ _ _ _ _ (by omega)]
        have B8 := B7.trans (hb8.mono B7.size)
        replace Q3 := Q3.below hb8
        clear hb8 B7 q Q5
        have q := Q3.2
        go_wp2_with fail
        refine (wput_any _ _ _ _ _ _ hz hb).mono ?_
        rintro e w9 ⟨v9, rfl, ho9, hb9⟩
        rw [show wputL k ⟨z65.toArray⟩ b n m = [] by simp [wputL, right_long _ _ _ _ _ hz']] at ho9
        obtain ⟨A9, c9, rfl⟩ := ho9.shape
        have B9 := B8.trans (hb9.mono B8.size)
        clear hb9 B8 q Q3 ho9
        go_wp2_with fail
        go_ret
        exact ⟨rfl, B9⟩
end Go.Proofs.Ytjpchjbbfbmjgaa
