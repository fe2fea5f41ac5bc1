/- Walks of num: Get. -/
import Derived.Test.YtjpchjbbfbmjgaaDoorNumB
import Derived.Test.YtjpchjbbfbmjgaaDoorBits
namespace Go.Proofs.YtjpchjbbfbmjgaaDoor
set_option linter.unusedSimpArgs false
set_option linter.unusedVariables false
open Go.RowKit
/-- what a number's reading hands back -/
def getR (r : Option (Nat × Nat)) : Value :=
  match r with
  | none => .tuple #[.int .i64 0, .int .i64 0, .bool false]
  | some (n, k) => .tuple #[.int .i64 (n : Int), .int .i64 (k : Int), .bool true]
theorem low_eq (l : List UInt8) : lowIdx (l.take 6) = match low l with | none => -1 | some e => (e : Int) := rfl
set_option maxRecDepth 100000 in
set_option maxHeartbeats 400000 in
theorem get_any {A : Option Addr} {n c : Nat} {l : List UInt8} (w : World) (h : Rd w A n c l) :
    Calls Tryd.prog 10 #[.slice A n c] w fun e w' => e = .returned (getR (getL l)) ∧ w = w' := by
  have hlen := h.len
  have hcap := h.cap
  have hnc := h.le
  unfold maxLen at hcap
  have H := Lib.hid h
  have Hl := Lib.hid hlen
  have hmin : (if (6 : Int) < (n : Int) then (6 : Int) else (n : Int)) = ((min n 6 : Nat) : Int) := by split <;> omega
  have hm := Nat.min_le_left n 6
  generalize hq : min n 6 = q at hmin hm
  have HT : Hid (l.take q = l.take 6) := by
    show l.take q = l.take 6
    rw [← hq, ← hlen]
    by_cases h6 : l.length ≤ 6
    · rw [Nat.min_eq_left h6, List.take_of_length_le (Nat.le_refl _), List.take_of_length_le h6]
    · rw [Nat.min_eq_right (by omega)]
  have HQ := Lib.hid hq
  clear hlen h hq
  cases hlow : low l with
  | none =>
    have hi : lowIdx (l.take 6) = -1 := by rw [low_eq, hlow]
    have hr : getL l = none := by unfold getL; rw [hlow]
    rw [hr]
    have HI := Lib.hid hi
    clear hr hi hlow
    go_enter Tryd.func10, Tryd.ntmps10
    go_wp2_with (first | (refine wpList_slice_h rfl (.tmp 9) (.tmp 12) rfl rfl rfl H.out (j := q) (by omega) (by omega) ?_; intro A' hr') | (go_at_call 22; refine (indexLow_any _ (by assumption)).mono ?_; rintro e w' ⟨rfl, rfl⟩; rw [HT.out, HI.out]))
    go_ret3
    exact ⟨rfl, rfl⟩
  | some e =>
    have hel := low_lt hlow
    have hi : lowIdx (l.take 6) = e := by rw [low_eq, hlow]
    have HI := Lib.hid hi
    have HLow := Lib.hid hlow
    obtain ⟨b, off, rfl, hb, hcell⟩ := H.out.2.2.2 (by have := Hl.out; omega)
    have hc0 := hcell 0 (by have := Hl.out; omega)
    simp only [Nat.add_zero] at hc0
    obtain ⟨x, hx⟩ : ∃ x, x = l.getD 0 0 := ⟨_, rfl⟩
    rw [← hx] at hc0
    have HX := Lib.hid hx
    have he0 : ¬ (e : Int) < 0 := by omega
    have hen : e + 1 ≤ n := by have := Hl.out; omega
    have HE := Lib.hid hel
    clear hx hi hlow hel
    by_cases h128 : x = 128
    · have hr : getL l = none := by
        unfold getL
        rw [HLow.out]
        have : l.headD 0 = 128 := by rw [← h128, HX.out]; cases l <;> rfl
        simp only [this, true_or, if_true]
      rw [hr]
      have hb128 : ((x.toNat : Int) == 128) = true := by rw [h128]; rfl
      clear hr h128
      go_enter Tryd.func10, Tryd.ntmps10
      go_wp2_with (first | (refine wpList_slice_h rfl (.tmp 9) (.tmp 12) rfl rfl rfl H.out (j := q) (by omega) (by omega) ?_; intro A' hr') | (go_at_call 22; refine (indexLow_any _ (by assumption)).mono ?_; rintro e w' ⟨rfl, rfl⟩; rw [HT.out, HI.out]))
      go_ret3
      exact ⟨rfl, rfl⟩
    · have hb128 : ((x.toNat : Int) == 128) = false := by
        simp only [beq_eq_false_iff_ne]
        intro h
        exact h128 (UInt8.toNat.inj (show x.toNat = 128 by omega))
      have HN : Hid (l.headD 0 ≠ 128) := by
        show l.headD 0 ≠ 128
        have : l.headD 0 = x := by rw [HX.out]; cases l <;> rfl
        rw [this]; exact h128
      clear h128
      go_enter Tryd.func10, Tryd.ntmps10
      go_wp2_with (first | (refine wpList_slice_h rfl (.tmp 9) (.tmp 12) rfl rfl rfl H.out (j := q) (by omega) (by omega) ?_; intro A' hr') | (refine wpList_slice_h rfl (.tmp 23) (.tmp 25) rfl rfl rfl H.out (j := e + 1) (by omega) (by omega) ?_; intro A'' hr'') | (go_at_call 22; refine (indexLow_any _ (by assumption)).mono ?_; rintro e w' ⟨rfl, rfl⟩; rw [HT.out, HI.out]))
      obtain ⟨b2, off2, rfl, hb2, hcell2⟩ := hr''.2.2.2 (by omega)
      have HC := Lib.hid hcell2
      clear hcell2 hr'' hr' hcell hc0
      go_loop [6, 28] (fun v i => ∃ k : Nat, k ≤ e + 1 ∧ i = .int .i64 k ∧ v = .int .i64 (val (l.take k) : Nat)) (fun _ i => e + 1 - (intOf i).toNat)
      case atStart => exact ⟨0, Nat.zero_le _, rfl, rfl⟩
      case round =>
        obtain ⟨k, hk, rfl, rfl⟩ := hrel
        obtain ⟨V, hV⟩ : ∃ V, V = val (l.take k) := ⟨_, rfl⟩
        rw [← hV]
        by_cases hlt : k < e + 1
        · have hck := HC.out k hlt
          obtain ⟨y, hy⟩ : ∃ y, y = (l.take (e + 1)).getD k 0 := ⟨_, rfl⟩
          rw [← hy] at hck
          have HY := Lib.hid hy
          have HV := Lib.hid hV
          clear hy hV
          go_wp2
          go_round
          case rel =>
            refine ⟨k + 1, by omega, by go_num, ?_⟩
            have hvl := val_lt (l.take k)
            have hk6 : k ≤ 6 := by have := HE.out; omega
            have hkl : k < l.length := by have := HE.out; omega
            rw [← HV.out, List.length_take, Nat.min_eq_left (by omega)] at hvl
            have h50 : (128 : Nat) ^ k ≤ 128 ^ 6 := Nat.pow_le_pow_right (by omega) hk6
            rw [join7 V y.toNat (by omega) y.toNat_lt]
            have hy : y = l[k] := by rw [HY.out]; simp [List.getD, List.getElem?_take, hlt, List.getElem?_eq_getElem hkl]
            rw [List.take_succ_eq_append_getElem hkl, val_snoc, ← HV.out, ← hy]
          case measure => simp [intOf]; omega
        · have hke : k = e + 1 := by omega
          have hbd : (e : Int) + 1 ≤ 7 := by have := HE.out; omega
          have HV := Lib.hid hV
          have HK := Lib.hid hke
          clear hV hke
          by_cases hbig : maxNum < V
          · have hr : getL l = none := by
              unfold getL
              rw [HLow.out]
              simp only []
              rw [if_pos (.inr (by rw [← HK.out, ← HV.out]; exact hbig))]
            have HR := Lib.hid hr
            clear hr
            have hb' : (1099511627776 : Int) < (V : Int) := by unfold maxNum at hbig; omega
            clear hbig
            go_wp2
            go_ret3
            exact ⟨by rw [HR.out]; rfl, rfl⟩
          · have hr : getL l = some (V, e + 1) := by
              unfold getL
              rw [HLow.out]
              simp only []
              rw [if_neg (by rw [← HK.out, ← HV.out]; intro h; rcases h with h | h; exact HN.out h; exact hbig h), ← HK.out, ← HV.out]
            have HR := Lib.hid hr
            clear hr
            have hb' : ¬ (1099511627776 : Int) < (V : Int) := by unfold maxNum at hbig; omega
            clear hbig
            go_wp2
            go_ret3
            exact ⟨by rw [HR.out]; rfl, rfl⟩
end Go.Proofs.YtjpchjbbfbmjgaaDoor
