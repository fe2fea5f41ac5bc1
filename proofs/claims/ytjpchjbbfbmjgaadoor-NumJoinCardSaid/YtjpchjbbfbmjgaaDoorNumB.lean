/- Walks of num: Get. -/
import Derived.Test.YtjpchjbbfbmjgaaDoorNumA
namespace Go.Proofs.YtjpchjbbfbmjgaaDoor
set_option linter.unusedSimpArgs false
set_option linter.unusedVariables false
open Go.RowKit
set_option maxHeartbeats 400000 in
theorem low_call (x : UInt8) (w : World) :
    Calls Tryd.prog 23 #[.int .u8 (x.toNat : Int)] w fun e w' => e = .returned (.bool (decide ((x.toNat : Int) < 128))) ∧ w = w' := by
  have hx := x.toNat_lt
  go_enter Tryd.func23, Tryd.ntmps23
  go_wp2
  all_goals go_ret
  all_goals exact ⟨ret_bool (by simp_all), rfl⟩
/-- where the first of them lies that is below 128 -/
def lowIdx (l : List UInt8) : Int := match l.findIdx? (fun c => decide (c.toNat < 128)) with | none => -1 | some e => (e : Int)
theorem lowIdx_none {l : List UInt8} (h : ∀ j, j < l.length → ¬ (l.getD j 0).toNat < 128) : lowIdx l = -1 := by
  unfold lowIdx
  have : l.findIdx? (fun c => decide (c.toNat < 128)) = none := by
    rw [List.findIdx?_eq_none_iff]
    intro x hx
    obtain ⟨j, hj, rfl⟩ := List.mem_iff_getElem.1 hx
    have := h j hj
    simp only [List.getD, List.getElem?_eq_getElem hj, Option.getD_some] at this
    simpa using this
  rw [this]
theorem lowIdx_some {l : List UInt8} {k : Nat} (hk : k < l.length) (h : ∀ j, j < k → ¬ (l.getD j 0).toNat < 128) (hx : (l.getD k 0).toNat < 128) : lowIdx l = k := by
  unfold lowIdx
  have : l.findIdx? (fun c => decide (c.toNat < 128)) = some k := by
    rw [List.findIdx?_eq_some_iff_getElem]
    refine ⟨hk, ?_, fun j hj => ?_⟩
    · simpa [List.getD, List.getElem?_eq_getElem hk] using hx
    · have := h j hj
      simpa [List.getD, List.getElem?_eq_getElem (show j < l.length by omega)] using this
  rw [this]
set_option maxRecDepth 100000 in
set_option maxHeartbeats 400000 in
theorem indexLow_any {A : Option Addr} {n c : Nat} {l : List UInt8} (w : World) (h : Rd w A n c l) :
    Calls Tryd.prog 22 #[.slice A n c, .func (.func 23) #[] #[]] w fun e w' => e = .returned (.int .i64 (lowIdx l)) ∧ w = w' := by
  have hlen := h.len
  have hcap := h.cap
  have hnc := h.le
  unfold maxLen at hcap
  have H := Lib.hid h
  have Hl := Lib.hid hlen
  clear h hlen
  go_enter Tryd.func22, Tryd.ntmps22
  go_wp2
  go_loop [8] (fun i => ∃ k : Nat, k ≤ n ∧ i = .int .i64 k ∧ Hid (∀ j, j < k → ¬ (l.getD j 0).toNat < 128)) (fun i => n - (intOf i).toNat)
  case atStart => exact ⟨0, Nat.zero_le _, rfl, Lib.hid (fun j hj => absurd hj (by omega))⟩
  case round =>
    obtain ⟨k, hk, rfl, hall⟩ := hrel
    by_cases hlt : k < n
    · obtain ⟨b, off, rfl, hb, hcell⟩ := H.out.2.2.2 (by omega)
      have hc0 := hcell k hlt
      obtain ⟨x, hx⟩ : ∃ x, x = l.getD k 0 := ⟨_, rfl⟩
      rw [← hx] at hc0
      have HX := Lib.hid hx
      clear hx hcell
      by_cases hlow : x.toNat < 128
      · have hlow' : (x.toNat : Int) < 128 := by omega
        go_wp2_with (go_at_call 23; refine (low_call _ _).mono ?_; rintro e w' ⟨rfl, rfl⟩)
        go_ret
        exact ⟨ret_int (by rw [lowIdx_some (k := k) (by rw [Hl.out]; exact hlt) hall.out (by rw [← HX.out]; exact hlow)]), rfl⟩
      · have hlow' : ¬ (x.toNat : Int) < 128 := by omega
        go_wp2_with (go_at_call 23; refine (low_call _ _).mono ?_; rintro e w' ⟨rfl, rfl⟩)
        go_round
        case rel => exact ⟨k + 1, by omega, by go_num, Lib.hid (fun j hj => by
          by_cases hjk : j = k
          · subst hjk; rw [← HX.out]; exact hlow
          · exact hall.out j (by omega))⟩
        case measure => simp [intOf]; omega
    · have hkn : k = n := by omega
      have HK := Lib.hid hkn
      clear hkn
      go_wp2
      go_ret
      exact ⟨ret_int (by rw [lowIdx_none (fun j hj => hall.out j (by rw [HK.out, ← Hl.out]; exact hj))]), rfl⟩
end Go.Proofs.YtjpchjbbfbmjgaaDoor
