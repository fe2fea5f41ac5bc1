/- Walks of num: Text, Read, Get, Put. -/
import Derived.Test.YtjpchjbbfbmjgaaDoorBytes
import Derived.Test.YtjpchjbbfbmjgaaDoorNumSpec
namespace Go.Proofs.YtjpchjbbfbmjgaaDoor
set_option linter.unusedSimpArgs false
set_option linter.unusedVariables false
open Go.RowKit
/-- it returns a row of bytes of its own; nothing that was there has turned -/
def RetOw (w : World) (l : List UInt8) (e : Ending) (w' : World) : Prop := ∃ v, e = .returned v ∧ Ow w' w.heap.size v l ∧ Below w.heap.size w w'
theorem RetOw.mk {w w' : World} {l : List UInt8} {v : Value} (h : Ow w' w.heap.size v l) (hb : Below w.heap.size w w') : RetOw w l (.returned v) w' := ⟨v, rfl, h, hb⟩
set_option maxHeartbeats 400000 in
theorem text_any (s : ByteArray) (w : World) (hs : s.size ≤ maxLen) :
    Calls Tryd.prog 18 #[.string s] w (RetOw w (textL s.data.toList)) := by
  unfold maxLen at hs
  have hsz : s.data.toList.length = s.size := by rw [Array.length_toList]; rfl
  by_cases h : 255 < s.size
  · have h' : (255 : Int) < s.size := by omega
    have ht : textL s.data.toList = [] := by unfold textL; rw [hsz, if_pos h]
    rw [ht]
    clear hsz ht
    go_enter Tryd.func18, Tryd.ntmps18
    go_wp2
    go_ret
    exact RetOw.mk (Ow.nil _ _) (Below.refl _ _)
  · have h' : ¬ (255 : Int) < s.size := by omega
    have ht : textL s.data.toList = [UInt8.ofNat s.size] ++ s.data.toList := by unfold textL; rw [hsz, if_neg h]; rfl
    rw [ht]
    have HS := Lib.hid hsz
    clear hsz ht
    go_enter Tryd.func18, Tryd.ntmps18
    go_wp2_with (at_builtin; refine wpList_append_ow rfl (.tmp 9) (.tmp 10) rfl (B := w.heap.size) (l := [UInt8.ofNat s.size]) (m := s.data.toList) ?hown (src_string s) ?hlen (by simp) ?_)
    case hown => exact Ow.lit w _ [UInt8.ofNat s.size] (Nat.le_refl _) (by simp [maxLen]) (by simp [bV]; omega)
    case hlen => omega
    intro v' w1 hown1 hgrow1 _
    go_wp2
    go_ret
    exact RetOw.mk hown1 (((Below.refl _ _).alloc (Nat.le_refl _) _).grown hgrow1 (by simp) (by rintro k hk; injection hk with hk; subst hk; exact Nat.le_refl _))

/-- what a text's reading hands back -/
def readR (r : Option (List UInt8 × Nat)) : Value :=
  match r with
  | none => .tuple #[.string ⟨#[]⟩, .int .i64 0, .bool false]
  | some (s, k) => .tuple #[.string ⟨s.toArray⟩, .int .i64 (k : Int), .bool true]
set_option maxHeartbeats 400000 in
theorem read_any {A : Option Addr} {n c : Nat} {l : List UInt8} (w : World) (h : Rd w A n c l) :
    Calls Tryd.prog 12 #[.slice A n c] w fun e w' => e = .returned (readR (readL l)) ∧ w = w' := by
  have hlen := h.len
  have hcap := h.cap
  have hnc := h.le
  unfold maxLen at hcap
  cases l with
  | nil =>
    simp only [List.length_nil] at hlen
    subst hlen
    clear h
    go_enter Tryd.func12, Tryd.ntmps12
    go_wp2
    go_ret3
    exact ⟨rfl, rfl⟩
  | cons x r =>
    have hx := x.toNat_lt
    simp only [List.length_cons] at hlen
    obtain ⟨b, off, rfl, hb, hcell⟩ := h.2.2.2 (by omega)
    have hc0 := hcell 0 (by omega)
    simp only [Nat.add_zero, List.getD_cons_zero] at hc0
    have hz : ((n : Int) == 0) = false := by simp; omega
    have hpos : (0 : Int) < (n : Int) := by omega
    by_cases hlt : r.length < x.toNat
    · have hr : readL (x :: r) = none := by rw [readL, if_pos hlt]
      rw [hr]
      have hgt : (n : Int) < (x.toNat : Int) + 1 := by omega
      clear hr hcell h hlen
      go_enter Tryd.func12, Tryd.ntmps12
      go_wp2
      go_ret3
      exact ⟨rfl, rfl⟩
    · have hr : readL (x :: r) = some (r.take x.toNat, x.toNat + 1) := by rw [readL, if_neg hlt]
      rw [hr]
      have hgt : ¬ (n : Int) < (x.toNat : Int) + 1 := by omega
      have H := Lib.hid h
      have Hl := Lib.hid hlen
      clear hr hcell h hlen
      go_enter Tryd.func12, Tryd.ntmps12
      go_wp2_with (first | (refine wpList_slice_lh rfl (.tmp 18) (.const (.int .i64 1)) (.tmp 19) rfl rfl rfl rfl H.out (i := 1) (j := x.toNat + 1) (by omega) (by omega) (by omega) (by omega) ?_; intro A' hr') | (refine wpList_convert_rd rfl (.tmp 20) rfl rfl (by assumption) ?_))
      go_ret3
      exact ⟨by simp [readR], rfl⟩
end Go.Proofs.YtjpchjbbfbmjgaaDoor
