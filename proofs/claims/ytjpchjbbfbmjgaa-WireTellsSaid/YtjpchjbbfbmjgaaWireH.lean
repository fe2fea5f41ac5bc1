/- Walks of the laws of wire: head, Great. -/
import Derived.Test.YtjpchjbbfbmjgaaWireE
import Derived.Lib.SlBytesConst
import Derived.Lib.SmallJoins
namespace Go.Proofs.Ytjpchjbbfbmjgaa
set_option linter.unusedSimpArgs false
set_option linter.unusedVariables false
open Go.RowKit
theorem put_web : wputL 6 ⟨#[119, 101, 98]⟩ ⟨#[]⟩ 10 0 = [6, 3, 119, 101, 98, 10] := by decide +kernel
theorem get_one : wgetL [7, 1, 97, 2, 131, 0] = some ⟨7, ⟨#[97]⟩, ⟨#[]⟩, 2, 384⟩ := by rfl
theorem get_two : wgetL [13, 0] = none := by rfl
theorem right_web : rightB 6 ⟨#[119, 101, 98]⟩ ⟨#[]⟩ 10 0 = true := by decide +kernel
theorem right_beat : rightB 13 ⟨#[]⟩ ⟨#[]⟩ 1 0 = false := by decide +kernel
theorem right_none : rightB 0 ⟨#[]⟩ ⟨#[]⟩ 0 0 = false := by decide +kernel
theorem mlen (s : ByteArray) (h : s.size ≤ 255) : s.size ≤ maxLen := by unfold maxLen; omega
/-- a row of bytes that is laid out reads so -/
theorem Rd.lit {w : World} {cs : Array Value} {fr : Nat × Nat} {n : Nat} {l : List UInt8} (hn : l.length = n) (hm : n ≤ maxLen) (hs : cs.toList = bV l) : Rd (w.alloc (.cells cs 5 fr)) (some ⟨w.heap.size, 0, none⟩) n n l := by
  refine ⟨hn, Nat.le_refl _, hm, fun _ => ⟨w.heap.size, 0, rfl, by simp, fun i hi => ?_⟩⟩
  rw [Nat.zero_add, cell_of_row _ _ i cs 5 fr (heap_alloc_new w _), ← Array.getElem?_toList, hs]
  exact bV_at (by omega)
theorem Rd.litAt {w : World} {cs : Array Value} {fr : Nat × Nat} {g n : Nat} {l : List UInt8} (hg : g = w.heap.size) (hn : l.length = n) (hm : n ≤ maxLen) (hs : cs.toList = bV l) : Rd (w.alloc (.cells cs 5 fr)) (some ⟨g, 0, none⟩) n n l := by
  subst hg
  exact Rd.lit hn hm hs
/-- a block holds these cells -/
def Holds (w : World) (g : Nat) (cs : Array Value) : Prop := g < w.heap.size ∧ ∀ o, w.cell? ⟨g, o, none⟩ = cs[o]?
theorem Holds.new (w : World) (cs : Array Value) (e : TypeId) (fr : Nat × Nat) : Holds (w.alloc (.cells cs e fr)) w.heap.size cs :=
  ⟨by simp, fun o => cell_of_row _ _ o cs e fr (heap_alloc_new w _)⟩
theorem Holds.newAt {g : Nat} (w : World) (cs : Array Value) (e : TypeId) (fr : Nat × Nat) (h : g = w.heap.size) : Holds (w.alloc (.cells cs e fr)) g cs := by
  subst h
  exact Holds.new w cs e fr
theorem Holds.below {w w' : World} {g : Nat} {cs : Array Value} (h : Holds w g cs) (hb : Below w.heap.size w w') : Holds w' g cs :=
  ⟨Nat.lt_of_lt_of_le h.1 hb.size, fun o => (hb.cell (p := ⟨g, o, none⟩) h.1).trans (h.2 o)⟩
theorem Holds.alloc {w : World} {g : Nat} {cs : Array Value} (h : Holds w g cs) (o : Obj) : Holds (w.alloc o) g cs :=
  h.below ((Below.refl _ _).alloc (Nat.le_refl _) o)
set_option maxRecDepth 100000 in
set_option maxHeartbeats 1000000 in
theorem head_any (w : World) :
    Calls Try.prog 9 #[] w fun e w' => e = .returned (.bool true) ∧ Below w.heap.size w w' := by
  have kc := fun (w : World) (C : Array Value) (n c : Nat) => Lib.run_convert_bytes_const (P := Try.prog) w 24 5 C n c Try.underlying24 Try.underlying5
  have kc2 := fun (w : World) (o : Obj) (C : Array Value) (n c : Nat) => Joins.run_convert_bytes_const_at (P := Try.prog) (w.alloc o) 24 5 C n c (w.heap.size + 1) (by simp) Try.underlying24 Try.underlying5
  have m3 : (ByteArray.mk #[119, 101, 98]).size ≤ maxLen := mlen _ (by decide)
  have m0 : (ByteArray.mk #[]).size ≤ maxLen := mlen _ (by decide)
  go_enter Try.func9, Try.ntmps9
  go_wp2_with (first
    | (go_at_call 15; refine (wput_any 6 10 0 ⟨#[119, 101, 98]⟩ ⟨#[]⟩ _ m3 m0).mono ?_; rintro e w1 ⟨v1, rfl, ho1, hb1⟩; rw [put_web] at ho1; obtain ⟨A1, c1, rfl⟩ := ho1.shape; have HO1 := Lib.hid ho1; have HB1 := Lib.hid hb1; obtain ⟨hc1, hf1⟩ := bcell hb1; have hz1 := hb1.size; clear ho1 hb1)
    )
  refine (wget_any (A := some ⟨w1.heap.size, 0, none⟩) (n := 6) (c := 6) (l := [7, 1, 97, 2, 131, 0]) _ (Rd.lit rfl (by simp [maxLen]) rfl)).mono ?_
  rintro e w2 ⟨rfl, hb2⟩
  rw [get_one]
  simp only [wgetV, msgOf, msgV]
  have HB2 := Lib.hid hb2
  obtain ⟨hc2, hf2⟩ := bcell hb2
  have hz2 := hb2.size
  clear hb2
  go_wp2_with fail
  refine (wget_any (A := some ⟨w2.heap.size + 1, 0, none⟩) (n := 2) (c := 2) (l := [13, 0]) _ (Rd.litAt (by simp) rfl (by simp [maxLen]) rfl)).mono ?_
  rintro e w3 ⟨rfl, hb3⟩
  rw [get_two]
  simp only [wgetV, msgOf, msgV]
  have HB3 := Lib.hid hb3
  obtain ⟨hc3, hf3⟩ := bcell hb3
  have hz3 := hb3.size
  clear hb3
  have hrd1 : Rd w1 A1 6 c1 [6, 3, 119, 101, 98, 10] := HO1.out.rd.1
  have hrd3 := (((((hrd1.alloc _).below HB2.out).alloc _).alloc _).below HB3.out)
  have hstr := fun o => run_convert_rd (hrd3.alloc o)
  have hW1 := fun ob => (((((((Holds.new w _ _ _).below HB1.out).alloc _).below HB2.out).alloc _).alloc _).below HB3.out).alloc ob
  have hW2 := fun ob => (((Holds.new w2 _ _ _).alloc _).below HB3.out).alloc ob
  have hw1 := fun ob o => (hW1 ob).2 o
  have hw2 := fun ob o => (hW2 ob).2 o
  clear hW1 hW2
  clear hrd3 hrd1
  clear hc1 hf1 hc2 hf2 hc3 hf3 hz1 hz2 hz3
  go_wp2_with fail
  refine (right_any 6 10 0 ⟨#[119, 101, 98]⟩ ⟨#[]⟩ _ m3 m0).mono ?_
  rintro e w4 ⟨rfl, hb4⟩
  rw [right_web]
  have HB4 := Lib.hid hb4
  clear hb4
  go_wp2_with fail
  refine (right_any 13 1 0 ⟨#[]⟩ ⟨#[]⟩ _ m0 m0).mono ?_
  rintro e w5 ⟨rfl, hb5⟩
  rw [right_beat]
  have HB5 := Lib.hid hb5
  clear hb5
  go_wp2_with fail
  refine (right_any 0 0 0 ⟨#[]⟩ ⟨#[]⟩ _ m0 m0).mono ?_
  rintro e w6 ⟨rfl, hb6⟩
  rw [right_none]
  have HB6 := Lib.hid hb6
  clear hb6
  go_wp2_with fail
  have b1 : Below w.heap.size w w1 := ((Below.refl _ _).alloc (Nat.le_refl _) _).trans (HB1.out.mono (by simp))
  have b2 : Below w.heap.size w w2 := (b1.alloc b1.size _).trans (HB2.out.mono (by have := b1.size; simp; omega))
  have b3 : Below w.heap.size w w3 := ((b2.alloc b2.size _).alloc (by have := b2.size; simp; omega) _).trans (HB3.out.mono (by have := b2.size; simp; omega))
  have b4 : Below w.heap.size w w4 := (b3.alloc b3.size _).trans (HB4.out.mono (by have := b3.size; simp; omega))
  have b5 : Below w.heap.size w w5 := b4.trans (HB5.out.mono b4.size)
  have b6 : Below w.heap.size w w6 := b5.trans (HB6.out.mono b5.size)
  go_ret
  exact ⟨rfl, b6⟩
end Go.Proofs.Ytjpchjbbfbmjgaa
