/- Words and small laws of my own that every walk of this seat uses: a slice of bytes that reads as a list. -/
import Derived.Test.YtfffjaijflbeaaaDoorRows
import Derived.WalkKit
import Derived.WalkSpells
import Derived.WalkLawsBesides
import Derived.BigQuiet
import Derived.Deep.QuietTactic
import Derived.Deep.RegionWith
import Derived.Deep.RegionHeld3
import Derived.Deep.RegionLaw
import Derived.Deep.LoopGhost
import Derived.Deep.DeepCutAuto
import Derived.Deep.DeepFit
import Derived.StillTailTactics
import Derived.Laws.EntriesVeiled
import Derived.Laws.BytesString
import Derived.Lib.Hide
namespace Go.Proofs.YtfffjaijflbeaaaDoor
set_option linter.unusedSimpArgs false
set_option linter.unusedVariables false
open Go.RowKit

/-- the slice value '.slice A n c' reads as the bytes l -/
def Rd (w : World) (A : Option Addr) (n c : Nat) (l : List UInt8) : Prop :=
  l.length = n ∧ n ≤ c ∧ c ≤ maxLen ∧
    (0 < n → ∃ b off, A = some ⟨b, off, none⟩ ∧ b < w.heap.size ∧ ∀ i, i < n → w.cell? ⟨b, off + i, none⟩ = some (.int .u8 ((l.getD i 0).toNat : Int)))

section
variable {w w' : World} {A : Option Addr} {n c : Nat} {l : List UInt8}
theorem Rd.keep (h : Rd w A n c l) (hs : w.heap.size ≤ w'.heap.size) (hk : ∀ b o, b < w.heap.size → w'.cell? ⟨b, o, none⟩ = w.cell? ⟨b, o, none⟩) : Rd w' A n c l := by
  obtain ⟨h1, h2, h3, h4⟩ := h
  refine ⟨h1, h2, h3, fun hn => ?_⟩
  obtain ⟨b, off, hA, hb, hc⟩ := h4 hn
  exact ⟨b, off, hA, by omega, fun i hi => (hk _ _ hb).trans (hc i hi)⟩
theorem Rd.below (h : Rd w A n c l) (hb : Below w.heap.size w w') : Rd w' A n c l :=
  h.keep hb.size fun _ _ hlt => hb.cell hlt
theorem Rd.alloc (h : Rd w A n c l) (o : Obj) : Rd (w.alloc o) A n c l :=
  h.below ((Below.refl _ _).alloc (Nat.le_refl _) o)
theorem Rd.drew (h : Rd w A n c l) : Rd w.drew A n c l := h
theorem Rd.drewN (h : Rd w A n c l) (k : Nat) : Rd (w.drewN k) A n c l := h
theorem Rd.nil (w : World) : Rd w none 0 0 [] := ⟨rfl, Nat.le_refl _, Nat.zero_le _, fun h => absurd h (by omega)⟩
theorem Rd.len (h : Rd w A n c l) : l.length = n := h.1
theorem Rd.le (h : Rd w A n c l) : n ≤ c := h.2.1
theorem Rd.cap (h : Rd w A n c l) : c ≤ maxLen := h.2.2.1
end

theorem bcell {W w1 : World} {B : Nat} (hb : Below B W w1) : (∀ b o, b < B → w1.cell? ⟨b, o, none⟩ = W.cell? ⟨b, o, none⟩) ∧ (∀ b o, b < B → w1.frozen? ⟨b, o, none⟩ = W.frozen? ⟨b, o, none⟩) :=
  ⟨fun b o h => hb.cell (p := ⟨b, o, none⟩) h, fun b o h => hb.frozen (p := ⟨b, o, none⟩) h⟩

/-- from w to w' only the blocks of S have turned, and new ones have come -/
structure Mod (S : List Nat) (w w' : World) : Prop where
  os : w'.os = w.os
  tape : w'.tape = w.tape
  output : w'.output = w.output
  size : w.heap.size ≤ w'.heap.size
  block : ∀ k, k < w.heap.size → k ∉ S → w'.heap[k]? = w.heap[k]?
section
variable {S S' : List Nat} {a w w' : World}
theorem Mod.refl (S : List Nat) (w : World) : Mod S w w := ⟨rfl, rfl, rfl, Nat.le_refl _, fun _ _ _ => rfl⟩
theorem Mod.trans (h : Mod S a w) (k : Mod S w w') : Mod S a w' :=
  ⟨k.os.trans h.os, k.tape.trans h.tape, k.output.trans h.output, Nat.le_trans h.size k.size, fun i hi hn => (k.block i (Nat.lt_of_lt_of_le hi h.size) hn).trans (h.block i hi hn)⟩
theorem Mod.more (h : Mod S w w') (hS : ∀ k ∈ S, k ∈ S') : Mod S' w w' := ⟨h.os, h.tape, h.output, h.size, fun i hi hn => h.block i hi (fun hm => hn (hS i hm))⟩
theorem Mod.drew (h : Mod S a w) : Mod S a w.drew := ⟨h.os, h.tape, h.output, h.size, h.block⟩
theorem Mod.drewN (h : Mod S a w) (n : Nat) : Mod S a (w.drewN n) := ⟨h.os, h.tape, h.output, h.size, h.block⟩
theorem Mod.alloc (h : Mod S a w) (o : Obj) : Mod S a (w.alloc o) :=
  ⟨h.os, h.tape, h.output, Nat.le_trans h.size (by simp), fun i hi hn => (Below.heap_alloc w o i (Nat.lt_of_lt_of_le hi h.size)).trans (h.block i hi hn)⟩
theorem Mod.setCell (h : Mod S a w) {p : Addr} (hp : p.block ∈ S ∨ a.heap.size ≤ p.block) (u : Value) : Mod S a (w.setCell p u) :=
  ⟨h.os, h.tape, h.output, by simpa [World.setCell] using h.size, fun i hi hn => (Below.heap_setCell w p u i (by
    rintro rfl
    rcases hp with hp | hp
    · exact hn hp
    · omega)).trans (h.block i hi hn)⟩
theorem Mod.of_below (h : Below w.heap.size w w') (S : List Nat) : Mod S w w' := ⟨h.os, h.tape, h.output, h.size, fun i hi _ => h.block i hi⟩
theorem Mod.below {B : Nat} (h : Mod S w w') (hB : B ≤ w.heap.size) (hS : ∀ k ∈ S, B ≤ k) : Below B w w' :=
  ⟨h.os, h.tape, h.output, h.size, fun i hi => h.block i (by omega) (fun hm => by have := hS i hm; omega)⟩
theorem Mod.of_grown {row : Option Nat} (h : w.grownBy w' row) (hr : ∀ k, row = some k → k ∈ S) : Mod S w w' :=
  ⟨h.os, h.tape, h.output, h.size, fun i hi hn => h.block i hi (fun e => hn (hr i e.symm))⟩
theorem Mod.cell (h : Mod S w w') {b o : Nat} (hb : b < w.heap.size) (hn : b ∉ S) : w'.cell? ⟨b, o, none⟩ = w.cell? ⟨b, o, none⟩ := World.cell?_of_block (h.block b hb hn)
theorem Mod.frozen (h : Mod S w w') {b o : Nat} (hb : b < w.heap.size) (hn : b ∉ S) : w'.frozen? ⟨b, o, none⟩ = w.frozen? ⟨b, o, none⟩ := World.frozen?_of_block (h.block b hb hn)
theorem Rd.mod {A : Option Addr} {n c : Nat} {l : List UInt8} (h : Rd w A n c l) (hm : Mod S w w') (hS : ∀ b o, A = some ⟨b, o, none⟩ → b ∉ S) : Rd w' A n c l := by
  obtain ⟨h1, h2, h3, h4⟩ := h
  refine ⟨h1, h2, h3, fun hn => ?_⟩
  obtain ⟨b, off, hA, hb, hc⟩ := h4 hn
  exact ⟨b, off, hA, Nat.lt_of_lt_of_le hb hm.size, fun i hi => (hm.cell hb (hS _ _ hA)).trans (hc i hi)⟩
end
/-- a slice's tail: the address as the model writes it -/
theorem Rd.cut {w : World} {A : Option Addr} {n c k : Nat} {l : List UInt8} (h : Rd w A n c l) (hk : k ≤ n) :
    Rd w (if c = k then A else A.map (·.add k)) (n - k) (c - k) (l.drop k) := by
  obtain ⟨h1, h2, h3, h4⟩ := h
  refine ⟨by rw [List.length_drop, h1], by omega, by omega, fun hn => ?_⟩
  obtain ⟨b, off, rfl, hb, hc⟩ := h4 (by omega)
  rw [if_neg (by omega)]
  refine ⟨b, off + k, ?_, hb, fun i hi => ?_⟩
  · have hadd : (⟨b, off, none⟩ : Addr).add k = ⟨b, off + k, none⟩ := by unfold Addr.add; split <;> simp_all
    simp [hadd]
  · have := hc (k + i) (by omega)
    rw [Nat.add_assoc, this]
    simp [List.getD, List.getElem?_drop]
/-- a slice's beginning -/
theorem Rd.take {w : World} {A : Option Addr} {n c k : Nat} {l : List UInt8} (h : Rd w A n c l) (hk : k ≤ n) : Rd w A k c (l.take k) := by
  obtain ⟨h1, h2, h3, h4⟩ := h
  refine ⟨by rw [List.length_take, h1]; omega, by omega, h3, fun hn => ?_⟩
  obtain ⟨b, off, rfl, hb, hc⟩ := h4 (by omega)
  refine ⟨b, off, rfl, hb, fun i hi => ?_⟩
  rw [hc i (by omega)]
  simp [List.getD, List.getElem?_take, hi]
theorem ret_bool {a b : Bool} (h : a = b) : Ending.returned (Value.bool a) = .returned (.bool b) := by rw [h]
theorem ret_int {k : IntKind} {a b : Int} (h : a = b) : Ending.returned (Value.int k a) = .returned (.int k b) := by rw [h]
end Go.Proofs.YtfffjaijflbeaaaDoor
