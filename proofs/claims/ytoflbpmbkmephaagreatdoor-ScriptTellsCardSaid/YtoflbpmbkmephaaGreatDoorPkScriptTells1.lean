import Derived.WalkKit
import Derived.WalkSpells
import Derived.WalkLawsBesides
import Derived.BigQuiet
import Derived.Deep.QuietTactic
import Derived.Deep.RegionWith
import Derived.Deep.RegionHeld3
import Derived.Deep.RegionLaw
import Derived.Deep.LoopGhost
import Derived.Deep.DeepCutAuto
import Derived.Deep.DeepFit
import Derived.StillTailTactics
import Derived.Laws.EntriesVeiled
import Derived.Laws.BytesString
import Derived.Lib.Hide
import Derived.Orders
import Derived.Deep.AppendSrc
import Derived.Laws.BytesArg
import Derived.Laws.CopyRow
import Derived.Lib.SmallJoins
import Derived.Laws.IdiomStrings
import Derived.Laws.OwnMore
import Derived.Shelf.Strings.Builder1
import Derived.Shelf.Strings.Builder2
import Derived.Shelf.Strings.OnBuilder
import Derived.Shelf.Strings.Trim
import Derived.Shelf.Small.Utf8
import Derived.Shelf.Small.Strs
import Derived.Shelf.Strings.BuilderF
import Derived.Shelf.Strings.BuilderK
import Derived.Shelf.Strings.Builder2Cap
import Derived.Shelf.Strconv.Itoa0
import Derived.Shelf.Strconv.Itoa1
import Derived.Shelf.LaysM
import Derived.Shelf.Strconv.Itoa2
import Derived.Shelf.Strconv.Itoa3
import Derived.Shelf.Strconv.Itoa4
import Derived.Shelf.Strings.Search1
import Derived.Shelf.Strings.Search2
import Derived.Shelf.Strings.Search3
import Derived.Shelf.Strings.Cut
import Derived.Shelf.Strings.Count
import Derived.Shelf.Strings.Shaped
import Derived.Shelf.Strings.Split
import Derived.Shelf.Strings.Runes
import Derived.Shelf.Strings.AsciiSet
import Derived.Shelf.Unicode.DecodeSlow
import Derived.Shelf.Strings.BuilderCap
import Derived.RangeFuncNested
import Derived.RangeFuncBound
import Derived.RangeFuncCalls
import Derived.RangeFuncLeaves
import Derived.Shelf.Abstract
import Derived.Shelf.RegionOpen
import Derived.OwnWalkIn
import Derived.TacticsInMore
import Derived.LoopNIn
import Derived.LoopIn
import Derived.Lib.Bytealg
import Derived.WalkSmall
import Derived.Lib.AppendIntMem
import Derived.Lib.ItoaNum
import Derived.Lib.ItoaMem
import GoSem.Op.String
import Derived.Scope
import Derived.Shelf.Strings.SlTrimAscii
import Derived.MapKept
import Derived.Maps.RangeRun
import Derived.Lib.SlTrimSet
import Derived.IntWalk
import Derived.Laws.BitsAllLaws
import Derived.Laws.BitsLemmas
import Derived.ProofKit
import Derived.OpenShut
import Derived.ShutString
import Derived.ChangeOld
import Derived.Below
import Derived.Deep.Strs
import Derived.DataReads
import Derived.SizedLaws
import Derived.Deep.DeepHandedRow
import Derived.Lib.LaidTab
import Derived.LaidSub
import Derived.SevenTiedAt
import Derived.Test.YtoflbpmbkmephaaGreatDoorRows
import Derived.Test.YtoflbpmbkmephaaGreatDoorProg
import Derived.Test.YtoflbpmbkmephaaGreatDoorCards
import Derived.Test.YtoflbpmbkmephaaGreatDoorTie
set_option linter.unusedSimpArgs false
set_option linter.unusedVariables false
set_option linter.unusedSectionVars false
set_option maxRecDepth 100000
set_option maxHeartbeats 40000000
namespace Go.Proofs.YtoflbpmbkmephaaGreatDoor
open Go.RowKit
def Rd (w : World) (A : Option Addr) (n c : Nat) (l : List UInt8) : Prop :=
  l.length = n ∧ n ≤ c ∧ c ≤ maxLen ∧
    (0 < n → ∃ b off, A = some ⟨b, off, none⟩ ∧ b < w.heap.size ∧ ∀ i, i < n → w.cell? ⟨b, off + i, none⟩ = some (.int .u8 ((l.getD i 0).toNat : Int)))
section
variable {w w' : World} {A : Option Addr} {n c : Nat} {l : List UInt8}
theorem Rd.keep (h : Rd w A n c l) (hs : w.heap.size ≤ w'.heap.size) (hk : ∀ b o, b < w.heap.size → w'.cell? ⟨b, o, none⟩ = w.cell? ⟨b, o, none⟩) : Rd w' A n c l := by
  obtain ⟨h1, h2, h3, h4⟩ := h
  refine ⟨h1, h2, h3, fun hn => ?_⟩
  obtain ⟨b, off, hA, hb, hc⟩ := h4 hn
  exact ⟨b, off, hA, by omega, fun i hi => (hk _ _ hb).trans (hc i hi)⟩
theorem Rd.below (h : Rd w A n c l) (hb : Below w.heap.size w w') : Rd w' A n c l :=
  h.keep hb.size fun _ _ hlt => hb.cell hlt
theorem Rd.alloc (h : Rd w A n c l) (o : Obj) : Rd (w.alloc o) A n c l :=
  h.below ((Below.refl _ _).alloc (Nat.le_refl _) o)
theorem Rd.drew (h : Rd w A n c l) : Rd w.drew A n c l := h
theorem Rd.drewN (h : Rd w A n c l) (k : Nat) : Rd (w.drewN k) A n c l := h
theorem Rd.nil (w : World) : Rd w none 0 0 [] := ⟨rfl, Nat.le_refl _, Nat.zero_le _, fun h => absurd h (by omega)⟩
theorem Rd.len (h : Rd w A n c l) : l.length = n := h.1
theorem Rd.le (h : Rd w A n c l) : n ≤ c := h.2.1
end
structure Mod (S : List Nat) (w w' : World) : Prop where
  os : w'.os = w.os
  tape : w'.tape = w.tape
  output : w'.output = w.output
  size : w.heap.size ≤ w'.heap.size
  block : ∀ k, k < w.heap.size → k ∉ S → w'.heap[k]? = w.heap[k]?
section
variable {S S' : List Nat} {a w w' : World}
theorem Mod.refl (S : List Nat) (w : World) : Mod S w w := ⟨rfl, rfl, rfl, Nat.le_refl _, fun _ _ _ => rfl⟩
theorem Mod.trans (h : Mod S a w) (k : Mod S w w') : Mod S a w' :=
  ⟨k.os.trans h.os, k.tape.trans h.tape, k.output.trans h.output, Nat.le_trans h.size k.size, fun i hi hn => (k.block i (Nat.lt_of_lt_of_le hi h.size) hn).trans (h.block i hi hn)⟩
theorem Mod.more (h : Mod S w w') (hS : ∀ k ∈ S, k ∈ S') : Mod S' w w' := ⟨h.os, h.tape, h.output, h.size, fun i hi hn => h.block i hi (fun hm => hn (hS i hm))⟩
theorem Mod.drew (h : Mod S a w) : Mod S a w.drew := ⟨h.os, h.tape, h.output, h.size, h.block⟩
theorem Mod.drewN (h : Mod S a w) (n : Nat) : Mod S a (w.drewN n) := ⟨h.os, h.tape, h.output, h.size, h.block⟩
theorem Mod.alloc (h : Mod S a w) (o : Obj) : Mod S a (w.alloc o) :=
  ⟨h.os, h.tape, h.output, Nat.le_trans h.size (by simp), fun i hi hn => (Below.heap_alloc w o i (Nat.lt_of_lt_of_le hi h.size)).trans (h.block i hi hn)⟩
theorem Mod.setCell (h : Mod S a w) {p : Addr} (hp : p.block ∈ S ∨ a.heap.size ≤ p.block) (u : Value) : Mod S a (w.setCell p u) :=
  ⟨h.os, h.tape, h.output, by simpa [World.setCell] using h.size, fun i hi hn => (Below.heap_setCell w p u i (by
    rintro rfl
    rcases hp with hp | hp
    · exact hn hp
    · omega)).trans (h.block i hi hn)⟩
theorem Yn (h : Below w.heap.size w w') (S : List Nat) : Mod S w w' := ⟨h.os, h.tape, h.output, h.size, fun i hi _ => h.block i hi⟩
theorem Mod.below {B : Nat} (h : Mod S w w') (hB : B ≤ w.heap.size) (hS : ∀ k ∈ S, B ≤ k) : Below B w w' :=
  ⟨h.os, h.tape, h.output, h.size, fun i hi => h.block i (by omega) (fun hm => by have := hS i hm; omega)⟩
theorem Fw {row : Option Nat} (h : w.grownBy w' row) (hr : ∀ k, row = some k → k ∈ S) : Mod S w w' :=
  ⟨h.os, h.tape, h.output, h.size, fun i hi hn => h.block i hi (fun e => hn (hr i e.symm))⟩
theorem Mod.cell (h : Mod S w w') {b o : Nat} (hb : b < w.heap.size) (hn : b ∉ S) : w'.cell? ⟨b, o, none⟩ = w.cell? ⟨b, o, none⟩ := World.cell?_of_block (h.block b hb hn)
theorem Rd.mod {A : Option Addr} {n c : Nat} {l : List UInt8} (h : Rd w A n c l) (hm : Mod S w w') (hS : ∀ b o, A = some ⟨b, o, none⟩ → b ∉ S) : Rd w' A n c l := by
  obtain ⟨h1, h2, h3, h4⟩ := h
  refine ⟨h1, h2, h3, fun hn => ?_⟩
  obtain ⟨b, off, hA, hb, hc⟩ := h4 hn
  exact ⟨b, off, hA, Nat.lt_of_lt_of_le hb hm.size, fun i hi => (hm.cell hb (hS _ _ hA)).trans (hc i hi)⟩
end
theorem Rd.take {w : World} {A : Option Addr} {n c k : Nat} {l : List UInt8} (h : Rd w A n c l) (hk : k ≤ n) : Rd w A k c (l.take k) := by
  obtain ⟨h1, h2, h3, h4⟩ := h
  refine ⟨by rw [List.length_take, h1]; omega, by omega, h3, fun hn => ?_⟩
  obtain ⟨b, off, rfl, hb, hc⟩ := h4 (by omega)
  refine ⟨b, off, rfl, hb, fun i hi => ?_⟩
  rw [hc i (by omega)]
  simp [List.getD, List.getElem?_take, hi]
end Go.Proofs.YtoflbpmbkmephaaGreatDoor
namespace Go.Proofs.YtoflbpmbkmephaaGreatDoor
abbrev Fr := Nat → Value
def upd (ρ : Fr) (d : Nat) (v : Value) : Fr := fun t => match Nat.beq t d with | true => v | false => ρ t
def Rr (ρ : Fr) (d : Option Nat) (v : Value) : Fr := match d with | some d => upd ρ d v | none => ρ
def opv (ρ : Fr) : Operand → Value
  | .tmp t => ρ t
  | .const v => v
  | .global g => .pointer (some ⟨g, 0, none⟩)
  | .func f => .func (.func f) #[] #[]
theorem Iw (ρ : Fr) (d : Nat) (v : Value) : upd ρ d v d = v := by simp [upd]
theorem Hd {ρ : Fr} {d t : Nat} {v : Value} (h : t ≠ d) : upd ρ d v t = ρ t := by
  unfold upd
  have : Nat.beq t d = false := by
    cases hb : Nat.beq t d with
    | false => rfl
    | true => exact absurd (Nat.eq_of_beq_eq_true hb) h
  rw [this]
theorem Iy {ρ : Fr} {d : Nat} {v : Value} (h : ρ d = v) : upd ρ d v = ρ := by
  funext t
  by_cases ht : t = d
  · subst ht; rw [Iw, h]
  · exact Hd ht
structure FA (n : Nat) (ρ : Fr) (a : Act) : Prop where
  defers : a.defers = []
  size : a.tmps.size = n
  get : ∀ t, a.tmps.getD t undef = ρ t
theorem FA.eval {n : Nat} {ρ : Fr} {a : Act} (h : FA n ρ a) : a.eval = opv ρ := by
  funext x
  cases x with
  | tmp t => exact h.get t
  | _ => rfl
theorem FA.put {n : Nat} {ρ : Fr} {a : Act} (h : FA n ρ a) {d : Nat} (hd : d < n) (v : Value) : FA n (upd ρ d v) (a.put (some d) v) := by
  refine ⟨h.defers, by simpa [Act.put] using h.size, fun t => ?_⟩
  have hs := h.size
  by_cases ht : t = d
  · subst ht
    rw [Iw]
    simp [Act.put, hs, hd]
  · rw [Hd ht, ← h.get t]
    simp [Act.put, Array.getElem?_setIfInBounds_ne (fun e => ht e.symm)]
def Uh (n : Nat) (d : Option Nat) : Bool := match d with | some d => Nat.blt d n | none => true
theorem FA.putO {n : Nat} {ρ : Fr} {a : Act} (h : FA n ρ a) {d : Option Nat} (hd : Uh n d = true) (v : Value) : FA n (Rr ρ d v) (a.put d v) := by
  cases d with
  | none => exact h
  | some d => exact h.put (by simp only [Uh] at hd; exact Nat.le_of_ble_eq_true hd) v
abbrev He := Exit → Fr → World → Prop
def Lc (n : Nat) (Q : He) : Exit → Act → World → Prop := fun e a w => ∃ ρ, FA n ρ a ∧ Q e ρ w
def W (P : Program) (n : Nat) (c : Code) (Q : He) (ρ : Fr) (w : World) : Prop := ∀ a, FA n ρ a → c.wp P (Lc n Q) a w
def Iz (K : Fr → World → Prop) (Q : He) : He
  | .normal, ρ, w => K ρ w
  | e, ρ, w => Q e ρ w
def Kb (id : Nat) (Q : He) : He
  | .exit k, ρ, w => match Nat.beq k id with | true => Q .normal ρ w | false => Q (.exit k) ρ w
  | e, ρ, w => Q e ρ w
section
variable {P : Program} {n : Nat} {Q : He} {ρ : Fr} {w : World}
theorem W.mono {c : Code} {Q' : He} (h : W P n c Q' ρ w) (hq : ∀ e ρ w, Q' e ρ w → Q e ρ w) : W P n c Q ρ w :=
  fun a ha => Code.wp_mono (fun e a' w' ⟨ρ', h1, h2⟩ => ⟨ρ', h1, hq _ _ _ h2⟩) (h a ha)
theorem W.seq {x y : Code} (h : W P n x (Iz (W P n y Q) Q) ρ w) : W P n (.seq x y) Q ρ w := by
  intro a ha
  refine wp_seq (Code.wp_mono ?_ (h a ha))
  rintro e a' w' ⟨ρ', ha', hq⟩
  cases e with
  | normal => exact hq a' ha'
  | _ => exact ⟨ρ', ha', hq⟩
theorem W.skip (h : Q .normal ρ w) : W P n .skip Q ρ w := fun _ ha => wp_skip ⟨ρ, ha, h⟩
theorem W.ret (h : Q .ret ρ w) : W P n .ret Q ρ w := fun _ ha => wp_ret ⟨ρ, ha, h⟩
theorem W.exit {id : Nat} (h : Q (.exit id) ρ w) : W P n (.exit id) Q ρ w := fun _ ha => wp_exit ⟨ρ, ha, h⟩
theorem W.block {id : Nat} {c : Code} (h : W P n c (Kb id Q) ρ w) : W P n (.block id c) Q ρ w := by
  intro a ha
  refine wp_block (Code.wp_mono ?_ (h a ha))
  rintro e a' w' ⟨ρ', ha', hq⟩
  cases e with
  | exit k =>
    by_cases hk : k = id
    · subst hk
      simp only [Exit.inBlock, if_true]
      simp only [Kb, Nat.beq_refl] at hq
      exact ⟨ρ', ha', hq⟩
    · simp only [Exit.inBlock, if_neg hk]
      have : Nat.beq k id = false := by
        cases hb : Nat.beq k id with
        | false => rfl
        | true => exact absurd (Nat.eq_of_beq_eq_true hb) hk
      simp only [Kb, this] at hq
      exact ⟨ρ', ha', hq⟩
  | _ => exact ⟨ρ', ha', hq⟩
theorem W.cond {c : Operand} {x y : Code} {b : Bool} (hc : opv ρ c = .bool b) (h1 : b = true → W P n x Q ρ w) (h2 : b = false → W P n y Q ρ w) : W P n (.cond c x y) Q ρ w := by
  intro a ha
  exact wp_cond_split (by rw [ha.eval]; exact hc) (fun h => h1 h a ha) (fun h => h2 h a ha)
theorem W.join {c : Code} (Mid : Fr → World → Prop) (h : W P n c (Iz Mid Q) ρ w) (hm : ∀ ρ w, Mid ρ w → Q .normal ρ w) : W P n c Q ρ w :=
  h.mono fun e ρ w hq => by cases e <;> first | exact hm _ _ hq | exact hq
theorem Kc {c : Code} {Q : Exit → Act → World → Prop} (I : Nat → Act → World → Prop)
    (round : ∀ f a w, I f a w → c.wp P (Exit.then (fun a' w' => ∃ f', f' < f ∧ I f' a' w') Q) a w) : ∀ (f : Nat) (a : Act) (w : World), I f a w → (Code.loop c).wp P Q a w := by
  intro f a w h₀ b k cs
  have key : ∀ f a w, I f a w → ∃ e a' w', Q e a' w' ∧ Arrives P (lone (b.at a (.code c :: .inLoop c :: k)) cs w) b k cs e a' w' := by
    intro f
    induction f using Nat.strongRecOn with
    | _ f ih =>
      intro a w hI
      obtain ⟨e, a₁, w₁, hq, harr⟩ := round f a w hI b (.inLoop c :: k) cs
      cases e with
      | normal =>
        obtain ⟨f', hlt, hI₁⟩ := hq
        obtain ⟨e₂, a₂, w₂, hq₂, harr₂⟩ := ih f' hlt a₁ w₁ hI₁
        exact ⟨e₂, a₂, w₂, hq₂, .of_steps (Steps.trans harr (.one step_inLoop)) harr₂⟩
      | exit id => exact ⟨_, a₁, w₁, hq, .pass (x := .inLoop c) rfl (fun _ _ => .inl (by simp)) harr⟩
      | goto l => exact ⟨_, a₁, w₁, hq, .pass (x := .inLoop c) rfl (fun _ _ => .inl (by simp)) harr⟩
      | ret => exact ⟨_, a₁, w₁, hq, .pass (x := .inLoop c) rfl (fun _ _ => .inl (by simp)) harr⟩
      | panic ch => exact ⟨_, a₁, w₁, hq, .pass (x := .inLoop c) rfl (fun _ _ => .inl (by simp)) harr⟩
      | outgrown => exact ⟨_, a₁, w₁, hq, .pass (x := .inLoop c) rfl (fun _ _ => .inl (by simp)) harr⟩
  obtain ⟨e, a', w', hq, harr⟩ := key f a w h₀
  exact ⟨e, a', w', hq, .of_steps (.one step_loop) harr⟩
theorem W.loop {c : Code} (I : Nat → Fr → World → Prop) (h0 : ∀ ρ w, ¬ I 0 ρ w) (hr : ∀ f ρ w, I (f + 1) ρ w → W P n c (Iz (I f) Q) ρ w) (f : Nat) (h : I f ρ w) : W P n (.loop c) Q ρ w := by
  intro a ha
  refine Kc (fun f a w => ∃ ρ, FA n ρ a ∧ I f ρ w) ?_ f a w ⟨ρ, ha, h⟩
  rintro f a w ⟨ρ, ha, hI⟩
  cases f with
  | zero => exact absurd hI (h0 _ _)
  | succ f =>
    refine Code.wp_mono ?_ (hr f ρ w hI a ha)
    rintro e a' w' ⟨ρ', ha', hq⟩
    cases e with
    | normal => exact ⟨f, Nat.lt_succ_self f, ρ', ha', hq⟩
    | _ => exact ⟨ρ', ha', hq⟩
end
def Qd : Code → List Bool → Code
  | c, [] => c
  | .seq a _, false :: p => Qd a p
  | .seq _ b, true :: p => Qd b p
  | .cond _ a _, false :: p => Qd a p
  | .cond _ _ b, true :: p => Qd b p
  | .block _ c, _ :: p => Qd c p
  | .loop c, _ :: p => Qd c p
  | .scope c, _ :: p => Qd c p
  | _, _ :: _ => .skip
theorem Ld (q : List Bool) : Qd .skip q = .skip := by
  cases q with
  | nil => rfl
  | cons b q => cases b <;> rfl
theorem Nl : ∀ (p : List Bool) (c : Code) (q : List Bool), Qd c (p ++ q) = Qd (Qd c p) q
  | [], c, q => by cases c <;> rfl
  | b :: p, c, q => by
    cases c <;> cases b <;> first
      | exact Nl p _ q
      | (simp only [List.cons_append, Qd]; exact (Ld q).symm)
def Ru : Code → Nat × Nat × Operand
  | .seq _ _ => (1, 0, .const undef)
  | .cond c _ _ => (2, 0, c)
  | .block id _ => (3, id, .const undef)
  | .loop _ => (4, 0, .const undef)
  | .region id _ d => (5, id, .const (.bool d))
  | .exit id => (6, id, .const undef)
  | .ret => (7, 0, .const undef)
  | .skip => (8, 0, .const undef)
  | .scope _ => (9, 0, .const undef)
  | _ => (0, 0, .const undef)
def Gs (k : Nat) (c : Code) : Bool := Nat.beq (Ru c).1 k
def Le (c : Code) : Nat := (Ru c).2.1
def L9 (c : Code) : Operand := (Ru c).2.2
def Qo : Code → Array Oper
  | .region _ ops _ => ops
  | _ => #[]
def C6 : Code → Bool
  | .region _ _ d => d
  | _ => true
section
variable {P : Program} {n : Nat} {Q : He} {ρ : Fr} {w : World} {B : Code} {p : List Bool}
theorem seq_of {c : Code} (h : Gs 1 c = true) : c = .seq (Qd c [false]) (Qd c [true]) := by
  cases c <;> first | exact absurd h (by decide) | (simp [Gs, Ru] at h; done) | skip
  rename_i a b
  show Code.seq a b = Code.seq (Qd a []) (Qd b [])
  cases a <;> cases b <;> rfl
theorem C7 (c : Code) : Qd c [] = c := by cases c <;> rfl
theorem cond_of {c : Code} (h : Gs 2 c = true) : c = .cond (L9 c) (Qd c [false]) (Qd c [true]) := by
  cases c <;> first | (simp [Gs, Ru] at h; done) | skip
  simp [L9, Ru, Qd, C7]
theorem block_of {c : Code} (h : Gs 3 c = true) : c = .block (Le c) (Qd c [false]) := by
  cases c <;> first | (simp [Gs, Ru] at h; done) | skip
  simp [Le, Ru, Qd, C7]
theorem loop_of {c : Code} (h : Gs 4 c = true) : c = .loop (Qd c [false]) := by
  cases c <;> first | (simp [Gs, Ru] at h; done) | skip
  simp [Qd, C7]
theorem Hf {c : Code} (h : Gs 5 c = true) : c = .region (Le c) (Qo c) (C6 c) := by
  cases c <;> first | (simp [Gs, Ru] at h; done) | skip
  rfl
theorem exit_of {c : Code} (h : Gs 6 c = true) : c = .exit (Le c) := by
  cases c <;> first | (simp [Gs, Ru] at h; done) | skip
  rfl
theorem ret_of {c : Code} (h : Gs 7 c = true) : c = .ret := by
  cases c <;> first | (simp [Gs, Ru] at h; done) | skip
  rfl
theorem skip_of {c : Code} (h : Gs 8 c = true) : c = .skip := by
  cases c <;> first | (simp [Gs, Ru] at h; done) | skip
  rfl
def At (P : Program) (n : Nat) (B : Code) (p : List Bool) (Q : He) (ρ : Fr) (w : World) : Prop := W P n (Qd B p) Q ρ w
theorem At.seq (h : Gs 1 (Qd B p) = true) {p0 p1 : List Bool} (e0 : p0 = p ++ [false]) (e1 : p1 = p ++ [true]) (k : At P n B p0 (Iz (At P n B p1 Q) Q) ρ w) : At P n B p Q ρ w := by
  subst e0 e1
  unfold At
  rw [seq_of h]
  refine W.seq ?_
  rw [← Nl, ← Nl]
  exact k
theorem At.cond (h : Gs 2 (Qd B p) = true) {o : Operand} (ho : L9 (Qd B p) = o) {b : Bool} (hb : opv ρ o = .bool b) {p0 p1 : List Bool} (e0 : p0 = p ++ [false]) (e1 : p1 = p ++ [true])
    (k0 : b = true → At P n B p0 Q ρ w) (k1 : b = false → At P n B p1 Q ρ w) : At P n B p Q ρ w := by
  subst e0 e1
  unfold At at *
  rw [cond_of h, ho]
  refine W.cond hb ?_ ?_
  · rw [← Nl]; exact k0
  · rw [← Nl]; exact k1
theorem At.block (h : Gs 3 (Qd B p) = true) {id : Nat} (hid : Le (Qd B p) = id) {p0 : List Bool} (e0 : p0 = p ++ [false]) (k : At P n B p0 (Kb id Q) ρ w) : At P n B p Q ρ w := by
  subst e0
  unfold At at *
  rw [block_of h, hid]
  refine W.block ?_
  rw [← Nl]
  exact k
theorem At.loop (h : Gs 4 (Qd B p) = true) {p0 : List Bool} (e0 : p0 = p ++ [false]) (I : Nat → Fr → World → Prop) (h0 : ∀ ρ w, ¬ I 0 ρ w)
    (hr : ∀ f ρ w, I (f + 1) ρ w → At P n B p0 (Iz (I f) Q) ρ w) (f : Nat) (k : I f ρ w) : At P n B p Q ρ w := by
  subst e0
  unfold At at *
  rw [loop_of h]
  refine W.loop I h0 ?_ f k
  rw [← Nl]
  exact hr
theorem At.exit (h : Gs 6 (Qd B p) = true) {id : Nat} (hid : Le (Qd B p) = id) (k : Q (.exit id) ρ w) : At P n B p Q ρ w := by
  unfold At
  rw [exit_of h, hid]
  exact W.exit k
theorem At.ret (h : Gs 7 (Qd B p) = true) (k : Q .ret ρ w) : At P n B p Q ρ w := by
  unfold At
  rw [ret_of h]
  exact W.ret k
theorem At.skip (h : Gs 8 (Qd B p) = true) (k : Q .normal ρ w) : At P n B p Q ρ w := by
  unfold At
  rw [skip_of h]
  exact W.skip k
theorem At.join (Mid : Fr → World → Prop) (h : At P n B p (Iz Mid Q) ρ w) (hm : ∀ ρ w, Mid ρ w → Q .normal ρ w) : At P n B p Q ρ w := W.join Mid h hm
theorem At.frame {ρ' : Fr} (h : ρ = ρ') (k : At P n B p Q ρ' w) : At P n B p Q ρ w := by subst h; exact k
def Dj (ops : Array Oper) (ρ : Fr) (o : Oper) : Bool :=
  match o.guard with
  | none => true
  | some (j, want) => match (ops[j]?).bind (·.dst) with
    | none => false
    | some d => match ρ d with
      | .bool b => match b, want with | true, true => true | false, false => true | _, _ => false
      | _ => false
theorem D8 {ops : Array Oper} {ρ : Fr} {a : Act} {n : Nat} (ha : FA n ρ a) (o : Oper) : Region.wanted o (yielded ops a.tmps) = Dj ops ρ o := by
  unfold Region.wanted Dj
  cases hg : o.guard with
  | none => rfl
  | some gw =>
    obtain ⟨j, want⟩ := gw
    simp only [yielded]
    cases hd : (ops[j]?).bind (·.dst) with
    | none => cases want <;> rfl
    | some d =>
      have hget := ha.get d
      simp only [Option.bind_some]
      cases hx : a.tmps[d]? with
      | none =>
        have : ρ d = undef := by rw [← hget]; simp [Array.getD_eq_getD_getElem?, hx]
        rw [this]
        cases want <;> rfl
      | some v =>
        have : ρ d = v := by rw [← hget]; simp [Array.getD_eq_getD_getElem?, hx]
        rw [this]
        cases v <;> cases want <;> first | rfl | (rename_i b; cases b <;> rfl)
def Rv (P : Program) (n : Nat) (ops : Array Oper) : List Oper → Fr → World → Option (Fr × World)
  | [], ρ, w => some (ρ, w)
  | o :: l, ρ, w =>
    match Uh n o.dst with
    | false => none
    | true =>
      match Dj ops ρ o with
      | false => Rv P n ops l (Rr ρ o.dst undef) w
      | true =>
        match (execOp (opv ρ) o).run P w with
        | .ok (.value v) w' => Rv P n ops l (Rr ρ o.dst v) w'
        | .ok .skip w' => Rv P n ops l (Rr ρ o.dst undef) w'
        | _ => none
def In (P : Program) (n : Nat) (B : Code) (p : List Bool) (k : Nat) (Q : He) (ρ : Fr) (w : World) : Prop :=
  ∀ a, FA n ρ a → wpList P (Qo (Qd B p)) (Lc n Q) ((Qo (Qd B p)).toList.drop k) a w
theorem At.region (h : Gs 5 (Qd B p) = true) (hd : C6 (Qd B p) = false) (k : In P n B p 0 Q ρ w) : At P n B p Q ρ w := by
  intro a ha
  have := Hf h
  rw [this, hd]
  exact wp_region_list (k a ha)
theorem In.fin {k : Nat} (hk : (Qo (Qd B p)).size = k) (h : Q .normal ρ w) : In P n B p k Q ρ w := by
  intro a ha
  rw [List.drop_of_length_le (by rw [Array.length_toList]; omega)]
  exact ⟨ρ, ha, h⟩
theorem R1 {ops : Array Oper} {rest : List Oper} : ∀ (l : List Oper) (ρ : Fr) (w : World) (ρ' : Fr) (w' : World), Rv P n ops l ρ w = some (ρ', w') →
    (∀ a, FA n ρ' a → wpList P ops (Lc n Q) rest a w') → ∀ a, FA n ρ a → wpList P ops (Lc n Q) (l ++ rest) a w
  | [], ρ, w, ρ', w', h, hk, a, ha => by
    simp only [Rv, Option.some.injEq, Prod.mk.injEq] at h
    obtain ⟨rfl, rfl⟩ := h
    exact hk a ha
  | o :: l, ρ, w, ρ', w', h, hk, a, ha => by
    simp only [Rv] at h
    cases hdst : Uh n o.dst with
    | false => rw [hdst] at h; cases h
    | true =>
      rw [hdst] at h
      simp only at h
      show wpList P ops (Lc n Q) (o :: (l ++ rest)) a w
      unfold wpList
      rw [D8 ha o]
      cases hw : Dj ops ρ o with
      | false =>
        rw [hw] at h
        simp only [Bool.false_eq_true, if_false]
        exact R1 l _ _ _ _ h hk _ (ha.putO hdst _)
      | true =>
        rw [hw] at h
        simp only at h
        simp only [if_true]
        refine .inl ?_
        unfold Oper.wp
        rw [ha.eval]
        cases hr : (execOp (opv ρ) o).run P w with
        | halt x w1 => rw [hr] at h; cases h
        | ok nx w1 =>
          rw [hr] at h
          cases nx <;> first | (cases h; done) | skip
          · exact R1 l _ _ _ _ h hk _ (ha.putO hdst _)
          · exact R1 l _ _ _ _ h hk _ (ha.putO hdst _)
theorem In.run {k k' : Nat} (m : Nat) (hk : k' = k + m) (ρ' : Fr) (h : Rv P n (Qo (Qd B p)) (((Qo (Qd B p)).toList.drop k).take m) ρ w = some (ρ', w))
    (next : In P n B p k' Q ρ' w) : In P n B p k Q ρ w := by
  subst hk
  intro a ha
  have hl : (Qo (Qd B p)).toList.drop k = ((Qo (Qd B p)).toList.drop k).take m ++ (Qo (Qd B p)).toList.drop (k + m) := by
    rw [← List.drop_drop, List.take_append_drop]
  rw [hl]
  exact R1 _ _ _ _ _ h next a ha
def B5 (c : Code) (k : Nat) (ρ : Fr) : Option (Op × Option Nat) :=
  match (Qo c)[k]? with
  | some o => match Dj (Qo c) ρ o with
    | true => some (o.op, o.dst)
    | false => none
  | none => none
theorem Ev {c : Code} {k : Nat} {ρ : Fr} {op : Op} {d : Option Nat} (h : B5 c k ρ = some (op, d)) : ∃ o, (Qo c)[k]? = some o ∧ o.op = op ∧ o.dst = d ∧ Dj (Qo c) ρ o = true := by
  unfold B5 at h
  cases ho : (Qo c)[k]? with
  | none => rw [ho] at h; cases h
  | some o =>
    rw [ho] at h
    simp only at h
    split at h
    · rename_i hg
      simp only [Option.some.injEq, Prod.mk.injEq] at h
      exact ⟨o, rfl, h.1, h.2, hg⟩
    · cases h
theorem Kd {ops : Array Oper} {k : Nat} {o : Oper} (h : ops[k]? = some o) : ops.toList.drop k = o :: ops.toList.drop (k + 1) := by
  obtain ⟨hk, hv⟩ := Array.getElem?_eq_some_iff.1 h
  rw [List.drop_eq_getElem_cons (by simpa using hk)]
  simp [hv]
def Qh (P : Program) (n : Nat) (B : Code) (p : List Bool) (k : Nat) (K : Fr → World → Prop) (ρ : Fr) (w : World) : Prop :=
  ∀ a, FA n ρ a → ∀ Q' : Exit → Act → World → Prop, wpOp P (Qo (Qd B p)) Q' k (fun a' w' => ∃ ρ', FA n ρ' a' ∧ K ρ' w') a w
theorem In.step {k k' : Nat} (hk : k' = k + 1) (hs : Nat.blt k (Qo (Qd B p)).size = true) (h : Qh P n B p k (In P n B p k' Q) ρ w) : In P n B p k Q ρ w := by
  subst hk
  intro a ha
  have hlt : k < (Qo (Qd B p)).size := Nat.le_of_ble_eq_true hs
  have ho : (Qo (Qd B p))[k]? = some (Qo (Qd B p))[k] := Array.getElem?_eq_getElem hlt
  have h1 := wpOp_mono (K' := fun a' w' => wpList P (Qo (Qd B p)) (Lc n Q) ((Qo (Qd B p)).toList.drop (k + 1)) a' w') (fun a' w' ⟨ρ', ha', hn⟩ => hn a' ha') (h a ha (Lc n Q))
  rw [Kd ho]
  unfold wpOp at h1
  rw [ho] at h1
  exact h1
section
variable {K : Fr → World → Prop}
theorem Qh.val {k : Nat} {op : Op} {d : Option Nat} (ho : B5 (Qd B p) k ρ = some (op, d)) (hd : Uh n d = true) {v : Value} {w' : World}
    (hrun : ∀ o : Oper, o.op = op → (execOp (opv ρ) o).run P w = .ok (.value v) w') (next : K (Rr ρ d v) w') : Qh P n B p k K ρ w := by
  intro a ha Q'
  obtain ⟨o, h1, h2, h3, h4⟩ := Ev ho
  unfold wpOp
  rw [h1]
  simp only [D8 ha o, h4, if_true]
  refine .inl ?_
  unfold Oper.wp
  rw [ha.eval, hrun o h2]
  refine ⟨_, ?_, next⟩
  rw [h3]
  exact ha.putO hd v
theorem I0 {k : Nat} {op : Op} {d : Option Nat} (ho : B5 (Qd B p) k ρ = some (op, d)) (hd : Uh n d = true) {w' : World}
    (hrun : ∀ o : Oper, o.op = op → (execOp (opv ρ) o).run P w = .ok .skip w') (next : K (Rr ρ d undef) w') : Qh P n B p k K ρ w := by
  intro a ha Q'
  obtain ⟨o, h1, h2, h3, h4⟩ := Ev ho
  unfold wpOp
  rw [h1]
  simp only [D8 ha o, h4, if_true]
  refine .inl ?_
  unfold Oper.wp
  rw [ha.eval, hrun o h2]
  refine ⟨_, ?_, next⟩
  rw [h3]
  exact ha.putO hd undef
theorem Qh.call {k : Nat} {op : Op} {d : Option Nat} (ho : B5 (Qd B p) k ρ = some (op, d)) (hd : Uh n d = true) {f : FuncId} {args : Array Value}
    (hrun : ∀ o : Oper, o.op = op → (execOp (opv ρ) o).run P w = .ok (.enter f args) w) {R : Ending → World → Prop} (hc : Calls P f args w R)
    (next : ∀ e w', R e w' → ∃ v, e = .returned v ∧ K (Rr ρ d v) w') : Qh P n B p k K ρ w := by
  intro a ha Q'
  obtain ⟨o, h1, h2, h3, h4⟩ := Ev ho
  unfold wpOp
  rw [h1]
  simp only [D8 ha o, h4, if_true]
  refine .inl ?_
  unfold Oper.wp
  rw [ha.eval, hrun o h2, Oper.upon_enter]
  refine hc.mono fun e w' hR => ?_
  obtain ⟨v, rfl, hn⟩ := next e w' hR
  refine ⟨_, ?_, hn⟩
  rw [h3]
  exact ha.putO hd v
theorem Ma {k : Nat} {d : Option Nat} (ho : (Qo (Qd B p))[k]?.map (fun o => (Dj (Qo (Qd B p)) ρ o, o.dst)) = some (false, d)) (hd : Uh n d = true) (next : K (Rr ρ d undef) w) : Qh P n B p k K ρ w := by
  intro a ha Q'
  cases hk : (Qo (Qd B p))[k]? with
  | none => rw [hk] at ho; cases ho
  | some o =>
    rw [hk] at ho
    simp only [Option.map_some, Option.some.injEq, Prod.mk.injEq] at ho
    unfold wpOp
    rw [hk]
    simp only [D8 ha o, ho.1, Bool.false_eq_true, if_false]
    refine ⟨_, ?_, next⟩
    rw [ho.2]
    exact ha.putO hd undef
end
end
def Ke (f : Func) : Code := f.body.getD .skip
def Da (fn : Func) (ρ : Fr) : Sem Value := do
  let vs ← fn.results.mapM fun
    | .tmp t => pure (ρ t)
    | .cell a t => do loadVar t (← asAddr (ρ a))
  pure (if h : vs.size = 1 then vs[0] else .tuple vs)
theorem Hg {fn : Func} {ρ : Fr} {a : Act} {n : Nat} (ha : FA n ρ a) : results fn a.tmps = Da fn ρ := by
  unfold results Da
  congr 1
  congr 1
  funext x
  cases x with
  | tmp t => simp only [ha.get t]
  | cell b t => simp only [ha.get b]
def retF (P : Program) (fn : Func) (R : Ending → World → Prop) : He
  | .normal, ρ, w | .ret, ρ, w => ∃ v, (Da fn ρ).run P w = .ok v w ∧ R (.returned v) w
  | _, _, _ => False
theorem Kf {P : Program} {f : FuncId} {fn : Func} {args : Array Value} {w : World} {R : Ending → World → Prop} {n : Nat} {ρ : Fr}
    (hf : P.funcs[f]? = some fn) (hb : fn.body.isSome = true) (hn : fn.ntmps = n) (hle : args.size ≤ n) (hρ : ∀ t, (args ++ Array.replicate (n - args.size) undef).getD t undef = ρ t)
    (h : At P n (Ke fn) [] (retF P fn R) ρ w) : Calls P f args w R := by
  obtain ⟨c, hc⟩ := Option.isSome_iff_exists.1 hb
  refine calls_of_wp hf hc ?_
  have hbody : Qd (Ke fn) [] = c := by rw [C7]; simp [Ke, hc]
  unfold At at h
  rw [hbody] at h
  have ha : FA n ρ { tmps := args ++ Array.replicate (fn.ntmps - args.size) undef, defers := [] } := by
    rw [hn]
    exact ⟨rfl, by simp; omega, hρ⟩
  refine Code.wp_mono ?_ (h _ ha)
  rintro e a' w' ⟨ρ', ha', hq⟩
  cases e with
  | normal =>
    obtain ⟨v, h1, h2⟩ := hq
    exact ⟨ha'.defers, v, by rw [Hg ha']; exact h1, h2⟩
  | ret =>
    obtain ⟨v, h1, h2⟩ := hq
    exact ⟨ha'.defers, v, by rw [Hg ha']; exact h1, h2⟩
  | _ => exact hq.elim
def Hh : List Value → Nat → Fr
  | [], _ => fun _ => undef
  | v :: l, i => upd (Hh l (i + 1)) i v
theorem If : ∀ (l : List Value) (i t : Nat), Hh l i t = if i ≤ t then l.getD (t - i) undef else undef
  | [], i, t => by simp [Hh]
  | v :: l, i, t => by
    unfold Hh
    by_cases ht : t = i
    · subst ht; rw [Iw]; simp
    · rw [Hd ht, If l (i + 1) t]
      by_cases hlt : i ≤ t
      · rw [if_pos (by omega), if_pos hlt, show t - i = (t - (i + 1)) + 1 by omega]
        rfl
      · rw [if_neg (by omega), if_neg hlt]
theorem Lf (l : List Value) (n : Nat) (h : l.length ≤ n) (t : Nat) : (l.toArray ++ Array.replicate (n - l.toArray.size) undef).getD t undef = Hh l 0 t := by
  rw [If, if_pos (Nat.zero_le _), Nat.sub_zero]
  simp only [Array.getD_eq_getD_getElem?, List.getD]
  by_cases ht : t < l.length
  · rw [Array.getElem?_append_left (by simpa using ht)]
    simp
  · rw [Array.getElem?_append_right (by simpa using ht), List.getElem?_eq_none (by omega)]
    simp only [Array.getElem?_replicate]
    split <;> rfl
theorem Lg {P : Program} {f : FuncId} {fn : Func} {l : List Value} {w : World} {R : Ending → World → Prop} {n : Nat}
    (hf : P.funcs[f]? = some fn) (hb : fn.body.isSome = true) (hn : fn.ntmps = n) (hle : Nat.ble l.length n = true)
    (h : At P n (Ke fn) [] (retF P fn R) (Hh l 0) w) : Calls P f l.toArray w R :=
  Kf hf hb hn (by simpa using Nat.le_of_ble_eq_true hle) (Lf l n (Nat.le_of_ble_eq_true hle)) h
theorem K {p : Prop} (h : p := by kernel_rfl) : p := h
abbrev pt (b o : Nat) : Value := .pointer (some ⟨b, o, none⟩)
section
variable {P : Program} {n : Nat} {B : Code} {q : List Bool} {Q : He} {ρ : Fr} {w : World}
theorem At.sq (h : Gs 1 (Qd B q.reverse) = true) (k : At P n B (false :: q).reverse (Iz (At P n B (true :: q).reverse Q) Q) ρ w) : At P n B q.reverse Q ρ w :=
  At.seq h List.reverse_cons List.reverse_cons k
theorem Vm (h : Gs 2 (Qd B q.reverse) = true) {o : Operand} (ho : L9 (Qd B q.reverse) = o) {b : Bool} (hb : opv ρ o = .bool b)
    (k0 : b = true → At P n B (false :: q).reverse Q ρ w) (k1 : b = false → At P n B (true :: q).reverse Q ρ w) : At P n B q.reverse Q ρ w :=
  At.cond h ho hb List.reverse_cons List.reverse_cons k0 k1
theorem J2 (h : Gs 3 (Qd B q.reverse) = true) {id : Nat} (hid : Le (Qd B q.reverse) = id) (k : At P n B (false :: q).reverse (Kb id Q) ρ w) : At P n B q.reverse Q ρ w :=
  At.block h hid List.reverse_cons k
theorem Du (h : Gs 4 (Qd B q.reverse) = true) (I : Nat → Fr → World → Prop) (h0 : ∀ ρ w, ¬ I 0 ρ w)
    (hr : ∀ f ρ w, I (f + 1) ρ w → At P n B (false :: q).reverse (Iz (I f) Q) ρ w) (f : Nat) (k : I f ρ w) : At P n B q.reverse Q ρ w :=
  At.loop h List.reverse_cons I h0 hr f k
theorem Ql {P : Program} {f : FuncId} {fn : Func} {l : List Value} {w : World} {R : Ending → World → Prop} {n : Nat}
    (hf : P.funcs[f]? = some fn) (hb : fn.body.isSome = true) (hn : fn.ntmps = n) (hle : Nat.ble l.length n = true)
    (h : At P n (Ke fn) (List.reverse []) (retF P fn R) (Hh l 0) w) : Calls P f l.toArray w R := Lg hf hb hn hle h
end
end Go.Proofs.YtoflbpmbkmephaaGreatDoor
namespace Go.Proofs.YtoflbpmbkmephaaGreatDoor
open Go.RowKit
section
variable {P : Program} (w : World)
theorem H8 (base : Nat) (t tx ty e : TypeId) (i : TypeInfo) (z : Value) (size bytes : Nat) (ht : P.underlying t = some (.slice e)) (hi : P.info? e = some i) (hz : i.zero = some z)
    (hsize : i.size = size) (hby : i.bytes = bytes) (hzs : z.cells.size = size) (hsz : 0 < size)
    (v : Value) (n : Nat) (xs : List Value) (hown : w.ownsRow base e size v n xs) (x : Value) (m : Nat) (news : List Value) (hs : Src P size tx x m news w)
    (h63 : n + m ≤ maxLen) (hbytes : (n + m) * bytes ≤ 140737488355328) (hbase : base ≤ w.heap.size) :
    ∃ v' w', (Builtin.append_ #[t, tx] ty #[v, x]).run P w = .ok v' w' ∧ w'.ownsRow base e size v' (n + m) (xs ++ news) ∧ w.grownBy w' v.ownBlock ∧
      (v'.ownBlock = v.ownBlock ∨ v'.ownBlock = some w.heap.size) := by
  subst hsize
  subst hby
  have hl := hs.newsLen
  have hsmall : n + m ≤ 9223372036854775807 := by simp only [maxLen] at h63; omega
  have hlen : (xs ++ news).length = (n + m) * i.size := by rw [List.length_append, hown.1, hl, Nat.add_mul]
  have grown : ∀ (old : Nat), old < n + m → ∀ (row : Option Nat),
      (w.drew.alloc (.cells ((xs ++ news).toArray ++ Builtin.zeroCells z.cells (grownCap w (n + m) old e - (n + m))) e)).ownsRow base e i.size
        (.slice (some ⟨w.heap.size, 0, none⟩) (n + m) (grownCap w (n + m) old e)) (n + m) (xs ++ news) ∧
      w.grownBy (w.drew.alloc (.cells ((xs ++ news).toArray ++ Builtin.zeroCells z.cells (grownCap w (n + m) old e - (n + m))) e)) row := by
    intro old ho row
    have hge := grownCap_ge w (n + m) old e
    have hcm : grownCap w (n + m) old e ≤ maxLen := grownCap_le_maxLen w (n + m) old e h63
    refine ⟨⟨hlen, .inr ⟨w.heap.size, _, _, rfl, hbase, heap_alloc_new w.drew _, hge, hcm, ?_, ?_⟩⟩, ⟨rfl, rfl, rfl, by simp, fun k hk _ => Below.heap_alloc w.drew _ k hk⟩⟩
    · rw [Array.size_append, List.size_toArray, size_zeroCells, hzs, hlen, ← Nat.add_mul]
      congr 1
      omega
    · rw [Array.toList_append, ← hlen]
      exact List.take_left
  rcases hown.2 with ⟨rfl, rfl⟩ | ⟨g, cap, cur, rfl, hbg, hg, hnc, hcm, hcs, htake⟩
  · have hx : xs = [] := List.eq_nil_of_length_eq_zero (by simpa using hown.1)
    subst hx
    by_cases hm : m = 0
    · subst hm
      have hn : news = [] := List.eq_nil_of_length_eq_zero (by simpa using hl)
      subst hn
      refine ⟨.slice none 0 0, w, ?_, World.ownsRow_nil w base e i.size, World.grownBy.refl w _, .inl rfl⟩
      have h1 := hs.len w
      have h2 := hs.cells
      rcases hs.kind with ⟨e', hk⟩ | hk <;> simp [Builtin.append_, run_underlying ht, run_underlying hk, sizeOf, typeInfo, hi, h1, h2, storeCells]
    · have hr := run_append_grow_src (P := P) w t tx ty e i z ht hi hz none 0 0 [] (by simpa using run_firstCells_none w.drew i.size 0 0 0) x m news hs (by omega) (by omega)
        (growslice_fits (by omega) (by simpa using hbytes))
      have hgr := grown 0 (by omega) (Value.ownBlock (.slice none 0 0))
      simp only [Nat.zero_add, List.nil_append] at hgr hr ⊢
      exact ⟨_, _, hr, hgr.1, hgr.2, .inr rfl⟩
  · by_cases hroom : n + m ≤ cap
    · have hfit : n * i.size + news.length ≤ cur.size := by rw [hl, hcs, ← Nat.add_mul]; exact Nat.mul_le_mul_right _ hroom
      have hst := run_storeCells_at P g (n * i.size) e news 0 cur w hg (by simpa using hfit) hs.one
      simp only [Nat.add_zero] at hst
      have h2 := hs.len
      have h3 := hs.cells
      have hr : (Builtin.append_ #[t, tx] ty #[.slice (some ⟨g, 0, none⟩) n cap, x]).run P w =
          .ok (.slice (some ⟨g, 0, none⟩) (n + m) cap) (w.setRow g (cur.toList.take (n * i.size) ++ news ++ cur.toList.drop (n * i.size + news.length)).toArray) := by
        rcases hs.kind with ⟨e', hk⟩ | hk <;> simp [Builtin.append_, run_underlying ht, run_underlying hk, sizeOf, typeInfo, hi, h2, hroom, h3, Addr.add_lit, hst]
      refine ⟨_, _, hr, ⟨hlen, .inr ⟨g, cap, _, rfl, hbg, setRow_heap w g cur _ e _ hg, hroom, hcm, ?_, ?_⟩⟩, ⟨rfl, rfl, rfl, by simp, fun k _ hk => setRow_other w g k _ (fun e => hk (by simp [Value.ownBlock, e]))⟩, .inl rfl⟩
      · simp only [List.size_toArray, List.length_append, List.length_take, List.length_drop, Array.length_toList]
        omega
      · rw [htake, ← hlen]
        exact List.take_left
    · have holds : ∀ j u, xs[j]? = some u → w.drew.cell? ((⟨g, 0, none⟩ : Addr).add j) = some u := hown.drew.cells (g := g) rfl
      have hr := run_append_grow_src (P := P) w t tx ty e i z ht hi hz (some ⟨g, 0, none⟩) n cap xs (run_firstCells_some w.drew i.size n ⟨g, 0, none⟩ n cap xs hown.1 holds) x m news hs (by omega) (by omega)
        (growslice_fits (by omega) hbytes)
      have hgr := grown cap (by omega) (Value.ownBlock (.slice (some ⟨g, 0, none⟩) n cap))
      exact ⟨_, _, hr, hgr.1, hgr.2, .inr rfl⟩
theorem Hi {T E S : TypeId} (hT : P.underlying T = some (.slice E)) (hE : P.underlying E = some (.int .u8)) (hS : P.underlying S = some .string) {w : World} {A : Option Addr} {n c : Nat} {l : List UInt8} (h : Rd w A n c l) :
    (convert T S (.slice A n c)).run P w = .ok (.string ⟨l.toArray⟩) w := by
  obtain ⟨h1, h2, h3, h4⟩ := h
  rcases Nat.eq_zero_or_pos n with h0 | h0
  · subst h0
    have : l = [] := List.eq_nil_of_length_eq_zero h1
    subst this
    cases A with
    | none => exact run_convert_bytes_nil w _ _ hT hE 0 c _ hS
    | some a =>
      rw [run_convert_bytes_string w _ _ _ _ _ _ hT hE hS, run_bytesToString w a 0 c [] (by simpa using run_loadCells_list (P := P) w a [] (by simp))]
      rfl
  · obtain ⟨b, off, rfl, hb, hc⟩ := h4 h0
    have := run_convert_bytes_arg (P := P) w T E hT hE b off n c (l.map fun c => (c.toNat : Int)) (by simpa using h1)
      (fun i hi => by
        rw [hc i hi]
        simp [List.getD, List.getElem?_map, List.getElem?_eq_getElem (show i < l.length by omega)]) S hS
    rw [this]
    simp [strOfNums, Function.comp_def]
end
end Go.Proofs.YtoflbpmbkmephaaGreatDoor
namespace Go.Proofs.YtoflbpmbkmephaaGreatDoor
open Go.RowKit
structure Ent where
  fp : List Nat
  ok : World → Prop
  loc : ∀ w w' : World, (∀ k ∈ fp, w'.heap[k]? = w.heap[k]?) → ok w → ok w'
def HL (S : List Nat) (B : Nat) (w : World) : List Ent → Prop
  | [] => True
  | e :: es => e.ok w ∧ (∀ k ∈ e.fp, (B ≤ k ∨ k ∈ S) ∧ k < w.heap.size ∧ ∀ e' ∈ es, k ∉ e'.fp) ∧ HL S B w es
section
variable {S : List Nat} {B : Nat} {w w' : World}
theorem HL.get : ∀ {es : List Ent} {i : Nat} {e : Ent}, HL S B w es → es[i]? = some e → e.ok w ∧ ∀ k ∈ e.fp, (B ≤ k ∨ k ∈ S) ∧ k < w.heap.size
  | [], i, e, _, h => by simp at h
  | x :: es, 0, e, h, hi => by
    simp at hi; subst hi
    exact ⟨h.1, fun k hk => ⟨(h.2.1 k hk).1, (h.2.1 k hk).2.1⟩⟩
  | x :: es, i + 1, e, h, hi => HL.get (es := es) h.2.2 (by simpa using hi)
theorem HL.mem : ∀ {es : List Ent} {e : Ent}, HL S B w es → e ∈ es → e.ok w ∧ ∀ k ∈ e.fp, (B ≤ k ∨ k ∈ S) ∧ k < w.heap.size := by
  intro es e h he
  obtain ⟨i, hi⟩ := List.mem_iff_getElem?.1 he
  exact h.get hi
theorem HL.keep : ∀ {es : List Ent}, HL S B w es → w.heap.size ≤ w'.heap.size → (∀ e ∈ es, ∀ k ∈ e.fp, w'.heap[k]? = w.heap[k]?) → HL S B w' es
  | [], _, _, _ => trivial
  | e :: es, h, hs, hk => ⟨e.loc w w' (hk e (by simp)) h.1, fun k hm => ⟨(h.2.1 k hm).1, Nat.lt_of_lt_of_le (h.2.1 k hm).2.1 hs, (h.2.1 k hm).2.2⟩, HL.keep h.2.2 hs fun e' he' => hk e' (List.mem_cons_of_mem _ he')⟩
theorem HL.below {es : List Ent} (h : HL S B w es) (hb : Below w.heap.size w w') : HL S B w' es :=
  h.keep hb.size fun e he k hk => hb.block k (h.mem he |>.2 k hk).2
theorem HL.append : ∀ {es fs : List Ent}, HL S B w es → HL S B w fs → (∀ e ∈ es, ∀ k ∈ e.fp, ∀ f ∈ fs, k ∉ f.fp) → HL S B w (es ++ fs)
  | [], fs, _, h, _ => h
  | e :: es, fs, h, hf, hd => ⟨h.1, fun k hk => ⟨(h.2.1 k hk).1, (h.2.1 k hk).2.1, fun e' he' => by
      rcases List.mem_append.1 he' with h1 | h1
      · exact (h.2.1 k hk).2.2 e' h1
      · exact hd e (by simp) k hk e' h1⟩, HL.append h.2.2 hf fun e' he' => hd e' (List.mem_cons_of_mem _ he')⟩
theorem HL.widen : ∀ {es : List Ent} {S' : List Nat} {B' : Nat}, HL S B w es → (∀ e ∈ es, ∀ k ∈ e.fp, (B ≤ k ∨ k ∈ S) → B' ≤ k ∨ k ∈ S') → HL S' B' w es
  | [], _, _, _, _ => trivial
  | e :: es, S', B', h, hw => ⟨h.1, fun k hk => ⟨hw e (by simp) k hk (h.2.1 k hk).1, (h.2.1 k hk).2⟩, HL.widen h.2.2 fun e' he' => hw e' (List.mem_cons_of_mem _ he')⟩
theorem HL.other : ∀ {es : List Ent} {i : Nat} {e : Ent}, HL S B w es → es[i]? = some e → ∀ e' ∈ es.eraseIdx i, ∀ k ∈ e.fp, k ∉ e'.fp
  | [], i, e, _, h => by simp at h
  | x :: es, 0, e, h, hi => by
    simp at hi; subst hi
    intro e' he' k hk
    exact (h.2.1 k hk).2.2 e' (by simpa using he')
  | x :: es, i + 1, e, h, hi => by
    intro e' he' k hk
    have hi' : es[i]? = some e := by simpa using hi
    simp only [List.eraseIdx_cons_succ, List.mem_cons] at he'
    rcases he' with rfl | he'
    · exact fun hk' => (h.2.1 k hk').2.2 e (List.mem_of_getElem? hi') hk
    · exact HL.other h.2.2 hi' e' he' k hk
theorem HL.set : ∀ {es : List Ent} {i : Nat} {e e' : Ent}, HL S B w es → es[i]? = some e → w.heap.size ≤ w'.heap.size → (∀ f ∈ es.eraseIdx i, ∀ k ∈ f.fp, w'.heap[k]? = w.heap[k]?) → e'.ok w' →
    (∀ k ∈ e'.fp, (k ∈ e.fp ∨ (w.heap.size ≤ k ∧ B ≤ k)) ∧ k < w'.heap.size) → HL S B w' (es.set i e')
  | [], i, e, e', _, h, _, _, _, _ => by simp at h
  | x :: es, 0, e, e', h, hi, hs, hk, hok, hfp => by
    simp at hi; subst hi
    refine ⟨hok, fun k hm => ?_, h.2.2.keep hs (by simpa using hk)⟩
    obtain ⟨h1, h2⟩ := hfp k hm
    rcases h1 with h1 | ⟨h1, h1'⟩
    · exact ⟨(h.2.1 k h1).1, h2, (h.2.1 k h1).2.2⟩
    · exact ⟨.inl h1', h2, fun f hf hkf => by have := (h.2.2.mem hf).2 k hkf; omega⟩
  | x :: es, i + 1, e, e', h, hi, hs, hk, hok, hfp => by
    have hi' : es[i]? = some e := by simpa using hi
    simp only [List.eraseIdx_cons_succ, List.mem_cons, forall_eq_or_imp] at hk
    refine ⟨x.loc w w' hk.1 h.1, fun k hm => ⟨(h.2.1 k hm).1, Nat.lt_of_lt_of_le (h.2.1 k hm).2.1 hs, fun f hf hkf => ?_⟩, HL.set h.2.2 hi' hs hk.2 hok hfp⟩
    rcases List.mem_or_eq_of_mem_set hf with hf | rfl
    · exact (h.2.1 k hm).2.2 f hf hkf
    · rcases (hfp k hkf).1 with h1 | ⟨h1, _⟩
      · exact (h.2.1 k hm).2.2 e (List.mem_of_getElem? hi') h1
      · have := (h.2.1 k hm).2.1; omega
end
structure SP (S : List Nat) (w0 w : World) (es : List Ent) : Prop where
  mod : Mod S w0 w
  own : HL S w0.heap.size w es
section
variable {S T : List Nat} {w0 w w' : World} {es : List Ent}
theorem Qy (S : List Nat) (w : World) : SP S w w [] := ⟨Mod.refl S w, trivial⟩
theorem SP.get {i : Nat} {e : Ent} (h : SP S w0 w es) (hi : es[i]? = some e) : e.ok w := (h.own.get hi).1
theorem SP.below (h : SP S w0 w es) (hb : Below w.heap.size w w') : SP S w0 w' es := ⟨h.mod.trans (Yn hb S), h.own.below hb⟩
theorem SP.drew (h : SP S w0 w es) : SP S w0 w.drew es := h.below ((Below.refl _ _).drew)
theorem SP.push {e : Ent} (h : SP S w0 w es) (hb : Below w.heap.size w w') (hok : e.ok w') (hfp : ∀ k ∈ e.fp, w.heap.size ≤ k ∧ k < w'.heap.size) : SP S w0 w' (es ++ [e]) := by
  have hs := h.mod.size
  refine ⟨h.mod.trans (Yn hb S), (h.own.below hb).append ⟨hok, fun k hk => ⟨.inl (by have := (hfp k hk).1; omega), (hfp k hk).2, by simp⟩, trivial⟩ ?_⟩
  intro f hf k hk f' hf' hk'
  simp at hf'
  subst hf'
  have h1 := (h.own.mem hf).2 k hk
  have h2 := hfp k hk'
  omega
theorem SP.set {i : Nat} {e e' : Ent} (h : SP S w0 w es) (hi : es[i]? = some e) {T : List Nat} (hm : Mod T w w') (hT : ∀ k ∈ T, k ∈ e.fp) (hok : e'.ok w')
    (hfp : ∀ k ∈ e'.fp, (k ∈ e.fp ∨ w.heap.size ≤ k) ∧ k < w'.heap.size) : SP S w0 w' (es.set i e') := by
  have hs := h.mod.size
  have he := h.own.get hi
  refine ⟨⟨hm.os.trans h.mod.os, hm.tape.trans h.mod.tape, hm.output.trans h.mod.output, Nat.le_trans h.mod.size hm.size, fun k hk hn => ?_⟩, h.own.set hi hm.size ?_ hok ?_⟩
  · refine (hm.block k (Nat.lt_of_lt_of_le hk hs) fun hkT => ?_).trans (h.mod.block k hk hn)
    rcases (he.2 k (hT k hkT)).1 with h1 | h1
    · omega
    · exact hn h1
  · intro f hf k hk
    refine hm.block k (h.own.mem (List.mem_of_mem_eraseIdx hf) |>.2 k hk).2 fun hkT => ?_
    exact h.own.other hi f hf k (hT k hkT) hk
  · intro k hk
    obtain ⟨h1, h2⟩ := hfp k hk
    exact ⟨h1.imp id fun h => ⟨h, by omega⟩, h2⟩
theorem SP.call {es' : List Ent} (h : SP S w0 w es) (hc : SP [] w w' es') : SP S w0 w' (es ++ es') := by
  have hs := h.mod.size
  have hb : Below w.heap.size w w' := hc.mod.below (Nat.le_refl _) (by simp)
  refine ⟨h.mod.trans (Yn hb S), (h.own.below hb).append (hc.own.widen fun e he k hk hor => ?_) ?_⟩
  · rcases hor with h1 | h1
    · exact .inl (by omega)
    · simp at h1
  · intro f hf k hk f' hf' hk'
    have h1 := (h.own.mem hf).2 k hk
    rcases ((hc.own.mem hf').2 k hk').1 with h2 | h2
    · omega
    · simp at h2
theorem SP.keeps (h : SP [] w0 w es) : Below w0.heap.size w0 w := h.mod.below (Nat.le_refl _) (by simp)
end
def Qk (g : Nat) (t : TypeId) (cs : Array Value) : Ent :=
  ⟨[g], fun w => w.heap[g]? = some (.cells cs t (0, 0)), fun w w' h hk => by rw [h g (by simp)]; exact hk⟩
def row (E : TypeId) (sz : Nat) (v : Value) (n : Nat) (xs : List Value) : Ent :=
  ⟨v.ownBlock.toList, fun w => w.ownsRow 0 E sz v n xs, fun w w' h hk => by
    refine ⟨hk.1, ?_⟩
    rcases hk.2 with h1 | ⟨g, cap, cur, rfl, hb, hg, r⟩
    · exact .inl h1
    · exact .inr ⟨g, cap, cur, rfl, hb, by rw [h g (by simp [Value.ownBlock])]; exact hg, r⟩⟩
def RdX (w : World) (A : Option Addr) (n c sz : Nat) (xs : List Value) : Prop :=
  xs.length = n * sz ∧ n ≤ c ∧ c ≤ maxLen ∧ (0 < n → ∃ b off, A = some ⟨b, off, none⟩ ∧ b < w.heap.size ∧ ∀ j u, xs[j]? = some u → w.cell? ⟨b, off + j, none⟩ = some u)
section
variable {S T : List Nat} {w0 w w' : World} {es : List Ent} {A : Option Addr} {n c sz : Nat} {xs : List Value}
theorem RdX.mod (h : RdX w A n c sz xs) (hm : Mod S w w') (hS : ∀ b o, A = some ⟨b, o, none⟩ → b ∉ S) : RdX w' A n c sz xs := by
  obtain ⟨h1, h2, h3, h4⟩ := h
  refine ⟨h1, h2, h3, fun hn => ?_⟩
  obtain ⟨b, off, hA, hb, hc⟩ := h4 hn
  exact ⟨b, off, hA, Nat.lt_of_lt_of_le hb hm.size, fun j u hu => (hm.cell hb (hS _ _ hA)).trans (hc j u hu)⟩
theorem RdX.below (h : RdX w A n c sz xs) (hb : Below w.heap.size w w') : RdX w' A n c sz xs := h.mod (Yn hb []) (by simp)
theorem RdX.sp (h : RdX w0 A n c sz xs) (hs : SP [] w0 w es) : RdX w A n c sz xs := h.below hs.keeps
theorem RdX.nil (w : World) (sz : Nat) : RdX w none 0 0 sz [] := ⟨by simp, Nat.le_refl _, Nat.zero_le _, fun h => absurd h (by omega)⟩
theorem RdX.len (h : RdX w A n c sz xs) : xs.length = n * sz := h.1
theorem RdX.le (h : RdX w A n c sz xs) : n ≤ c := h.2.1
theorem RdX.max (h : RdX w A n c sz xs) : n ≤ maxLen := Nat.le_trans h.2.1 h.2.2.1
theorem row_rdx {E : TypeId} {A : Option Addr} {n c : Nat} (h : (row E sz (.slice A n c) n xs).ok w) : RdX w A n c sz xs := by
  rcases h.2 with ⟨hv, hn⟩ | ⟨g, cap, cur, hv, hb, hh, hnc, hcm, hcs, ht⟩
  · injection hv with hA hn' hc
    subst hA hn' hc
    exact ⟨h.1, Nat.le_refl _, Nat.zero_le _, fun h => absurd h (by omega)⟩
  · injection hv with hA hn' hc
    subst hA hc
    refine ⟨h.1, hnc, hcm, fun _ => ⟨g, 0, rfl, (Array.getElem?_eq_some_iff.1 hh).1, fun j u hu => ?_⟩⟩
    rw [Nat.zero_add]
    obtain ⟨hj, _⟩ := List.getElem?_eq_some_iff.1 hu
    rw [World.ownsRow.cellAt (g := g) (cap := c) h j (by rw [← h.1]; exact hj)]
    exact hu
theorem RdX.part (h : RdX w A n c sz xs) {i j : Nat} (hij : i ≤ j) (hjn : j ≤ n) :
    RdX w (if c = i then A else A.map (·.add (i * sz))) (j - i) (c - i) sz ((xs.take (j * sz)).drop (i * sz)) := by
  obtain ⟨h1, h2, h3, h4⟩ := h
  have hjs : j * sz ≤ n * sz := Nat.mul_le_mul_right _ hjn
  have his : i * sz ≤ j * sz := Nat.mul_le_mul_right _ hij
  refine ⟨by rw [List.length_drop, List.length_take, h1, Nat.sub_mul]; omega, by omega, by omega, fun hn => ?_⟩
  obtain ⟨b, off, rfl, hb, hc⟩ := h4 (by omega)
  rw [if_neg (by omega)]
  refine ⟨b, off + i * sz, ?_, hb, fun k u hu => ?_⟩
  · have hadd : (⟨b, off, none⟩ : Addr).add (i * sz) = ⟨b, off + i * sz, none⟩ := by unfold Addr.add; split <;> simp_all
    simp [hadd]
  · rw [List.getElem?_drop] at hu
    have hlt : i * sz + k < j * sz := by
      have := (List.getElem?_eq_some_iff.1 hu).1
      rw [List.length_take] at this
      omega
    rw [List.getElem?_take, if_pos hlt] at hu
    rw [Nat.add_assoc]
    exact hc _ _ hu
theorem Hj (b off k : Nat) : (⟨b, off, none⟩ : Addr).add k = ⟨b, off + k, none⟩ := by unfold Addr.add; split <;> simp_all
def aggD : TypeDesc → Bool
  | .struct _ | .array _ _ => true
  | _ => false
def loadF (P : Program) (t : TypeId) (off : Nat) (cs : Array Value) : Option Value :=
  match P.underlying t with
  | none => none
  | some d => match aggD d with
    | true => match P.info? t with
      | some i => match Nat.ble (off + i.size) cs.size with
        | true => some (.agg ((cs.toList.drop off).take i.size).toArray)
        | false => none
      | none => none
    | false => cs.toList[off]?
theorem Ig {P : Program} {t : TypeId} {g off : Nat} {cs : Array Value} {v : Value} {e : TypeId} {fr : Nat × Nat} (hl : loadF P t off cs = some v) (hg : w.heap[g]? = some (.cells cs e fr)) :
    (loadVar t ⟨g, off, none⟩).run P w = .ok v w := by
  have hcell : ∀ o, w.cell? ⟨g, o, none⟩ = cs[o]? := fun o => cell_of_row w g o cs e fr hg
  unfold loadF at hl
  cases hu : P.underlying t with
  | none => rw [hu] at hl; cases hl
  | some d =>
    rw [hu] at hl
    simp only at hl
    have hagg : (isAgg t).run P w = .ok (aggD d) w := by
      simp only [isAgg, Sem.run_bind, run_underlying hu, Result.andThen_ok]
      cases d <;> rfl
    cases hd : aggD d with
    | true =>
      rw [hd] at hl hagg
      simp only at hl
      cases hi : P.info? t with
      | none => rw [hi] at hl; cases hl
      | some i =>
        rw [hi] at hl
        simp only at hl
        cases hb : Nat.ble (off + i.size) cs.size with
        | false => rw [hb] at hl; cases hl
        | true =>
          rw [hb] at hl
          simp only [Option.some.injEq] at hl
          have hle := Nat.le_of_ble_eq_true hb
          have hsz : (sizeOf t).run P w = .ok i.size w := by simp [sizeOf, typeInfo, hi]
          have hlen : ((cs.toList.drop off).take i.size).length = i.size := by simp; omega
          have hload := run_loadCells_list (P := P) w ⟨g, off, none⟩ ((cs.toList.drop off).take i.size) (fun j u hu => by
            rw [Hj, hcell]
            rw [List.getElem?_take] at hu
            split at hu
            · rw [List.getElem?_drop] at hu
              simpa using hu
            · cases hu)
          rw [hlen] at hload
          simp only [loadVar, Sem.run_bind, hagg, Result.andThen_ok, if_true, hsz, hload]
          rw [← hl]
          rfl
    | false =>
      rw [hd] at hl hagg
      simp only at hl
      simp only [loadVar, Sem.run_bind, hagg, Result.andThen_ok, Bool.false_eq_true, if_false]
      have : w.cell? ⟨g, off, none⟩ = some v := by rw [hcell]; simpa using hl
      simp [load, Sem.run, this]
def Kg : List Value → Bool
  | [] => true
  | .agg _ :: _ => false
  | .tuple _ :: _ => false
  | _ :: l => Kg l
theorem Hk : ∀ {l : List Value}, Kg l = true → ∀ v ∈ l, v.oneCell' = true
  | [], _, v, hv => by simp at hv
  | x :: l, h, v, hv => by
    rcases List.mem_cons.1 hv with rfl | hv
    · cases v <;> first | rfl | (simp [Kg] at h)
    · exact Hk (l := l) (by cases x <;> first | (exact h) | (simp [Kg] at h)) v hv
def storeF (P : Program) (t : TypeId) (off : Nat) (cs : Array Value) (v : Value) : Option (Array Value) :=
  match P.info? t with
  | none => none
  | some i => match Nat.beq v.cells.size i.size, Nat.ble (off + v.cells.size) cs.size, Kg v.cells.toList with
    | true, true, true => some (cs.toList.take off ++ v.cells.toList ++ cs.toList.drop (off + v.cells.toList.length)).toArray
    | _, _, _ => none
theorem Lh {P : Program} {t : TypeId} {g off : Nat} {cs cs' : Array Value} {v : Value} {e : TypeId} (hl : storeF P t off cs v = some cs') (hg : w.heap[g]? = some (.cells cs e (0, 0))) :
    (storeVar t ⟨g, off, none⟩ v).run P w = .ok () (w.setRow g cs') := by
  unfold storeF at hl
  cases hi : P.info? t with
  | none => rw [hi] at hl; cases hl
  | some i =>
    rw [hi] at hl
    simp only at hl
    split at hl
    · rename_i h1 h2 h3
      simp only [Option.some.injEq] at hl
      have h1 := Nat.eq_of_beq_eq_true h1
      have h2 := Nat.le_of_ble_eq_true h2
      have hsz : (sizeOf t).run P w = .ok i.size w := by simp [sizeOf, typeInfo, hi]
      have hst := run_storeCells_at P g off e v.cells.toList 0 cs w hg (by simp; omega) (Hk h3)
      simp only [Nat.add_zero] at hst
      simp only [storeVar, Sem.run_bind, hsz, Result.andThen_ok, h1, ne_eq, not_true_eq_false, if_false]
      rw [hst, hl]
    · cases hl
theorem Mod.setRow (w : World) (g : Nat) (cs : Array Value) : Mod [g] w (w.setRow g cs) :=
  ⟨rfl, rfl, rfl, by simp [World.setRow], fun k _ hk => setRow_other w g k cs (by simpa using hk)⟩
theorem SP.store {i g : Nat} {t : TypeId} {cs cs' : Array Value} (h : SP S w0 w es) (hi : es[i]? = some (Qk g t cs)) : SP S w0 (w.setRow g cs') (es.set i (Qk g t cs')) := by
  have hg : w.heap[g]? = some (.cells cs t (0, 0)) := h.get hi
  have hlt : g < w.heap.size := (Array.getElem?_eq_some_iff.1 hg).1
  refine h.set hi (Mod.setRow w g cs') (fun k hk => hk) (setRow_heap w g cs cs' t (0, 0) hg) fun k hk => ⟨.inl hk, ?_⟩
  have : k = g := by simpa [Qk] using hk
  subst this
  simpa [World.setRow] using hlt
theorem SP.alloc {t : TypeId} {cs : Array Value} (h : SP S w0 w es) : SP S w0 (w.alloc (.cells cs t)) (es ++ [Qk w.heap.size t cs]) :=
  h.push ((Below.refl _ _).alloc (Nat.le_refl _) _) (heap_alloc_new w _) fun k hk => by
    have : k = w.heap.size := by simpa [Qk] using hk
    subst this
    simp
end
end Go.Proofs.YtoflbpmbkmephaaGreatDoor
namespace Go.Proofs.YtoflbpmbkmephaaGreatDoor
open Go.RowKit
structure Enc (α : Type) where
  sz : Nat
  enc : α → List Value
  len : ∀ x, (enc x).length = sz
  one : ∀ x, ∀ v ∈ enc x, v.oneCell' = true
def eU8 : Enc UInt8 := ⟨1, fun c => [.int .u8 (c.toNat : Int)], fun _ => rfl, fun _ v hv => by simp at hv; subst hv; rfl⟩
def Jw (k : IntKind) : Enc Int := ⟨1, fun n => [.int k n], fun _ => rfl, fun _ v hv => by simp at hv; subst hv; rfl⟩
def Qm : Enc Bool := ⟨1, fun n => [.bool n], fun _ => rfl, fun _ v hv => by simp at hv; subst hv; rfl⟩
def Qn : Enc (List UInt8) := ⟨1, fun s => [.string ⟨s.toArray⟩], fun _ => rfl, fun _ v hv => by simp at hv; subst hv; rfl⟩
section
variable {α : Type}
def Vw (e : Enc α) (l : List α) : List Value := l.flatMap e.enc
theorem Ei (e : Enc α) (l m : List α) : Vw e (l ++ m) = Vw e l ++ Vw e m := by simp [Vw]
theorem Uo (e : Enc α) (x : α) (l : List α) : Vw e (x :: l) = e.enc x ++ Vw e l := by simp [Vw]
theorem Y2 (e : Enc α) : ∀ l : List α, (Vw e l).length = l.length * e.sz
  | [] => by simp [Vw]
  | x :: l => by rw [Uo, List.length_append, e.len, Y2 e l, List.length_cons, Nat.succ_mul]; omega
theorem Hl (e : Enc α) (l : List α) : ∀ v ∈ Vw e l, v.oneCell' = true := by
  intro v hv
  obtain ⟨x, _, hx⟩ := List.mem_flatMap.1 hv
  exact e.one x v hx
theorem Dv (e : Enc α) : ∀ (l : List α) (i : Nat), (Vw e l).drop (i * e.sz) = Vw e (l.drop i)
  | l, 0 => by simp
  | [], i + 1 => by simp [Vw]
  | x :: l, i + 1 => by
    rw [Uo, Nat.succ_mul, List.drop_succ_cons, ← Dv e l i, List.drop_append, List.drop_of_length_le (by rw [e.len]; omega), List.nil_append, e.len]
    congr 1
    omega
theorem Dw (e : Enc α) : ∀ (l : List α) (i : Nat), (Vw e l).take (i * e.sz) = Vw e (l.take i)
  | l, 0 => by simp [Vw]
  | [], i + 1 => by simp [Vw]
  | x :: l, i + 1 => by
    rw [Uo, Nat.succ_mul, List.take_succ_cons, Uo, ← Dw e l i, List.take_append, List.take_of_length_le (by rw [e.len]; omega), e.len]
    congr 2
    omega
theorem Bk (e : Enc α) {l : List α} {i : Nat} {x : α} (h : l[i]? = some x) {j : Nat} {u : Value} (hu : (e.enc x)[j]? = some u) : (Vw e l)[i * e.sz + j]? = some u := by
  have hd : (Vw e l).drop (i * e.sz) = Vw e (l.drop i) := Dv e l i
  rw [← List.getElem?_drop, hd]
  obtain ⟨hi, hx⟩ := List.getElem?_eq_some_iff.1 h
  rw [List.drop_eq_getElem_cons hi, hx, Uo, List.getElem?_append_left (List.getElem?_eq_some_iff.1 hu).1]
  exact hu
theorem Li (e : Enc α) : ∀ (l : List α) (i : Nat) (x : α), i < l.length → (Vw e l).take (i * e.sz) ++ e.enc x ++ (Vw e l).drop (i * e.sz + e.sz) = Vw e (l.set i x) := by
  intro l i x hi
  rw [Dw, show i * e.sz + e.sz = (i + 1) * e.sz by rw [Nat.succ_mul], Dv, List.set_eq_take_append_cons_drop, if_pos hi, Ei, Uo, List.append_assoc]
def RdT (e : Enc α) (w : World) (A : Option Addr) (c : Nat) (l : List α) : Prop := RdX w A l.length c e.sz (Vw e l)
def Vu (E : TypeId) (e : Enc α) (A : Option Addr) (c : Nat) (l : List α) : Ent := row E e.sz (.slice A l.length c) l.length (Vw e l)
def rdE (e : Enc α) (A : Option Addr) (c : Nat) (l : List α) : Ent :=
  ⟨(match A with | some a => [a.block] | none => []), fun w => RdT e w A c l, fun w w' h hk => by
    obtain ⟨h1, h2, h3, h4⟩ := hk
    refine ⟨h1, h2, h3, fun hn => ?_⟩
    obtain ⟨b, off, hA, hb, hc⟩ := h4 hn
    subst hA
    have hb' := h b (by simp)
    refine ⟨b, off, rfl, ?_, fun j u hu => ?_⟩
    · have : w.heap[b]? = some w.heap[b] := Array.getElem?_eq_getElem hb
      rw [this] at hb'
      exact (Array.getElem?_eq_some_iff.1 hb').1
    · rw [← hc j u hu]; exact World.cell?_of_block hb'⟩
variable {e : Enc α} {w w' w0 : World} {A : Option Addr} {c : Nat} {l : List α} {E : TypeId} {es : List Ent} {S : List Nat}
theorem Q9 (h : (Vu E e A c l).ok w) : RdT e w A c l := row_rdx h
theorem Hm (h : (rdE e A c l).ok w) : RdT e w A c l := h
theorem RdT.sp (h : RdT e w0 A c l) (hs : SP [] w0 w es) : RdT e w A c l := RdX.sp h hs
theorem RdT.mod (h : RdT e w A c l) (hm : Mod S w w') (hS : ∀ b o, A = some ⟨b, o, none⟩ → b ∉ S) : RdT e w' A c l := RdX.mod h hm hS
theorem RdT.below (h : RdT e w A c l) (hb : Below w.heap.size w w') : RdT e w' A c l := RdX.below h hb
theorem RdT.nil (e : Enc α) (w : World) : RdT e w none 0 [] := RdX.nil w e.sz
theorem RdT.max (h : RdT e w A c l) : l.length ≤ maxLen := RdX.max h
def H9 (sz c i : Nat) (A : Option Addr) : Option Addr := if c = i then A else A.map (·.add (i * sz))
theorem RdT.part (h : RdT e w A c l) {i j : Nat} (hij : i ≤ j) (hjn : j ≤ l.length) : RdT e w (H9 e.sz c i A) (c - i) ((l.take j).drop i) := by
  have := RdX.part h hij hjn
  rw [Dw, Dv] at this
  have hl : ((l.take j).drop i).length = j - i := by simp; omega
  unfold RdT
  rw [hl]
  exact this
theorem X6 (h : SP S w0 w es) (E : TypeId) (e : Enc α) : SP S w0 w (es ++ [Vu E e none 0 []]) :=
  h.push (Below.refl _ _) (World.ownsRow_nil w 0 E e.sz) (by simp [Vu, row, Value.ownBlock])
end
theorem rd_bytes {w : World} {A : Option Addr} {c : Nat} {l : List UInt8} (h : RdT eU8 w A c l) : Rd w A l.length c l := by
  obtain ⟨h1, h2, h3, h4⟩ := h
  refine ⟨rfl, h2, h3, fun hn => ?_⟩
  obtain ⟨b, off, hA, hb, hc⟩ := h4 hn
  refine ⟨b, off, hA, hb, fun i hi => ?_⟩
  have := Bk eU8 (l := l) (i := i) (x := l[i]) (List.getElem?_eq_getElem hi) (j := 0) (u := .int .u8 (l[i].toNat : Int)) rfl
  have := hc _ _ this
  simp only [eU8, Nat.mul_one, Nat.add_zero] at this
  rw [this]
  simp [List.getD, List.getElem?_eq_getElem hi]
def idx {α : Type} (l : List α) (i : Int) : Option α := if 0 ≤ i then l[i.toNat]? else none
def sub {α : Type} (l : List α) (i j : Int) : Option (List α) := if 0 ≤ i ∧ i ≤ j ∧ j ≤ (l.length : Int) then some ((l.take j.toNat).drop i.toNat) else none
def app {α : Type} (l m : List α) : Option (List α) := if l.length + m.length ≤ 2147483648 then some (l ++ m) else none
def chk (b : Bool) : Option Unit := match b with | true => some () | false => none
section
variable {α β : Type}
theorem Qa {o : Option α} {K : α → Option β} {r : β} (h : o.bind K = some r) : ∃ x, o = some x ∧ K x = some r := by
  cases o with
  | none => cases h
  | some x => exact ⟨x, rfl, h⟩
theorem Vf {l : List α} {i : Int} {K : α → Option β} {r : β} (h : (idx l i).bind K = some r) : ∃ x, 0 ≤ i ∧ i < (l.length : Int) ∧ l[i.toNat]? = some x ∧ K x = some r := by
  obtain ⟨x, h1, h2⟩ := Qa h
  unfold idx at h1
  split at h1
  · obtain ⟨h3, _⟩ := List.getElem?_eq_some_iff.1 h1
    exact ⟨x, ‹_›, by omega, h1, h2⟩
  · cases h1
theorem Nm {l : List α} {i j : Int} {K : List α → Option β} {r : β} (h : (sub l i j).bind K = some r) : 0 ≤ i ∧ i ≤ j ∧ j ≤ (l.length : Int) ∧ K ((l.take j.toNat).drop i.toNat) = some r := by
  obtain ⟨x, h1, h2⟩ := Qa h
  unfold sub at h1
  split at h1
  · rename_i hc
    injection h1 with h1
    subst h1
    exact ⟨hc.1, hc.2.1, hc.2.2, h2⟩
  · cases h1
theorem Vb {l m : List α} {K : List α → Option β} {r : β} (h : (app l m).bind K = some r) : l.length + m.length ≤ 2147483648 ∧ K (l ++ m) = some r := by
  obtain ⟨x, h1, h2⟩ := Qa h
  unfold app at h1
  split at h1
  · injection h1 with h1; subst h1; exact ⟨‹_›, h2⟩
  · cases h1
theorem Dx {b : Bool} {K : Unit → Option β} {r : β} (h : (chk b).bind K = some r) : b = true ∧ K () = some r := by
  obtain ⟨x, h1, h2⟩ := Qa h
  unfold chk at h1
  cases b
  · cases h1
  · exact ⟨rfl, h2⟩
end
section
variable {P : Program} {n : Nat} {Q : He} {ρ : Fr} {w w0 : World} {B : Code} {p : List Bool} {k : Nat} {d : Option Nat} {S : List Nat} {es : List Ent} {K : Fr → World → Prop}
theorem Yi {t : TypeId} {x : Operand} {v : Value} (ho : B5 (Qd B p) k ρ = some (.box t x, d)) (hd : Uh n d = true) (hv : opv ρ x = v) (hs : SP S w0 w es)
    (next : ∀ (g : Nat) (w' : World), SP S w0 w' (es ++ [Qk g t v.cells]) → K (Rr ρ d (.pointer (some ⟨g, 0, none⟩))) w') : Qh P n B p k K ρ w := by
  subst hv
  refine Qh.val ho hd (v := .pointer (some ⟨w.heap.size, 0, none⟩)) (w' := w.alloc (.cells (opv ρ x).cells t)) (fun o hop => ?_) (next _ _ hs.alloc)
  unfold execOp; rw [hop]; rfl
theorem Qh.alloc {t : TypeId} {z : Value} (ho : B5 (Qd B p) k ρ = some (.alloc t, d)) (hd : Uh n d = true) (hz : (P.info? t).bind (·.zero) = some z) (hs : SP S w0 w es)
    (next : ∀ (g : Nat) (w' : World), SP S w0 w' (es ++ [Qk g t z.cells]) → K (Rr ρ d (.pointer (some ⟨g, 0, none⟩))) w') : Qh P n B p k K ρ w := by
  refine Qh.val ho hd (v := .pointer (some ⟨w.heap.size, 0, none⟩)) (w' := w.alloc (.cells z.cells t)) (fun o hop => ?_) (next _ _ hs.alloc)
  unfold execOp; rw [hop]
  cases hi : P.info? t with
  | none => rw [hi] at hz; cases hz
  | some i =>
    rw [hi] at hz
    have hz : i.zero = some z := hz
    have hzv : (zeroValue t).run P w = .ok z w := by simp [zeroValue, typeInfo, hi, hz]
    simp only [Instr.alloc, Sem.run_bind, hzv, Result.andThen_ok]
    rfl
theorem Qh.load {t t' : TypeId} {x : Operand} {g off i : Nat} {cs : Array Value} {v : Value} (ho : B5 (Qd B p) k ρ = some (.load t x, d)) (hd : Uh n d = true)
    (hv : opv ρ x = .pointer (some ⟨g, off, none⟩)) (hs : SP S w0 w es) (hi : es[i]? = some (Qk g t' cs)) (hl : loadF P t off cs = some v)
    (next : K (Rr ρ d v) w) : Qh P n B p k K ρ w := by
  refine Qh.val ho hd (fun o hop => ?_) next
  have hg : w.heap[g]? = some (.cells cs t' (0, 0)) := hs.get hi
  have := Ig (w := w) hl hg
  unfold execOp; rw [hop]
  simp only [hv, Instr.loadAt, Instr.sureAddr, Sem.run_bind, Sem.run_pure, Result.andThen_ok, this]
theorem Qh.store {t t' : TypeId} {x y : Operand} {g off i : Nat} {cs cs' : Array Value} {v : Value} (ho : B5 (Qd B p) k ρ = some (.store t x y, d)) (hd : Uh n d = true)
    (hx : opv ρ x = .pointer (some ⟨g, off, none⟩)) (hy : opv ρ y = v) (hs : SP S w0 w es) (hi : es[i]? = some (Qk g t' cs)) (hl : storeF P t off cs v = some cs')
    (next : ∀ w' : World, SP S w0 w' (es.set i (Qk g t' cs')) → K (Rr ρ d undef) w') : Qh P n B p k K ρ w := by
  subst hy
  have hg : w.heap[g]? = some (.cells cs t' (0, 0)) := hs.get hi
  refine I0 ho hd (w' := w.setRow g cs') (fun o hop => ?_) (next _ (hs.store hi))
  have := Lh (w := w) hl hg
  unfold execOp; rw [hop]
  simp only [hx, Instr.storeAt, Instr.sureAddr, Sem.run_bind, Sem.run_pure, Result.andThen_ok, this]
variable {α : Type} {e : Enc α} {A : Option Addr} {c : Nat} {l : List α}
theorem Lj {T E : TypeId} {sz m c : Nat} {ki : IntKind} {iz : Int} {b off : Nat} (hT : P.underlying T = some (.slice E)) (hE : (P.info? E).map (·.size) = some sz) (h0 : 0 ≤ iz) (h1 : iz < (m : Int)) (w : World) :
    (Instr.indexAt T (.slice (some ⟨b, off, none⟩) m c) (.int ki iz)).run P w = .ok (.pointer (some ⟨b, off + iz.toNat * sz, none⟩)) w := by
  cases hi : P.info? E with
  | none => rw [hi] at hE; cases hE
  | some i =>
    rw [hi] at hE
    have hE : i.size = sz := by simpa using hE
    have hsz : (sizeOf E).run P w = .ok sz w := by simp [sizeOf, typeInfo, hi, hE]
    simp only [Instr.indexAt, asIntOf, Sem.run_bind, Sem.run_pure, Result.andThen_ok, run_underlying hT]
    simp [h0, h1, hsz, Hj]
theorem Z6 {T E : TypeId} {x ix : Operand} {ki : IntKind} {iz : Int} (ho : B5 (Qd B p) k ρ = some (.indexAddr T x ix, d)) (hd : Uh n d = true)
    (hx : opv ρ x = .slice A l.length c) (hix : opv ρ ix = .int ki iz) (hT : P.underlying T = some (.slice E)) (hE : (P.info? E).map (·.size) = some e.sz) (hr : RdT e w A c l) (h0 : 0 ≤ iz) (h1 : iz < (l.length : Int))
    (next : ∀ b off : Nat, A = some ⟨b, off, none⟩ → b < w.heap.size → (∀ j u, (Vw e l)[j]? = some u → w.cell? ⟨b, off + j, none⟩ = some u) → K (Rr ρ d (.pointer (some ⟨b, off + iz.toNat * e.sz, none⟩))) w) :
    Qh P n B p k K ρ w := by
  obtain ⟨_, _, _, h4⟩ := hr
  obtain ⟨b, off, hA, hb, hc⟩ := h4 (by omega)
  refine Qh.val ho hd (fun o hop => ?_) (next b off hA hb hc)
  subst hA
  unfold execOp; rw [hop]
  simp only [hx, hix, Sem.run_bind, Lj hT hE h0 h1, Result.andThen_ok]
  rfl
theorem Qh.cell {t : TypeId} {x : Operand} {b off : Nat} {v : Value} (ho : B5 (Qd B p) k ρ = some (.load t x, d)) (hd : Uh n d = true)
    (hx : opv ρ x = .pointer (some ⟨b, off, none⟩)) (ht : (P.underlying t).map aggD = some false) (hc : w.cell? ⟨b, off, none⟩ = some v)
    (next : K (Rr ρ d v) w) : Qh P n B p k K ρ w := by
  refine Qh.val ho hd (fun o hop => ?_) next
  cases hu : P.underlying t with
  | none => rw [hu] at ht; cases ht
  | some dd =>
    rw [hu] at ht
    have ht : aggD dd = false := by simpa using ht
    have hagg : (isAgg t).run P w = .ok false w := by
      rw [← ht]
      simp only [isAgg, Sem.run_bind, run_underlying hu, Result.andThen_ok]
      cases dd <;> rfl
    unfold execOp; rw [hop]
    simp only [hx, Instr.loadAt, Instr.sureAddr, Sem.run_bind, Sem.run_pure, Result.andThen_ok, loadVar, hagg, Bool.false_eq_true, if_false]
    simp [Go.load, Sem.run, hc]
theorem Qh.cells {t : TypeId} {x : Operand} {b off : Nat} {xs : List Value} (ho : B5 (Qd B p) k ρ = some (.load t x, d)) (hd : Uh n d = true)
    (hx : opv ρ x = .pointer (some ⟨b, off, none⟩)) (ht : (P.underlying t).map aggD = some true) (hz : (P.info? t).map (·.size) = some xs.length) (hc : ∀ j u, xs[j]? = some u → w.cell? ⟨b, off + j, none⟩ = some u)
    (next : K (Rr ρ d (.agg xs.toArray)) w) : Qh P n B p k K ρ w := by
  refine Qh.val ho hd (fun o hop => ?_) next
  cases hu : P.underlying t with
  | none => rw [hu] at ht; cases ht
  | some dd =>
    rw [hu] at ht
    have ht : aggD dd = true := by simpa using ht
    have hagg : (isAgg t).run P w = .ok true w := by
      rw [← ht]
      simp only [isAgg, Sem.run_bind, run_underlying hu, Result.andThen_ok]
      cases dd <;> rfl
    cases hi : P.info? t with
    | none => rw [hi] at hz; cases hz
    | some i =>
      rw [hi] at hz
      have hz : i.size = xs.length := by simpa using hz
      have hsz : (sizeOf t).run P w = .ok xs.length w := by simp [sizeOf, typeInfo, hi, hz]
      have hload := run_loadCells_list (P := P) w ⟨b, off, none⟩ xs (fun j u hu => by rw [Hj]; exact hc j u hu)
      unfold execOp; rw [hop]
      simp only [hx, Instr.loadAt, Instr.sureAddr, Sem.run_bind, Sem.run_pure, Result.andThen_ok, loadVar, hagg, if_true, hsz, hload]
theorem J3 {x : α} {b off j : Nat} {iz : Int} {u : Value} {w : World} (hc : ∀ j u, (Vw e l)[j]? = some u → w.cell? ⟨b, off + j, none⟩ = some u) (hx : l[iz.toNat]? = some x) (hu : (e.enc x)[j]? = some u) :
    w.cell? ⟨b, off + iz.toNat * e.sz + j, none⟩ = some u := by
  rw [Nat.add_assoc]
  exact hc _ _ (Bk e hx hu)
theorem Mw (l : List UInt8) : (⟨l.toArray⟩ : ByteArray).toList = l := by rw [ByteArray.toList_eq]
theorem Rc (l : List UInt8) : (⟨l.toArray⟩ : ByteArray).size = l.length := by simp [ByteArray.size]
theorem Mx (l m : List UInt8) : (⟨l.toArray⟩ : ByteArray) ++ ⟨m.toArray⟩ = ⟨(l ++ m).toArray⟩ := by
  apply ByteArray.ext
  rw [ByteArray.data_append]
  simp
theorem Eo (l : List UInt8) (i j : Nat) (h : j ≤ l.length) : (⟨l.toArray⟩ : ByteArray).extract i j = ⟨((l.take j).drop i).toArray⟩ := by
  apply ByteArray.ext
  rw [ByteArray.data_extract]
  apply Array.ext'
  simp [List.extract_eq_take_drop, List.drop_take]
theorem Qu {op : BinOp} {T T' : TypeId} {x y : Operand} {a b : List UInt8} {r : Value} (ho : B5 (Qd B p) k ρ = some (.binOp op T x y T', d)) (hd : Uh n d = true)
    (hx : opv ρ x = .string ⟨a.toArray⟩) (hy : opv ρ y = .string ⟨b.toArray⟩) (hr : (match op with
      | .eql => some (Value.bool (a == b)) | .neq => some (.bool !(a == b)) | .lss => some (.bool (Op.bytesLess a b)) | .leq => some (.bool (Op.bytesLess a b || a == b))
      | .gtr => some (.bool !(Op.bytesLess a b || a == b)) | .geq => some (.bool !(Op.bytesLess a b)) | _ => none) = some r)
    (next : K (Rr ρ d r) w) : Qh P n B p k K ρ w := by
  refine Qh.val ho hd (fun o hop => ?_) next
  unfold execOp; rw [hop]
  simp only [hx, hy]
  cases op <;> first | (cases hr; done) | skip
  all_goals
    injection hr with hr
    subst hr
    simp [eqGuard, Go.binOp, Op.stringOp, Mw]
theorem Qi {T T' : TypeId} {x y : Operand} {a b : List UInt8} (ho : B5 (Qd B p) k ρ = some (.binOp .add T x y T', d)) (hd : Uh n d = true)
    (hx : opv ρ x = .string ⟨a.toArray⟩) (hy : opv ρ y = .string ⟨b.toArray⟩) (hl : a.length + b.length ≤ 2147483648)
    (next : K (Rr ρ d (.string ⟨(a ++ b).toArray⟩)) w) : Qh P n B p k K ρ w := by
  refine Qh.val ho hd (fun o hop => ?_) next
  have hmax : ¬ (((⟨a.toArray⟩ : ByteArray).size + (⟨b.toArray⟩ : ByteArray).size : Nat) : Int) > IntKind.i64.max := by
    rw [Rc, Rc]
    have : IntKind.i64.max = 9223372036854775807 := by decide
    rw [this]; omega
  unfold execOp; rw [hop]
  simp only [hx, hy]
  simp only [eqGuard, Go.binOp, Op.stringOp, hmax, if_false, Mx]
  rfl
theorem Zd {T : TypeId} {x ix : Operand} {ki : IntKind} {iz : Int} {a : List UInt8} {u : UInt8} (ho : B5 (Qd B p) k ρ = some (.index T x ix, d)) (hd : Uh n d = true)
    (hT : P.underlying T = some .string) (hx : opv ρ x = .string ⟨a.toArray⟩) (hix : opv ρ ix = .int ki iz) (h0 : 0 ≤ iz) (hu : a[iz.toNat]? = some u)
    (next : K (Rr ρ d (.int .u8 (u.toNat : Int))) w) : Qh P n B p k K ρ w := by
  refine Qh.val ho hd (fun o hop => ?_) next
  unfold execOp; rw [hop]
  have hg : (⟨a.toArray⟩ : ByteArray)[iz.toNat]? = some u := by
    obtain ⟨h1, h2⟩ := List.getElem?_eq_some_iff.1 hu
    have h1' : iz.toNat < (⟨a.toArray⟩ : ByteArray).size := by rw [Rc]; exact h1
    rw [getElem?_pos (⟨a.toArray⟩ : ByteArray) iz.toNat h1', ← h2]
    rfl
  simp only [hx, hix, Instr.index, asIntOf, Sem.run_bind, Sem.run_pure, Result.andThen_ok, run_underlying hT]
  simp [h0, hg]
theorem Ih {isS : Bool} {m cap : Nat} {lo hi : Option Value} {i j : Nat} (hlo : lo = none ∧ i = 0 ∨ ∃ kk, lo = some (.int kk (i : Int))) (hhi : hi = none ∧ j = m ∨ ∃ kk, hi = some (.int kk (j : Int))) (hij : i ≤ j) (hj : j ≤ m) (hm : m ≤ cap) (w : World) :
    (Instr.sliceBounds isS m cap lo hi none).run P w = .ok (i, j, cap) w := by
  have hj' : j ≤ cap := Nat.le_trans hj hm
  rcases hlo with ⟨rfl, rfl⟩ | ⟨kl, rfl⟩ <;> rcases hhi with ⟨rfl, rfl⟩ | ⟨kh, rfl⟩
  all_goals simp [Instr.sliceBounds, Instr.sliceBound, asIntOf, hij, hj']
def Ii (ρ : Fr) (o : Option Operand) (z : Int) (dflt : Nat) : Prop := match o with | none => z = (dflt : Int) | some x => ∃ kk, opv ρ x = .int kk z
theorem Qh.slice {T E : TypeId} {x : Operand} {lo hi : Option Operand} {i j : Int} (ho : B5 (Qd B p) k ρ = some (.slice T x lo hi none, d)) (hd : Uh n d = true)
    (hx : opv ρ x = .slice A l.length c) (hT : P.underlying T = some (.slice E)) (hE : (P.info? E).map (·.size) = some e.sz) (hlo : Ii ρ lo i 0) (hhi : Ii ρ hi j l.length) (hc : l.length ≤ c)
    (h0 : 0 ≤ i) (h1 : i ≤ j) (h2 : j ≤ (l.length : Int))
    (next : ∀ (A' : Option Addr) (c' : Nat), A' = H9 e.sz c i.toNat A → c' = c - i.toNat → (∀ w1 : World, RdT e w1 A c l → RdT e w1 A' c' ((l.take j.toNat).drop i.toNat)) →
      K (Rr ρ d (.slice A' ((l.take j.toNat).drop i.toNat).length c')) w) : Qh P n B p k K ρ w := by
  have hl : ((l.take j.toNat).drop i.toNat).length = j.toNat - i.toNat := by simp; omega
  refine Qh.val ho hd (v := .slice (H9 e.sz c i.toNat A) ((l.take j.toNat).drop i.toNat).length (c - i.toNat)) (fun o hop => ?_)
    (next _ _ rfl rfl fun w1 hr => RdT.part hr (by omega) (by omega))
  rw [hl]
  unfold execOp; rw [hop]
  cases hi' : P.info? E with
  | none => rw [hi'] at hE; cases hE
  | some ii =>
    rw [hi'] at hE
    have hE : ii.size = e.sz := by simpa using hE
    have hsz : ∀ w, (sizeOf E).run P w = .ok e.sz w := fun w => by simp [sizeOf, typeInfo, hi', hE]
    have hb := Ih (P := P) (isS := true) (m := l.length) (cap := c) (lo := lo.map (opv ρ)) (hi := hi.map (opv ρ)) (i := i.toNat) (j := j.toNat)
      (by
        cases lo with
        | none => exact .inl ⟨rfl, by have : i = 0 := hlo; omega⟩
        | some y => obtain ⟨kk, hh⟩ := hlo; exact .inr ⟨kk, by rw [Option.map_some, hh, Int.toNat_of_nonneg h0]⟩)
      (by
        cases hi with
        | none => exact .inl ⟨rfl, by have : j = (l.length : Int) := hhi; omega⟩
        | some y => obtain ⟨kk, hh⟩ := hhi; exact .inr ⟨kk, by rw [Option.map_some, hh, Int.toNat_of_nonneg (by omega)]⟩)
      (by omega) (by omega) hc w
    simp only [hx, Instr.sliceAt, Sem.run_bind, run_underlying hT, Result.andThen_ok, Instr.slice, Option.map_none, hb, hsz]
    rfl
theorem Xf {T : TypeId} {x : Operand} {lo hi : Option Operand} {i j : Int} {a : List UInt8} (ho : B5 (Qd B p) k ρ = some (.slice T x lo hi none, d)) (hd : Uh n d = true)
    (hx : opv ρ x = .string ⟨a.toArray⟩) (hT : P.underlying T = some .string) (hlo : Ii ρ lo i 0) (hhi : Ii ρ hi j a.length)
    (h0 : 0 ≤ i) (h1 : i ≤ j) (h2 : j ≤ (a.length : Int))
    (next : K (Rr ρ d (.string ⟨((a.take j.toNat).drop i.toNat).toArray⟩)) w) : Qh P n B p k K ρ w := by
  refine Qh.val ho hd (fun o hop => ?_) next
  unfold execOp; rw [hop]
  have hb := Ih (P := P) (isS := false) (m := (⟨a.toArray⟩ : ByteArray).size) (cap := (⟨a.toArray⟩ : ByteArray).size) (lo := lo.map (opv ρ)) (hi := hi.map (opv ρ)) (i := i.toNat) (j := j.toNat)
    (by
      cases lo with
      | none => exact .inl ⟨rfl, by have : i = 0 := hlo; omega⟩
      | some y => obtain ⟨kk, hh⟩ := hlo; exact .inr ⟨kk, by rw [Option.map_some, hh, Int.toNat_of_nonneg h0]⟩)
    (by
      cases hi with
      | none => exact .inl ⟨rfl, by have : j = (a.length : Int) := hhi; rw [Rc]; omega⟩
      | some y => obtain ⟨kk, hh⟩ := hhi; exact .inr ⟨kk, by rw [Option.map_some, hh, Int.toNat_of_nonneg (by omega)]⟩)
    (by omega) (by rw [Rc]; omega) (Nat.le_refl _) w
  simp only [hx, Instr.sliceAt, Sem.run_bind, run_underlying hT, Result.andThen_ok, Instr.slice, Option.map_none, Option.isSome_none, Bool.false_eq_true, if_false, Sem.run_bind, hb, Result.andThen_ok, Sem.run_pure]
  rw [Eo _ _ _ (by omega)]
theorem Dh {T S' E : TypeId} {x : Operand} {l : List UInt8} (ho : B5 (Qd B p) k ρ = some (.convert T S' x, d)) (hd : Uh n d = true)
    (hx : opv ρ x = .slice A l.length c) (hT : P.underlying T = some (.slice E)) (hE : P.underlying E = some (.int .u8)) (hS : P.underlying S' = some .string) (hr : RdT eU8 w A c l)
    (next : K (Rr ρ d (.string ⟨l.toArray⟩)) w) : Qh P n B p k K ρ w := by
  refine Qh.val ho hd (fun o hop => ?_) next
  unfold execOp; rw [hop]
  have := Hi (P := P) hT hE hS (rd_bytes hr)
  simp only [hx, Sem.run_bind, this, Result.andThen_ok]
  rfl
end
end Go.Proofs.YtoflbpmbkmephaaGreatDoor
namespace Go.Proofs.YtoflbpmbkmephaaGreatDoor
open Go.RowKit
section
variable {α : Type} {e : Enc α} {P : Program} {w w0 : World} {A : Option Addr} {c : Nat} {l m : List α}
theorem Ep {TX E : TypeId} (hT : P.underlying TX = some (.slice E)) (h : RdT e w A c m) : Src P e.sz TX (.slice A m.length c) m.length (Vw e m) w := by
  obtain ⟨h1, h2, h3, h4⟩ := h
  rcases Nat.eq_zero_or_pos m.length with h0 | h0
  · have : m = [] := List.eq_nil_of_length_eq_zero h0
    subst this
    refine ⟨.inl ⟨_, hT⟩, fun _ => rfl, ?_, ?_, by simp [Vw], Hl e _⟩
    · cases A with
      | none => exact run_firstCells_none w e.sz 0 0 c
      | some a => exact run_firstCells_some w e.sz 0 a 0 c [] (by simp) (by simp)
    · cases A with
      | none => exact run_firstCells_none w.drew e.sz 0 0 c
      | some a => exact run_firstCells_some w.drew e.sz 0 a 0 c [] (by simp) (by simp)
  · obtain ⟨b, off, rfl, hb, hc⟩ := h4 h0
    refine Src.ofSlice w hT _ _ _ _ h1 (fun j u hu => ?_) (Hl e _)
    rw [Hj]
    exact hc j u hu
theorem cells_u8 (m : List UInt8) : Vw eU8 m = m.map fun c => Value.int .u8 (c.toNat : Int) := by
  induction m with
  | nil => rfl
  | cons x r ih => rw [Uo, ih]; rfl
theorem My {w : World} {E : TypeId} {sz n : Nat} {v : Value} {xs : List Value} (h : w.ownsRow 0 E sz v n xs) : ∃ A c, v = .slice A n c := by
  rcases h.2 with ⟨hv, hn⟩ | ⟨g, cap, cur, hv, _⟩
  · exact ⟨none, 0, by rw [hv, hn]⟩
  · exact ⟨_, _, hv⟩
theorem Mz {E : TypeId} {sz b : Nat} (h : (P.info? E).map (fun i => (i.zero.map (·.cells.size), i.size, i.bytes)) = some (some sz, sz, b)) : ∃ i z, P.info? E = some i ∧ i.zero = some z ∧ i.size = sz ∧ i.bytes = b ∧ z.cells.size = sz := by
  cases hi : P.info? E with
  | none => rw [hi] at h; cases h
  | some i =>
    rw [hi] at h
    simp only [Option.map_some, Option.some.injEq, Prod.mk.injEq] at h
    obtain ⟨h1, h2, h3⟩ := h
    cases hz : i.zero with
    | none => rw [hz] at h1; cases h1
    | some z =>
      rw [hz] at h1
      exact ⟨i, z, rfl, hz, h2, h3, by simpa using h1⟩
end
section
variable {P : Program} {n : Nat} {Q : He} {ρ : Fr} {w w0 : World} {B : Code} {p : List Bool} {k : Nat} {d : Option Nat} {S : List Nat} {es : List Ent} {K : Fr → World → Prop}
variable {α : Type} {e : Enc α} {A : Option Addr} {c : Nat} {l m : List α}
theorem Qh.append {T TX E : TypeId} {s x : Operand} {b i : Nat} {vx : Value} (ho : B5 (Qd B p) k ρ = some (.call { callee := .builtin .append, args := #[s, x], argTypes := #[T, TX] }, d)) (hd : Uh n d = true)
    (hv : opv ρ s = .slice A l.length c) (hx : opv ρ x = vx) (hT : P.underlying T = some (.slice E)) (hE : (P.info? E).map (fun i => (i.zero.map (·.cells.size), i.size, i.bytes)) = some (some e.sz, e.sz, b)) (hb : (Nat.ble 1 e.sz && Nat.ble b 65536) = true)
    (hs : SP S w0 w es) (hi : es[i]? = some (Vu E e A c l)) (hsrc : Src P e.sz TX vx m.length (Vw e m) w) (hlen : l.length + m.length ≤ 2147483648)
    (next : ∀ (A' : Option Addr) (c' : Nat) (w' : World), SP S w0 w' (es.set i (Vu E e A' c' (l ++ m))) → K (Rr ρ d (.slice A' (l ++ m).length c')) w') : Qh P n B p k K ρ w := by
  subst hx
  obtain ⟨i0, z, hi0, hz0, hz1, hz2, hz3⟩ := Mz hE
  simp only [Bool.and_eq_true] at hb
  have hb1 := Nat.le_of_ble_eq_true hb.1
  have hb2 := Nat.le_of_ble_eq_true hb.2
  have hbytes : (l.length + m.length) * b ≤ 140737488355328 := Nat.le_trans (Nat.mul_le_mul hlen hb2) (by omega)
  have hown : w.ownsRow 0 E e.sz (.slice A l.length c) l.length (Vw e l) := hs.get hi
  obtain ⟨o0, ho0, _⟩ := Ev ho
  obtain ⟨v', w', hrun, h2, h3, h4⟩ := H8 (P := P) w 0 T TX o0.type E i0 z e.sz b hT hi0 hz0 hz1 hz2 hz3 (by omega) _ l.length (Vw e l) hown (opv ρ x) m.length (Vw e m) hsrc (by unfold maxLen; omega) hbytes (Nat.zero_le _)
  obtain ⟨A', c', rfl⟩ := My h2
  have h2' : (Vu E e A' c' (l ++ m)).ok w' := by
    show w'.ownsRow 0 E e.sz (.slice A' (l ++ m).length c') (l ++ m).length (Vw e (l ++ m))
    rw [List.length_append, Ei]
    exact h2
  have hmod : Mod ((Value.slice A l.length c).ownBlock.toList) w w' := Fw h3 (fun q hq => by rw [hq]; simp)
  refine Qh.val ho hd (v := .slice A' (l ++ m).length c') (w' := w') (fun o hop => ?_) (next A' c' w' (hs.set hi hmod (fun q hq => hq) h2' fun q hq => ?_))
  · have hty : ∀ ty, (Builtin.append_ #[T, TX] ty #[.slice A l.length c, opv ρ x]).run P w = (Builtin.append_ #[T, TX] o0.type #[.slice A l.length c, opv ρ x]).run P w := fun _ => rfl
    have hrun' : (Builtin.append_ #[T, TX] o.type #[opv ρ s, opv ρ x]).run P w = .ok (.slice A' (l.length + m.length) c') w' := by rw [hv, hty]; exact hrun
    rw [List.length_append]
    unfold execOp
    rw [hop]
    simp [resolve, invoke, builtin, hrun', Result.andThen]
  · have hq' : (Value.slice A' (l.length + m.length) c').ownBlock = some q := by
      have : (Value.slice A' (l ++ m).length c').ownBlock = some q := by simpa [Vu, row] using hq
      rw [List.length_append] at this
      exact this
    refine ⟨?_, (World.ownsRow.lt h2 q hq').2⟩
    rcases h4 with h4 | h4
    · left
      rw [h4] at hq'
      show q ∈ (Value.slice A l.length c).ownBlock.toList
      rw [hq']
      simp
    · right
      rw [h4] at hq'
      injection hq' with hq'
      omega
theorem SP.newrow {E : TypeId} {cs : Array Value} {w : World} (h : SP S w0 w es) (e : Enc α) (l : List α) (hc : cs.toList = Vw e l) (hm : l.length ≤ maxLen) (hz : 0 < e.sz) :
    SP S w0 (w.alloc (.cells cs E)) (es ++ [Vu E e (some ⟨w.heap.size, 0, none⟩) l.length l]) := by
  refine h.push ((Below.refl _ _).alloc (Nat.le_refl _) _) ?_ fun k hk => ?_
  · have := World.ownsRow_lit (base := 0) (e := E) (size := e.sz) w cs l.length (Nat.zero_le _) hm (by rw [← Array.length_toList, hc, Y2])
    rw [hc] at this
    exact this
  · have : k = w.heap.size := by simpa [Vu, row, Value.ownBlock] using hk
    subst this
    simp
theorem Vy {T E : TypeId} {len : Nat} {parts : Array (Nat × Operand)} {cs : Array Value} (l : List α) (ho : B5 (Qd B p) k ρ = some (.buildSlice T len parts, d)) (hd : Uh n d = true)
    (hb : ∀ w : World, (Instr.buildSlice T len (parts.map fun (i, x) => (i, opv ρ x))).run P w = .ok (.slice (some ⟨w.heap.size, 0, none⟩) len len) (w.alloc (.cells cs E)))
    (hs : SP S w0 w es) (hc : cs.toList = Vw e l) (hl : l.length = len) (hm : Nat.ble l.length 2147483648 = true) (hz : Nat.ble 1 e.sz = true)
    (next : ∀ (g : Nat) (w' : World), SP S w0 w' (es ++ [Vu E e (some ⟨g, 0, none⟩) l.length l]) → K (Rr ρ d (.slice (some ⟨g, 0, none⟩) l.length l.length)) w') : Qh P n B p k K ρ w := by
  subst hl
  refine Qh.val ho hd (v := .slice (some ⟨w.heap.size, 0, none⟩) l.length l.length) (w' := w.alloc (.cells cs E)) (fun o hop => ?_) (next _ _ (hs.newrow e l hc (by have := Nat.le_of_ble_eq_true hm; unfold maxLen; omega) (Nat.le_of_ble_eq_true hz)))
  unfold execOp; rw [hop]
  simp only [Sem.run_bind, hb, Result.andThen_ok]
  rfl
theorem Co {S' T E : TypeId} {x : Operand} {l : List UInt8} (ho : B5 (Qd B p) k ρ = some (.convert S' T x, d)) (hd : Uh n d = true)
    (hx : opv ρ x = .string ⟨l.toArray⟩) (hS : P.underlying S' = some .string) (hT : P.underlying T = some (.slice E)) (hE : P.underlying E = some (.int .u8)) (hl : l.length ≤ maxLen) (hs : SP S w0 w es)
    (next : ∀ (g c' : Nat) (w' : World), SP S w0 w' (es ++ [rdE eU8 (some ⟨g, 0, none⟩) c' l]) → l.length ≤ c' → K (Rr ρ d (.slice (some ⟨g, 0, none⟩) l.length c')) w') : Qh P n B p k K ρ w := by
  have hrun := run_bytes_of_string (P := P) w S' T E ⟨l.toArray⟩ hS hT hE
  have hge := grownCap_ge w (⟨l.toArray⟩ : ByteArray).size 0 E
  have hle := grownCap_le_maxLen w (⟨l.toArray⟩ : ByteArray).size 0 E (by rw [Rc]; exact hl)
  rw [Rc] at hge hle hrun
  generalize hcap : grownCap w l.length 0 E = cap at hrun hge hle
  refine Qh.val ho hd (v := .slice (some ⟨w.heap.size, 0, none⟩) l.length cap) (fun o hop => ?_) (next w.heap.size cap (w.drew.alloc (.cells (bytesRow ⟨l.toArray⟩ cap) E ((bytesRow ⟨l.toArray⟩ cap).size, (bytesRow ⟨l.toArray⟩ cap).size + 1)))
    (hs.push (e := rdE eU8 (some ⟨w.heap.size, 0, none⟩) cap l) ?_ ?_ ?_) hge)
  · unfold execOp; rw [hop]
    simp only [hx, Sem.run_bind, hrun, Result.andThen_ok]
    rfl
  · exact (Below.refl _ _).drew.alloc (Nat.le_refl _) _
  · refine ⟨by rw [Y2], hge, hle, fun hn => ⟨w.heap.size, 0, rfl, by simp, fun j u hu => ?_⟩⟩
    have hj : j < l.length := by
      have := (List.getElem?_eq_some_iff.1 hu).1
      rw [Y2] at this
      simpa [eU8] using this
    rw [Nat.zero_add]
    refine (cell_of_row _ w.heap.size j _ E _ (heap_alloc_new w.drew _)).trans ?_
    rw [cells_u8] at hu
    rw [← hu]
    unfold bytesRow
    rw [Array.getElem?_append_left (by simpa using hj)]
    simp
  · intro q hq
    have : q = w.heap.size := by simpa [rdE] using hq
    subst this
    simp
theorem Fg {f : FuncId} {fo : Operand} {xs : Array Operand} {tys : Array TypeId} {first captured : Array Value} {args : List Value} (ho : B5 (Qd B p) k ρ = some (.call { callee := .value fo, args := xs, argTypes := tys }, d)) (hd : Uh n d = true)
    (hf : opv ρ fo = .func (.func f) first captured) (hargs : first.toList ++ xs.toList.map (opv ρ) ++ captured.toList = args) (hcf : ∀ (args : Array Value) (w : World), (callFunc f args).run P w = .ok (.enter f args) w)
    {R : Ending → World → Prop} (hc : Calls P f args.toArray w R) (next : ∀ e w', R e w' → ∃ v, e = .returned v ∧ K (Rr ρ d v) w') : Qh P n B p k K ρ w := by
  refine Qh.call ho hd (f := f) (args := args.toArray) (fun o hop => ?_) hc next
  unfold execOp; rw [hop]
  have : first ++ xs.map (opv ρ) ++ captured = args.toArray := by
    rw [← hargs]
    apply Array.ext'
    simp
  simp only [resolve, hf, Deferred.ofValue, Sem.run_bind, Sem.run_pure, Result.andThen_ok, invoke, this, hcf]
end
end Go.Proofs.YtoflbpmbkmephaaGreatDoor
namespace Go.Proofs.YtoflbpmbkmephaaGreatDoor
open Go.RowKit
def Hn (ρ : Fr) : List (Nat × Value) → Fr
  | [] => ρ
  | (d, v) :: l => Hn (upd ρ d v) l
def Q7 (ρ : Fr) : List (Nat × Value) → Prop
  | [] => True
  | (d, v) :: l => ρ d = v ∧ Q7 ρ l
theorem Qc {ρ : Fr} : ∀ {l : List (Nat × Value)}, Q7 ρ l → Hn ρ l = ρ
  | [], _ => rfl
  | (d, v) :: l, h => by
    show Hn (upd ρ d v) l = ρ
    rw [Iy h.1]
    exact Qc h.2
def bAnd (k : IntKind) (a b : Int) : Int := k.wrap (BitVec.ofInt k.bits a &&& BitVec.ofInt k.bits b).toNat
def bOr (k : IntKind) (a b : Int) : Int := k.wrap (BitVec.ofInt k.bits a ||| BitVec.ofInt k.bits b).toNat
def Oi (k : IntKind) (a b : Int) : Int := k.wrap (a * 2 ^ (min b.toNat k.bits))
def Ia (k : IntKind) (a b : Int) : Int := a.fdiv (2 ^ (min b.toNat k.bits))
def B6 (e : Int) : UInt8 := UInt8.ofNat e.toNat
theorem I1 {e : Int} (h : 0 ≤ e ∧ e < 256) : ((B6 e).toNat : Int) = e := by
  unfold B6
  have : e.toNat < 256 := by omega
  rw [UInt8.toNat_ofNat_of_lt' this]
  omega
theorem Fh (x : Int) : 0 ≤ IntKind.wrap .u8 x ∧ IntKind.wrap .u8 x < 256 := by
  unfold IntKind.wrap
  simp only [IntKind.bits, IntKind.signed]
  have h1 := Int.emod_nonneg x (b := 256) (by omega)
  have h2 := Int.emod_lt_of_pos x (b := 256) (by omega)
  simp
  omega
theorem u8_or (a b : Int) : 0 ≤ bOr .u8 a b ∧ bOr .u8 a b < 256 := Fh _
theorem Dk {e : Int} {c : UInt8} {t : List Value} {l : List UInt8} (h : (c.toNat : Int) = e ∨ (c = B6 e ∧ (0 ≤ e ∧ e < 256))) (ht : t = Vw eU8 l) : (Value.int .u8 e) :: t = Vw eU8 (c :: l) := by
  rw [Uo, ← ht]
  rcases h with h | ⟨rfl, h⟩
  · subst h; rfl
  · show _ = [Value.int .u8 ((B6 e).toNat : Int)] ++ t
    rw [I1 h]
    rfl
theorem Cp {n : Nat} (h : Nat.ble n 281474976710656 = true) : n ≤ maxLen := by
  have := Nat.le_of_ble_eq_true h
  unfold maxLen
  omega
def Kh (es : List Ent) : List Nat → List Ent
  | [] => []
  | i :: l => match es[i]? with | some e => e :: Kh es l | none => Kh es l
def Cq : List Nat → Bool
  | [] => true
  | i :: l => l.all (fun j => !Nat.beq i j) && Cq l
def Y1 : Nat := 18446744073709551616
section
variable {S : List Nat} {B : Nat} {w w0 : World} {es es' : List Ent}
theorem HL.apart {i j : Nat} {e f : Ent} (h : HL S B w es) (hi : es[i]? = some e) (hj : es[j]? = some f) (hij : i ≠ j) : ∀ k ∈ e.fp, k ∉ f.fp := by
  intro k hk
  refine h.other hi f ?_ k hk
  rw [List.mem_eraseIdx_iff_getElem?]
  exact ⟨j, fun h => hij h.symm, hj⟩
theorem Bl {es : List Ent} : ∀ {l : List Nat} {f : Ent}, f ∈ Kh es l → ∃ j ∈ l, es[j]? = some f
  | [], f, h => by simp [Kh] at h
  | i :: l, f, h => by
    unfold Kh at h
    split at h
    · rename_i e he
      rcases List.mem_cons.1 h with rfl | h
      · exact ⟨i, by simp, he⟩
      · obtain ⟨j, hj, hf⟩ := Bl h
        exact ⟨j, List.mem_cons_of_mem _ hj, hf⟩
    · obtain ⟨j, hj, hf⟩ := Bl h
      exact ⟨j, List.mem_cons_of_mem _ hj, hf⟩
theorem HL.sel (h : HL S B w es) : ∀ {l : List Nat}, Cq l = true → HL S B w (Kh es l)
  | [], _ => trivial
  | i :: l, hn => by
    simp only [Cq, Bool.and_eq_true, List.all_eq_true, Bool.not_eq_true'] at hn
    unfold Kh
    cases hi : es[i]? with
    | none => exact h.sel hn.2
    | some e =>
      have he := h.get hi
      refine ⟨he.1, fun k hk => ⟨(he.2 k hk).1, (he.2 k hk).2, fun f hf => ?_⟩, h.sel hn.2⟩
      obtain ⟨j, hj, hfj⟩ := Bl hf
      refine h.apart hi hfj (fun hij => ?_) k hk
      have := hn.1 j hj
      subst hij
      rw [Nat.beq_refl] at this
      cases this
theorem SP.sel (h : SP S w0 w es) (l : List Nat) (hn : Cq l = true) (he : es' = Kh es l) : SP S w0 w es' := by
  subst he
  exact ⟨h.mod, h.own.sel hn⟩
end
section
variable {β : Type}
theorem ct {b : Bool} {x y : Option β} {r : β} (h : cond b x y = some r) (hb : b = true) : x = some r := by subst hb; exact h
theorem cf {b : Bool} {x y : Option β} {r : β} (h : cond b x y = some r) (hb : b = false) : y = some r := by subst hb; exact h
theorem Nk {α : Type} {x : α} {K : α → Option β} {r : β} (h : (some x).bind K = some r) : ∃ z, x = z ∧ K z = some r := ⟨x, rfl, h⟩
theorem Qb {x r : β} (h : some x = some r) : r = x := (Option.some.inj h).symm
end
section
variable {P : Program} {n : Nat} {Q : He} {ρ : Fr} {w : World} {B : Code} {p : List Bool} {k : Nat} {K : Fr → World → Prop}
theorem At.known (l : List (Nat × Value)) (h : Q7 ρ l) (next : At P n B p Q (Hn ρ l) w) : At P n B p Q ρ w := by
  rw [Qc h] at next
  exact next
theorem In.run' {k' : Nat} (m : Nat) (hk : k' = k + m) (l : List (Nat × Value)) (h : Rv P n (Qo (Qd B p)) (((Qo (Qd B p)).toList.drop k).take m) ρ w = some (Hn ρ l, w))
    (next : In P n B p k' Q (Hn ρ l) w) : In P n B p k Q ρ w := In.run m hk (Hn ρ l) h next
theorem Qh.shift {d : Option Nat} {op : BinOp} {T T' : TypeId} {x y : Operand} {kx ky : IntKind} {a b : Int} {v : Value} (ho : B5 (Qd B p) k ρ = some (.binOp op T x y T', d)) (hd : Uh n d = true)
    (hx : opv ρ x = .int kx a) (hy : opv ρ y = .int ky b) (h0 : 0 ≤ b) (hv : (match op with | .shl => some (Value.int kx (Oi kx a b)) | .shr => some (.int kx (Ia kx a b)) | _ => none) = some v)
    (next : K (Rr ρ d v) w) : Qh P n B p k K ρ w := by
  refine Qh.val ho hd (fun o hop => ?_) next
  unfold execOp; rw [hop]
  simp only [hx, hy]
  cases op <;> first | (cases hv; done) | skip
  all_goals
    injection hv with hv
    subst hv
    simp [eqGuard, Go.binOp, Op.shift, show ¬ b < 0 by omega, Oi, Ia]
theorem In.known (l : List (Nat × Value)) (h : Q7 ρ l) (next : In P n B p k Q (Hn ρ l) w) : In P n B p k Q ρ w := by
  rw [Qc h] at next
  exact next
theorem Gy {α : Type} {e : Enc α} {S : List Nat} {w0 : World} {es : List Ent} {i b off c : Nat} {d : Option Nat} {t E : TypeId} {x y : Operand} {A : Option Addr} {l : List α} {iz : Int} {v : Value} {x' : α}
    (ho : B5 (Qd B p) k ρ = some (.store t x y, d)) (hd : Uh n d = true) (hx : opv ρ x = .pointer (some ⟨b, off + iz.toNat * e.sz, none⟩)) (hy : opv ρ y = v)
    (hs : SP S w0 w es) (hi : es[i]? = some (Vu E e A c l)) (hA : A = some ⟨b, off, none⟩) (hz : e.sz = 1) (h1 : iz < (l.length : Int)) (h0 : 0 ≤ iz) (hv : e.enc x' = [v]) (ht : (P.info? t).map (·.size) = some 1)
    (next : ∀ w' : World, SP S w0 w' (es.set i (Vu E e A c (l.set iz.toNat x'))) → K (Rr ρ d undef) w') : Qh P n B p k K ρ w := by
  subst hy hA
  have hown : w.ownsRow 0 E e.sz (.slice (some ⟨b, off, none⟩) l.length c) l.length (Vw e l) := hs.get hi
  have hoff : off = 0 := by
    rcases hown.2 with ⟨hn, _⟩ | ⟨g, cap, cur, hn, _⟩
    · cases hn
    · injection hn with h1 _ _
      injection h1 with h1
      injection h1
  subst hoff
  have hlt : iz.toNat < l.length := by omega
  have hcellx : ∃ u, w.cell? ⟨b, iz.toNat, none⟩ = some u := by
    have := World.ownsRow.cellAt (g := b) (cap := c) hown iz.toNat (by rw [hz]; omega)
    rw [this]
    have hlen := Y2 e l
    exact ⟨_, List.getElem?_eq_getElem (by rw [hlen, hz]; omega)⟩
  obtain ⟨u0, hu0⟩ := hcellx
  have hfr := World.ownsRow.frozenAt (g := b) (cap := c) hown iz.toNat
  obtain ⟨h2, h3⟩ := World.ownsRow.stored (g := b) (cap := c) hown iz.toNat (opv ρ y)
  have hone := e.one x' (opv ρ y) (by rw [hv]; simp)
  have hset : (Vw e l).set iz.toNat (opv ρ y) = Vw e (l.set iz.toNat x') := by
    have := Li e l iz.toNat x' hlt
    rw [hz, Nat.mul_one, hv] at this
    rw [← this, List.set_eq_take_append_cons_drop, if_pos (by rw [Y2, hz]; omega)]
    simp
  have h2' : (Vu E e (some ⟨b, 0, none⟩) c (l.set iz.toNat x')).ok (w.setCell ⟨b, iz.toNat, none⟩ (opv ρ y)) := by
    show World.ownsRow _ 0 E e.sz (.slice (some ⟨b, 0, none⟩) (l.set iz.toNat x').length c) (l.set iz.toNat x').length (Vw e (l.set iz.toNat x'))
    rw [List.length_set, ← hset]
    exact h2
  refine I0 ho hd (w' := w.setCell ⟨b, iz.toNat, none⟩ (opv ρ y)) (fun o hop => ?_) (next _ (hs.set hi (T := [b]) (Fw h3 (fun q hq => by injection hq with hq; simp [hq])) (fun q hq => ?_) h2' fun q hq => ?_))
  · have hcs : (opv ρ y).cells = #[opv ρ y] := by
      cases hvv : opv ρ y <;> first | rfl | (rw [hvv] at hone; cases hone)
    cases hi' : P.info? t with
    | none => rw [hi'] at ht; cases ht
    | some ii =>
      rw [hi'] at ht
      have ht : ii.size = 1 := by simpa using ht
      have hsz : (sizeOf t).run P w = .ok 1 w := by simp [sizeOf, typeInfo, hi', ht]
      have hst : (Go.store ⟨b, iz.toNat, none⟩ (opv ρ y)).run P w = .ok () (w.setCell ⟨b, iz.toNat, none⟩ (opv ρ y)) := by
        cases hvv : opv ρ y <;> first | (rw [hvv] at hone; cases hone; done) | (simp [Go.store, Sem.run, hu0, hfr])
      unfold execOp; rw [hop]
      rw [hz, Nat.zero_add, Nat.mul_one] at hx
      have hadd : (⟨b, iz.toNat, none⟩ : Addr).add 0 = ⟨b, iz.toNat, none⟩ := by simp [Addr.add]
      simp only [hx, Instr.storeAt, Instr.sureAddr, Sem.run_bind, Sem.run_pure, Result.andThen_ok, storeVar, hsz, hcs]
      simp [storeCells, hadd, hst, Sem.run_bind]
  · simpa [Vu, row, Value.ownBlock] using hq
  · have hq' : q = b := by simpa [Vu, row, Value.ownBlock] using hq
    subst hq'
    refine ⟨.inl (by simp [Vu, row, Value.ownBlock]), ?_⟩
    have := (World.ownsRow.lt hown q (by simp [Value.ownBlock])).2
    simpa [World.setCell] using this
theorem In.guard {t : Nat} {b : Bool} (h : ρ t = .bool b) (h1 : b = true → In P n B p k Q (upd ρ t (.bool true)) w) (h2 : b = false → In P n B p k Q (upd ρ t (.bool false)) w) : In P n B p k Q ρ w := by
  cases b
  · have := h2 rfl
    rw [Iy h] at this
    exact this
  · have := h1 rfl
    rw [Iy h] at this
    exact this
end
end Go.Proofs.YtoflbpmbkmephaaGreatDoor
namespace Go.Proofs.YtoflbpmbkmephaaGreatDoor
open Go.RowKit
def B3 (ops : Array Oper) (size : Nat) : Bool :=
  let ds := ops.toList.filterMap (·.dst)
  ds.all (fun d => decide (d < size)) && decide ds.Nodup
theorem Ki : ∀ (l : List Oper), (l.filterMap (·.dst)).Nodup → ∀ (i j : Nat) (o p : Oper) (d : Tmp), l[i]? = some o → l[j]? = some p → o.dst = some d → p.dst = some d → i = j := by
  intro l
  induction l with
  | nil => intro _ i j o p d h; simp at h
  | cons x r ih =>
    intro hn i j o p d hi hj ho hp
    have hmem : ∀ (k : Nat) (q : Oper), r[k]? = some q → q.dst = some d → d ∈ r.filterMap (·.dst) := fun k q hk hq =>
      List.mem_filterMap.2 ⟨q, List.mem_of_getElem? hk, hq⟩
    cases hx : x.dst with
    | none =>
      rw [List.filterMap_cons_none hx] at hn
      cases i with
      | zero => simp at hi; subst hi; rw [hx] at ho; cases ho
      | succ i =>
        cases j with
        | zero => simp at hj; subst hj; rw [hx] at hp; cases hp
        | succ j => simp at hi hj; rw [ih hn i j o p d hi hj ho hp]
    | some e =>
      rw [List.filterMap_cons_some hx] at hn
      have hn' := List.nodup_cons.1 hn
      cases i with
      | zero =>
        simp at hi; subst hi
        rw [hx] at ho; injection ho with ho; subst ho
        cases j with
        | zero => rfl
        | succ j => simp at hj; exact absurd (hmem j p hj hp) hn'.1
      | succ i =>
        cases j with
        | zero =>
          simp at hj; subst hj
          rw [hx] at hp; injection hp with hp; subst hp
          simp at hi
          exact absurd (hmem i o hi ho) hn'.1
        | succ j => simp at hi hj; rw [ih hn'.2 i j o p d hi hj ho hp]
section
variable {P : Program} {ops : Array Oper} {Q : Exit → Act → World → Prop} {a0 : Act} {w0 : World} {G : World → World → Prop} {R : Nat → Value → World → Prop}
def Puts (G : World → World → Prop) (R : Nat → Value → World → Prop) (i : Nat) (o : Oper) (a : Act) (w : World) (a' : Act) (w' : World) : Prop := ∃ v, a' = a.put o.dst v ∧ G w w' ∧ R i v w'
def Ahead (ops : Array Oper) (R : Nat → Value → World → Prop) (o : Oper) (a : Act) (w : World) : Prop :=
  ∀ e ∈ o.after.toList, Region.binds .any e = true → ∀ p d, ops[e.on]? = some p → p.dst = some d → R e.on (a.eval (.tmp d)) w
def I2 (ops : Array Oper) (t : Tmp) : Prop := ∀ o ∈ ops.toList, o.dst ≠ some t
def Inv (ops : Array Oper) (G : World → World → Prop) (R : Nat → Value → World → Prop) (a0 : Act) (w0 : World) (listed : Array Bool) (a : Act) (w : World) : Prop :=
  listed.size = ops.size ∧ G w0 w ∧ a.defers = a0.defers ∧ a.tmps.size = a0.tmps.size ∧ (∀ t, I2 ops t → a.eval (.tmp t) = a0.eval (.tmp t)) ∧
    ∀ j p d, ops[j]? = some p → listed.getD j false = true → p.dst = some d → R j (a.eval (.tmp d)) w
theorem Ew {a : Act} {d : Tmp} {v : Value} (h : d < a.tmps.size) : (a.put (some d) v).eval (.tmp d) = v := by
  simp [Act.put, Act.eval, h]
theorem N9 {a : Act} {x : Option Tmp} {t : Tmp} {v : Value} (h : x ≠ some t) : (a.put x v).eval (.tmp t) = a.eval (.tmp t) := by
  cases x with
  | none => rfl
  | some d =>
    have : d ≠ t := fun e => h (by rw [e])
    simp [Act.put, Act.eval, Array.getElem?_setIfInBounds_ne this]
theorem inv_step {listed : Array Bool} {a a' : Act} {w w' : World} {i : Nat} {o : Oper} (hok : B3 ops a0.tmps.size = true) (hGt : ∀ a b c, G a b → G b c → G a c)
    (hR : ∀ j v w w', R j v w → G w w' → R j v w') (ho : ops[i]? = some o) (h : Inv ops G R a0 w0 listed a w) (hp : Puts G R i o a w a' w') :
    Inv ops G R a0 w0 (listed.setIfInBounds i true) a' w' := by
  obtain ⟨h1, h2, h3, h4, h5, h6⟩ := h
  obtain ⟨v, rfl, hg, hr⟩ := hp
  simp only [B3, Bool.and_eq_true, List.all_eq_true, decide_eq_true_eq] at hok
  have hmem : ∀ d, o.dst = some d → d < a.tmps.size := fun d hd => by
    rw [h4]
    exact hok.1 d (List.mem_filterMap.2 ⟨o, by rw [← Array.getElem?_toList] at ho; exact List.mem_of_getElem? ho, hd⟩)
  refine ⟨by simpa using h1, hGt _ _ _ h2 hg, ?_, ?_, ?_, ?_⟩
  · cases o.dst <;> simpa [Act.put] using h3
  · cases o.dst <;> simpa [Act.put] using h4
  · intro t ht
    rw [N9 (ht o (by rw [← Array.getElem?_toList] at ho; exact List.mem_of_getElem? ho))]
    exact h5 t ht
  · intro j p d hj hl hd
    by_cases hij : i = j
    · subst hij
      rw [ho] at hj; injection hj with hj; subst hj
      rw [hd, Ew (hmem d hd)]
      exact hr
    · have hl' : listed.getD j false = true := by
        simp only [Array.getD_eq_getD_getElem?] at hl ⊢
        rwa [Array.getElem?_setIfInBounds_ne hij] at hl
      have hne : o.dst ≠ some d := fun hod => hij (Ki _ hok.2 i j o p d (by rw [Array.getElem?_toList]; exact ho) (by rw [Array.getElem?_toList]; exact hj) hod hd)
      rw [N9 hne]
      exact hR _ _ _ _ (h6 j p d hj hl' hd) hg
theorem Kj {listed : Array Bool} {i : Nat} (hs : listed.size = ops.size) (h : i ∈ Region.ready .any ops listed) :
    ∃ o, ops[i]? = some o ∧ ∀ e ∈ o.after.toList, Region.binds .any e = true → listed.getD e.on false = true := by
  unfold Region.ready at h
  simp only [List.mem_filter, List.mem_range, Bool.and_eq_true] at h
  obtain ⟨hi, _, h2⟩ := h
  have hsome : ops[i]? = some ops[i] := Array.getElem?_eq_getElem hi
  refine ⟨ops[i], hsome, fun e he hb => ?_⟩
  rw [hsome] at h2
  simp only [Option.map_some, Option.getD_some, Array.all_eq_true] at h2
  obtain ⟨k, hk, hek⟩ := List.mem_iff_getElem.1 he
  have := h2 k (by simpa using hk)
  rw [Array.getElem_toList] at hek
  rw [hek, hb] at this
  simpa using this
theorem Lk (hok : B3 ops a0.tmps.size = true) (hGt : ∀ a b c, G a b → G b c → G a c) (hR : ∀ j v w w', R j v w → G w w' → R j v w')
    (hstep : ∀ i o, ops[i]? = some o → ∀ a w, G w0 w → a.defers = a0.defers → a.tmps.size = a0.tmps.size → (∀ t, I2 ops t → a.eval (.tmp t) = a0.eval (.tmp t)) → Ahead ops R o a w → wpOp P ops Q i (Puts G R i o a w) a w)
    (hend : ∀ a w, G w0 w → a.defers = a0.defers → a.tmps.size = a0.tmps.size → (∀ t, I2 ops t → a.eval (.tmp t) = a0.eval (.tmp t)) → (∀ j p d, ops[j]? = some p → p.dst = some d → R j (a.eval (.tmp d)) w) → Q .normal a w)
    (hfull : ∀ listed : Array Bool, listed.size = ops.size → Region.ready .any ops listed = [] → ∀ j, j < ops.size → listed.getD j false = true) :
    ∀ (Y1 : Nat) (listed : Array Bool) (a : Act) (w : World), (listed.toList.filter (! ·)).length ≤ Y1 → Inv ops G R a0 w0 listed a w → wpAny P .any ops Q Y1 listed a w := by
  have fin : ∀ (listed : Array Bool) (a : Act) (w : World), Region.ready .any ops listed = [] → Inv ops G R a0 w0 listed a w → Q .normal a w := by
    intro listed a w hr ⟨h1, h2, h3, h4, h5, h6⟩
    refine hend a w h2 h3 h4 h5 fun j p d hj hd => h6 j p d hj (hfull listed h1 hr j ?_) hd
    exact (Array.getElem?_eq_some_iff.1 hj).1
  intro Y1
  induction Y1 with
  | zero =>
    intro listed a w hl hinv
    have hr : Region.ready .any ops listed = [] := by
      unfold Region.ready
      rw [List.filter_eq_nil_iff]
      intro i hi
      have hi' : i < listed.size := by rw [hinv.1]; simpa using hi
      have hlist : listed.getD i true = true := by
        have hempty : listed.toList.filter (! ·) = [] := List.eq_nil_of_length_eq_zero (by omega)
        rw [List.filter_eq_nil_iff] at hempty
        have := hempty listed[i] (by rw [← Array.getElem_toList]; exact List.getElem_mem _)
        simpa [Array.getD, hi'] using this
      simp [hlist]
    exact ⟨hr, fin _ _ _ hr hinv⟩
  | succ Y1 ih =>
    intro listed a w hl hinv
    refine ⟨fun hr => fin _ _ _ hr hinv, fun i hi => ?_⟩
    obtain ⟨o, ho, hedge⟩ := Kj hinv.1 hi
    have hinv' := hinv
    obtain ⟨h1, h2, h3, h4, h5, h6⟩ := hinv'
    refine wpOp_mono (fun a' w' hp => ih _ a' w' ?_ (inv_step hok hGt hR ho hinv hp)) (hstep i o ho a w h2 h3 h4 h5 fun e he hb p d hp hd => h6 e.on p d hp (hedge e he hb) hd)
    unfold Region.ready at hi
    simp only [List.mem_filter, List.mem_range, Bool.and_eq_true] at hi
    have hi' : i < listed.size := by rw [h1]; exact hi.1
    have hf : listed[i] = false := by
      have := hi.2.1
      simpa [Array.getD, hi'] using this
    have hcount : ∀ (l : List Bool) (k : Nat), l[k]? = some false → ((l.set k true).filter (! ·)).length + 1 = (l.filter (! ·)).length := by
      intro l
      induction l with
      | nil => intro k hk; simp at hk
      | cons x r ihr =>
        intro k hk
        cases k with
        | zero => simp at hk; subst hk; simp
        | succ k =>
          simp at hk
          have := ihr k hk
          cases x <;> simp [List.set] <;> omega
    have := hcount listed.toList i (by rw [Array.getElem?_toList, Array.getElem?_eq_getElem hi', hf])
    simp only [Array.toList_setIfInBounds]
    omega
def Fi (ops : Array Oper) : Bool := ops.toList.zipIdx.all fun (o, i) => o.after.all fun e => !Region.binds .any e || decide (e.on < i)
theorem full_of (h : Fi ops = true) : ∀ listed : Array Bool, listed.size = ops.size → Region.ready .any ops listed = [] → ∀ j, j < ops.size → listed.getD j false = true := by
  intro listed hs hr j
  induction j using Nat.strongRecOn with
  | ind j ih =>
    intro hj
    cases hl : listed.getD j false with
    | true => rfl
    | false =>
      exfalso
      have hj' : j < listed.size := by omega
      have hmem : j ∈ Region.ready .any ops listed := by
        unfold Region.ready
        simp only [List.mem_filter, List.mem_range, Bool.and_eq_true]
        have hsome : ops[j]? = some ops[j] := Array.getElem?_eq_getElem hj
        refine ⟨hj, ?_, ?_⟩
        · have : listed[j] = false := by simpa [Array.getD, hj'] using hl
          simp [Array.getD, hj', this]
        · rw [hsome]
          simp only [Option.map_some, Option.getD_some, Array.all_eq_true]
          intro k hk
          unfold Fi at h
          rw [List.all_eq_true] at h
          have hz := h (ops[j], j) (by
            rw [List.mem_iff_getElem?]
            exact ⟨j, by rw [List.getElem?_zipIdx]; simp [Array.getElem?_toList, hsome]⟩)
          simp only [Array.all_eq_true] at hz
          have := hz k hk
          simp only [Bool.or_eq_true, Bool.not_eq_true', decide_eq_true_eq] at this ⊢
          rcases this with this | this
          · exact .inl this
          · exact .inr (ih _ this (by omega))
      rw [hr] at hmem
      cases hmem
theorem Ho {id : Nat} {w : World} (hm : P.follows .mixedOrders = true) (hok : B3 ops a0.tmps.size = true) (he : Fi ops = true)
    (G : World → World → Prop) (R : Nat → Value → World → Prop) (hG0 : G w.drew w.drew) (hGt : ∀ a b c, G a b → G b c → G a c) (hR : ∀ j v w w', R j v w → G w w' → R j v w')
    (hstep : ∀ i o, ops[i]? = some o → ∀ a w', G w.drew w' → a.defers = a0.defers → a.tmps.size = a0.tmps.size → (∀ t, I2 ops t → a.eval (.tmp t) = a0.eval (.tmp t)) → Ahead ops R o a w' → wpOp P ops Q i (Puts G R i o a w') a w')
    (hend : ∀ a w', G w.drew w' → a.defers = a0.defers → a.tmps.size = a0.tmps.size → (∀ t, I2 ops t → a.eval (.tmp t) = a0.eval (.tmp t)) → (∀ j p d, ops[j]? = some p → p.dst = some d → R j (a.eval (.tmp d)) w') → Q .normal a w') :
    (Code.region id ops true).wp P Q a0 w := by
  refine wp_region_any hm ?_
  refine Lk (G := G) (R := R) (a0 := a0) (w0 := w.drew) hok hGt hR hstep hend (full_of he) _ _ _ _ ?_ ?_
  · simp [List.filter_replicate]
  · refine ⟨by simp, hG0, rfl, rfl, fun _ _ => rfl, fun j p d hj hl _ => ?_⟩
    exfalso
    have hj' : j < ops.size := (Array.getElem?_eq_some_iff.1 hj).1
    simp [Array.getD, hj'] at hl
end
end Go.Proofs.YtoflbpmbkmephaaGreatDoor
namespace Go.Proofs.YtoflbpmbkmephaaGreatDoor
open Go.RowKit
def Ej (ops : Array Oper) (t : Nat) : Bool := ops.toList.all fun o => match o.dst with | some d => !Nat.beq d t | none => true
def Ek (ops : Array Oper) (i j d : Nat) : Bool :=
  match ops[i]?, ops[j]? with
  | some o, some q => o.after.toList.any (fun e => Nat.beq e.on j && Region.binds .any e) && (match q.dst with | some x => Nat.beq x d | none => false)
  | _, _ => false
def Ll (ops : Array Oper) (j d : Nat) : Bool := match ops[j]? with | some q => (match q.dst with | some x => Nat.beq x d | none => false) | none => false
def Rl : List (Value → World → Prop) → Nat → Value → World → Prop
  | [], _ => fun _ _ => True
  | x :: _, 0 => x
  | _ :: l, j + 1 => Rl l j
def Mono (x : Value → World → Prop) : Prop := ∀ v w w', x v w → Below w.heap.size w w' → x v w'
def MonoL : List (Value → World → Prop) → Prop
  | [] => True
  | x :: l => Mono x ∧ MonoL l
theorem monoL : ∀ {l : List (Value → World → Prop)}, MonoL l → ∀ j, Mono (Rl l j)
  | [], _, _ => fun _ _ _ _ _ => trivial
  | _ :: _, h, 0 => h.1
  | _ :: l, h, j + 1 => monoL (l := l) h.2 j
def FEq (u : Value) : Value → World → Prop := fun v _ => v = u
def Obs : Nat → (Nat → Prop) → Prop
  | 0, _ => True
  | k + 1, Φ => Obs k Φ ∧ Φ k
theorem Lm {Φ : Nat → Prop} : ∀ {k : Nat}, Obs k Φ → ∀ i, i < k → Φ i
  | 0, _, i, h => absurd h (by omega)
  | k + 1, ho, i, h => by
    by_cases hk : i = k
    · subst hk; exact ho.2
    · exact Lm ho.1 i (by omega)
def R2 (ops : Array Oper) (i : Nat) : Option Nat := (ops[i]?).bind (·.dst)
section
variable {P : Program} {n : Nat} {Q : He} {ρ : Fr} {w : World} {B : Code} {p : List Bool}
def Owes (P : Program) (n : Nat) (B : Code) (p : List Bool) (ρ : Fr) (w : World) (l : List (Value → World → Prop)) (i : Nat) : Prop :=
  ∀ (ρ' : Fr) (w' : World), Below w.heap.size w w' → (∀ t, Ej (Qo (Qd B p)) t = true → ρ' t = ρ t) → (∀ j d, Ek (Qo (Qd B p)) i j d = true → Rl l j (ρ' d) w') →
    Qh P n B p i (fun ρ'' w'' => Below w'.heap.size w' w'' ∧ ∃ v, ρ'' = Rr ρ' (R2 (Qo (Qd B p)) i) v ∧ Rl l i v w'') ρ' w'
theorem Dy {ops : Array Oper} {t : Nat} (h : Ej ops t = true) : I2 ops t := by
  intro o ho hd
  unfold Ej at h
  rw [List.all_eq_true] at h
  have := h o ho
  rw [hd] at this
  simp at this
theorem fa_of {a : Act} (h1 : a.defers = []) (h2 : a.tmps.size = n) : FA n (fun t => a.tmps.getD t undef) a := ⟨h1, h2, fun _ => rfl⟩
theorem At.draw (h : Gs 5 (Qd B p) = true) (hd : C6 (Qd B p) = true) (hm : P.follows .mixedOrders = true) (hok : B3 (Qo (Qd B p)) n = true) (he : Fi (Qo (Qd B p)) = true)
    (l : List (Value → World → Prop)) (hmono : MonoL l) {N : Nat} (hN : (Qo (Qd B p)).size = N) (hobs : Obs N (Owes P n B p ρ w l))
    (hend : ∀ (ρ' : Fr) (w' : World), Below w.heap.size w w' → (∀ t, Ej (Qo (Qd B p)) t = true → ρ' t = ρ t) → (∀ j d, Ll (Qo (Qd B p)) j d = true → Rl l j (ρ' d) w') → Q .normal ρ' w') : At P n B p Q ρ w := by
  intro a0 ha0
  have hreg := Hf h
  rw [hreg, hd]
  have hd0 : a0.defers = [] := ha0.defers
  have hsz0 : a0.tmps.size = n := ha0.size
  have hdrew : ∀ {w' : World}, Below w.drew.heap.size w.drew w' → Below w.heap.size w w' := fun hb => ((Below.refl _ _).drew).trans hb
  have hev : ∀ (a : Act) (t : Nat), a.eval (.tmp t) = a.tmps.getD t undef := fun _ _ => rfl
  refine Ho (a0 := a0) hm (by rw [hsz0]; exact hok) he (fun x y => Below x.heap.size x y) (Rl l) (Below.refl _ _) (fun _ _ _ h1 h2 => h1.trans (h2.mono h1.size)) (fun j v x y hx hy => monoL hmono j v x y hx hy) ?_ ?_
  · intro i o ho a w' hG hdf hsz hst hah
    have hlt : i < N := by rw [← hN]; exact (Array.getElem?_eq_some_iff.1 ho).1
    have ha : FA n (fun t => a.tmps.getD t undef) a := fa_of (hdf.trans hd0) (hsz.trans hsz0)
    have := Lm hobs i hlt (fun t => a.tmps.getD t undef) w' (hdrew hG) (fun t ht => by
        have := hst t (Dy ht)
        rw [hev, hev] at this
        rw [← ha0.get t]; exact this) (fun j d hjd => by
        unfold Ek at hjd
        rw [ho] at hjd
        cases hj : (Qo (Qd B p))[j]? with
        | none => rw [hj] at hjd; cases hjd
        | some q =>
          rw [hj] at hjd
          simp only [Bool.and_eq_true, List.any_eq_true] at hjd
          obtain ⟨⟨e, hem, hon, hbind⟩, hdst⟩ := hjd
          have hon := Nat.eq_of_beq_eq_true hon
          cases hq : q.dst with
          | none => rw [hq] at hdst; cases hdst
          | some x =>
            rw [hq] at hdst
            have hx : x = d := Nat.eq_of_beq_eq_true hdst
            subst hx
            have := hah e hem hbind q x (by rw [hon]; exact hj) hq
            rw [hon] at this
            exact this)
    refine wpOp_mono ?_ (this a ha _)
    rintro a' w'' ⟨ρ'', ha'', hb, v, hρ, hR⟩
    refine ⟨v, ?_, hb, hR⟩
    have hdst : R2 (Qo (Qd B p)) i = o.dst := by simp [R2, ho]
    rw [hdst] at hρ
    subst hρ
    have hdok : Uh n o.dst = true := by
      cases hdo : o.dst with
      | none => rfl
      | some d =>
        simp only [B3, Bool.and_eq_true, List.all_eq_true, decide_eq_true_eq] at hok
        have hmem : o ∈ (Qo (Qd B p)).toList := by rw [← Array.getElem?_toList] at ho; exact List.mem_of_getElem? ho
        have := hok.1 d (List.mem_filterMap.2 ⟨o, hmem, hdo⟩)
        exact Nat.ble_eq_true_of_le (Nat.succ_le_of_lt this)
    have hput := ha.putO hdok v
    have ht : a'.tmps = (a.put o.dst v).tmps := by
      apply Array.ext_getElem?
      intro t
      have h1 := ha''.get t
      have h2 := hput.get t
      rcases Nat.lt_or_ge t n with hlt | hge
      · have s1 : t < a'.tmps.size := by rw [ha''.size]; exact hlt
        have s2 : t < (a.put o.dst v).tmps.size := by rw [hput.size]; exact hlt
        rw [Array.getElem?_eq_getElem s1, Array.getElem?_eq_getElem s2]
        simp only [Array.getD_eq_getD_getElem?, Array.getElem?_eq_getElem s1, Array.getElem?_eq_getElem s2, Option.getD_some] at h1 h2
        rw [h1, h2]
      · rw [Array.getElem?_eq_none (by rw [ha''.size]; exact hge), Array.getElem?_eq_none (by rw [hput.size]; exact hge)]
    have hdd : a'.defers = (a.put o.dst v).defers := ha''.defers.trans hput.defers.symm
    cases a'
    cases hq : a.put o.dst v
    rw [hq] at ht hdd
    simp only at ht hdd
    rw [ht, hdd]
  · intro a w' hG hdf hsz hst hall
    have ha : FA n (fun t => a.tmps.getD t undef) a := fa_of (hdf.trans hd0) (hsz.trans hsz0)
    refine ⟨_, ha, hend _ w' (hdrew hG) (fun t ht => by
        have := hst t (Dy ht)
        rw [hev, hev] at this
        rw [← ha0.get t]; exact this) (fun j d hjd => ?_)⟩
    unfold Ll at hjd
    cases hj : (Qo (Qd B p))[j]? with
    | none => rw [hj] at hjd; cases hjd
    | some q =>
      rw [hj] at hjd
      simp only at hjd
      cases hq : q.dst with
      | none => rw [hq] at hjd; cases hjd
      | some x =>
        rw [hq] at hjd
        have hx : x = d := Nat.eq_of_beq_eq_true hjd
        subst hx
        exact hall j q x hj hq
theorem V3 {Q : He} (l : List (Nat × Value)) (h : Q7 ρ l) (next : Q .normal (Hn ρ l) w) : Q .normal ρ w := by
  rw [Qc h] at next
  exact next
theorem Qh.known {k : Nat} {K : Fr → World → Prop} (l : List (Nat × Value)) (h : Q7 ρ l) (next : Qh P n B p k K (Hn ρ l) w) : Qh P n B p k K ρ w := by
  rw [Qc h] at next
  exact next
end
theorem Qh.run {P : Program} {n : Nat} {ρ : Fr} {w : World} {B : Code} {p : List Bool} {k : Nat} {K : Fr → World → Prop} {v : Value}
    (h : Rv P n (Qo (Qd B p)) (((Qo (Qd B p)).toList.drop k).take 1) ρ w = some (Rr ρ (R2 (Qo (Qd B p)) k) v, w)) (next : K (Rr ρ (R2 (Qo (Qd B p)) k) v) w) : Qh P n B p k K ρ w := by
  intro a ha Q'
  cases ho : (Qo (Qd B p))[k]? with
  | none =>
    unfold wpOp
    rw [ho]
    have hd : R2 (Qo (Qd B p)) k = none := by simp [R2, ho]
    rw [hd] at next
    exact ⟨ρ, ha, next⟩
  | some o =>
    rw [Kd ho] at h
    have ht : (o :: (Qo (Qd B p)).toList.drop (k + 1)).take 1 = [o] := by simp
    rw [ht] at h
    unfold wpOp
    rw [ho]
    simp only [Rv] at h
    cases hdst : Uh n o.dst with
    | false => rw [hdst] at h; cases h
    | true =>
      rw [hdst] at h
      simp only at h
      simp only [D8 ha o]
      cases hw : Dj (Qo (Qd B p)) ρ o with
      | false =>
        rw [hw] at h
        simp only [Option.some.injEq, Prod.mk.injEq] at h
        simp only [Bool.false_eq_true, if_false]
        refine ⟨_, ha.putO hdst undef, ?_⟩
        rw [h.1]
        exact next
      | true =>
        rw [hw] at h
        simp only at h
        simp only [if_true]
        refine .inl ?_
        unfold Oper.wp
        rw [ha.eval]
        cases hr : (execOp (opv ρ) o).run P w with
        | halt x w1 => rw [hr] at h; cases h
        | ok nx w1 =>
          rw [hr] at h
          cases nx <;> first | (cases h; done) | skip
          · simp only [Option.some.injEq, Prod.mk.injEq] at h
            obtain ⟨h1, rfl⟩ := h
            refine ⟨_, ha.putO hdst _, ?_⟩
            rw [h1]
            exact next
          · simp only [Option.some.injEq, Prod.mk.injEq] at h
            obtain ⟨h1, rfl⟩ := h
            refine ⟨_, ha.putO hdst _, ?_⟩
            rw [h1]
            exact next
theorem Qg {ρ : Fr} {l : List (Nat × Value)} {d : Option Nat} {v : Value} (h : Q7 ρ l) : Rr (Hn ρ l) d v = Rr ρ d v := by rw [Qc h]
def Src1 (ops : Array Oper) (i : Nat) (l : List (Value → World → Prop)) (ρ : Fr) (t : Nat) (v : Value) : Prop :=
  (Ej ops t = true ∧ ρ t = v) ∨ ∃ j, Ek ops i j t = true ∧ Rl l j = FEq v
def SrcOk (ops : Array Oper) (i : Nat) (l : List (Value → World → Prop)) (ρ : Fr) : List (Nat × Value) → Prop
  | [] => True
  | x :: r => Src1 ops i l ρ x.1 x.2 ∧ SrcOk ops i l ρ r
theorem Kk {ops : Array Oper} {i : Nat} {l : List (Value → World → Prop)} {ρ ρ' : Fr} {w' : World} (hs : ∀ t, Ej ops t = true → ρ' t = ρ t) (ha : ∀ j d, Ek ops i j d = true → Rl l j (ρ' d) w') :
    ∀ src : List (Nat × Value), SrcOk ops i l ρ src → Q7 ρ' src
  | [], _ => trivial
  | x :: r, h => by
    refine ⟨?_, Kk hs ha r h.2⟩
    rcases h.1 with ⟨h1, h2⟩ | ⟨j, h1, h2⟩
    · exact (hs _ h1).trans h2
    · have := ha j x.1 h1
      rw [h2] at this
      exact this
theorem Owes.skip {P : Program} {n : Nat} {B : Code} {p : List Bool} {ρ : Fr} {w : World} {l : List (Value → World → Prop)} {i : Nat} (src : List (Nat × Value)) (hsrc : SrcOk (Qo (Qd B p)) i l ρ src) (d : Option Nat)
    (h : ∀ (ρ' : Fr), (Qo (Qd B p))[i]?.map (fun o => (Dj (Qo (Qd B p)) (Hn ρ' src) o, o.dst)) = some (false, d)) (hd : Uh n d = true) (hR : ∀ w, Rl l i undef w) : Owes P n B p ρ w l i := by
  intro ρ' w' hk hs hah
  have hkn := Kk hs hah src hsrc
  have hdd : R2 (Qo (Qd B p)) i = d := by
    have := h ρ'
    unfold R2
    cases ho : (Qo (Qd B p))[i]? with
    | none => rw [ho] at this; cases this
    | some o => rw [ho] at this; simp only [Option.map_some, Option.some.injEq, Prod.mk.injEq] at this; exact this.2
  refine Qh.known src hkn ?_
  exact Ma (h ρ') hd ⟨Below.refl _ _, undef, by rw [hdd]; exact Qg hkn, hR _⟩
theorem Re (p : Prop) [Decidable p] (X : Bool) (w : World) : (if p then Result.ok (Value.bool X) w else Result.ok (Value.bool false) w) = Result.ok (Value.bool (decide p && X)) w := by
  by_cases h : p <;> simp [h]
theorem Gm (p : Prop) [Decidable p] (X : Bool) (w : World) : (if p then Result.ok (Value.bool (!X)) w else Result.ok (Value.bool true) w) = Result.ok (Value.bool (!(decide p && X))) w := by
  by_cases h : p <;> simp [h]
theorem Nn (p : Prop) [Decidable p] (w : World) : (if p then Result.ok (Value.bool false) w else Result.ok (Value.bool true) w) = Result.ok (Value.bool (!decide p)) w := by
  by_cases h : p <;> simp [h]
theorem Gd {α : Type} [BEq α] [LawfulBEq α] [DecidableEq α] (a b : α) : (a == b) = decide (a = b) := by
  by_cases h : a = b <;> simp [h]
theorem Db {P : Program} {n : Nat} {ρ : Fr} {w : World} {B : Code} {p : List Bool} {k : Nat} {K : Fr → World → Prop} {d : Option Nat} {op : BinOp} {T T' : TypeId} {x y : Operand} {vx vy v : Value}
    (ho : B5 (Qd B p) k ρ = some (.binOp op T x y T', d)) (hd : Uh n d = true) (hx : opv ρ x = vx) (hy : opv ρ y = vy)
    (hrun : ∀ w : World, Sem.run P (do eqGuard op T x y vx vy; Go.binOp op T vx vy) w = .ok v w) (next : K (Rr ρ d v) w) : Qh P n B p k K ρ w := by
  refine Qh.val ho hd (fun o hop => ?_) next
  unfold execOp; rw [hop]
  subst hx hy
  have := hrun w
  simp only [Sem.run_bind] at this ⊢
  rw [this]
  rfl
def rvS (ρ : Fr) : ResultVar → Sem Value
  | .tmp t => pure (ρ t)
  | .cell a t => do loadVar t (← asAddr (ρ a))
theorem Dz {P : Program} {ρ : Fr} {w : World} {t : Nat} {v : Value} (h : ρ t = v) : (rvS ρ (.tmp t)).run P w = .ok v w := by subst h; rfl
theorem Gt {P : Program} {ρ : Fr} {w : World} {a t g off : Nat} {cs : Array Value} {e : TypeId} {fr : Nat × Nat} {v : Value} (h : ρ a = .pointer (some ⟨g, off, none⟩)) (hg : w.heap[g]? = some (.cells cs e fr)) (hl : loadF P t off cs = some v) : (rvS ρ (.cell a t)).run P w = .ok v w := by
  simp only [rvS, h, asAddr, Sem.run_bind, Sem.run_pure, Result.andThen_ok]
  exact Ig hl hg
theorem res_1 {P : Program} {fn : Func} {ρ : Fr} {w : World} {x : ResultVar} {v : Value} (h : fn.results = #[x]) (hx : (rvS ρ x).run P w = .ok v w) : (Da fn ρ).run P w = .ok v w := by
  have : Da fn ρ = (do let vs ← #[x].mapM (rvS ρ); pure (if h : vs.size = 1 then vs[0] else .tuple vs)) := by
    unfold Da; rw [h]; congr 1
  rw [this]
  simp [hx, Sem.run_bind, Result.andThen]
theorem Ex {P : Program} {fn : Func} {ρ : Fr} {w : World} {x y : ResultVar} {v u : Value} (h : fn.results = #[x, y]) (hx : (rvS ρ x).run P w = .ok v w) (hy : (rvS ρ y).run P w = .ok u w) : (Da fn ρ).run P w = .ok (.tuple #[v, u]) w := by
  have : Da fn ρ = (do let vs ← #[x, y].mapM (rvS ρ); pure (if h : vs.size = 1 then vs[0] else .tuple vs)) := by
    unfold Da; rw [h]; congr 1
  rw [this]
  simp [hx, hy, Sem.run_bind, Result.andThen]
end Go.Proofs.YtoflbpmbkmephaaGreatDoor
namespace Go.Proofs.YtoflbpmbkmephaaGreatDoor
open Go.RowKit
abbrev Stg := List Nat × (List Value → World → Prop)
def Kl (ops : Array Oper) (ρ : Fr) (h : Nat) : Value := match R2 ops h with | some d => ρ d | none => undef
def insN (i : Nat) : List Nat → List Nat
  | [] => [i]
  | x :: l => match Nat.ble i x with | true => i :: x :: l | false => x :: insN i l
theorem I3 {i h : Nat} : ∀ {l : List Nat}, h ∈ insN i l ↔ h = i ∨ h ∈ l
  | [] => by simp [insN]
  | x :: l => by
    unfold insN
    cases Nat.ble i x
    · simp only [List.mem_cons, I3 (l := l)]
      constructor
      · rintro (h | h | h) <;> simp [h]
      · rintro (h | h | h) <;> simp [h]
    · simp only [List.mem_cons]
def B7 (x : Nat) : List Nat → Bool
  | [] => false
  | y :: l => match Nat.beq x y with | true => true | false => B7 x l
theorem Bm {x : Nat} : ∀ {l : List Nat}, B7 x l = true ↔ x ∈ l
  | [] => by simp [B7]
  | y :: l => by
    unfold B7
    cases hb : Nat.beq x y
    · simp only [Bm (l := l), List.mem_cons]
      constructor
      · exact .inr
      · rintro (rfl | h)
        · rw [Nat.beq_refl] at hb; cases hb
        · exact h
    · simp [Nat.eq_of_beq_eq_true hb]
def Km (ops : Array Oper) (i : Nat) : List Nat := match ops[i]? with | some o => (o.after.toList.filter (fun e => Region.binds .any e)).map (·.on) | none => []
def Kn (ops : Array Oper) : Nat → List Nat → List Nat → List Nat
  | 0, _, acc => acc
  | _ + 1, [], acc => acc
  | m + 1, i :: todo, acc => match B7 i acc with | true => Kn ops m todo acc | false => Kn ops m (Km ops i ++ todo) (i :: acc)
def Gf (listed : Array Bool) (i : Nat) : Prop := listed.getD i false = true
def Closed (ops : Array Oper) (listed : Array Bool) : Prop := ∀ i, Gf listed i → ∀ j ∈ Km ops i, Gf listed j
theorem R3 {ops : Array Oper} {listed : Array Bool} (hc : Closed ops listed) : ∀ (m : Nat) (todo acc : List Nat), (∀ i ∈ todo, Gf listed i) → (∀ i ∈ acc, Gf listed i) → ∀ i ∈ Kn ops m todo acc, Gf listed i
  | 0, todo, acc, _, h2 => h2
  | m + 1, [], acc, _, h2 => h2
  | m + 1, x :: todo, acc, h1, h2 => by
    unfold Kn
    cases B7 x acc
    · refine R3 hc m _ _ (fun i hi => ?_) (fun i hi => ?_)
      · rcases List.mem_append.1 hi with h | h
        · exact hc x (h1 x (by simp)) i h
        · exact h1 i (by simp [h])
      · rcases List.mem_cons.1 hi with rfl | h
        · exact h1 i (by simp)
        · exact h2 i h
    · exact R3 hc m _ _ (fun i hi => h1 i (by simp [hi])) h2
def canAt (ops : Array Oper) (hv : List Nat) (M : List Nat) (i : Nat) : Bool :=
  !B7 i M && (Kn ops 4096 (Km ops i) []).all (fun j => !B7 j hv || B7 j M) && M.all (fun h => !B7 i (Kn ops 4096 [h] []))
def C8 (ops : Array Oper) (hv : List Nat) (masks : List (List Nat)) (i : Nat) (ss : List Nat) : Bool :=
  masks.zipIdx.all fun x => !canAt ops hv x.1 i || B7 x.2 ss
def GEq (u : Value) : Value → Prop := fun v => v = u
def Mb : Value → Prop := fun _ => True
def Gl : List (Value → Prop) → Nat → Value → Prop
  | [], _ => fun _ => True
  | x :: _, 0 => x
  | _ :: l, j + 1 => Gl l j
def VL : List Value → List Value → Prop
  | [], _ => True
  | _, [] => True
  | a :: l, b :: m => a = b ∧ VL l m
section
variable {P : Program} {n : Nat} {Q : He} {ρ : Fr} {w : World} {B : Code} {p : List Bool}
def Ln (ops : Array Oper) (l : List (Value → Prop)) (i : Nat) (ρ' : Fr) : Prop := ∀ j d, Ek ops i j d = true → Gl l j (ρ' d)
def oldB (ops : Array Oper) (i t : Nat) : Bool := Ej ops t || (List.range ops.size).any (fun j => Ll ops j t && B7 i (Kn ops 4096 [j] []))
def Ij (ops : Array Oper) (i : Nat) (ρ ρ' : Fr) : Prop := ∀ t, oldB ops i t = true → ρ' t = ρ t
def OwesP (P : Program) (n : Nat) (B : Code) (p : List Bool) (ρ : Fr) (l : List (Value → Prop)) (i : Nat) : Prop :=
  ∀ (ρ' : Fr) (w' : World), Ij (Qo (Qd B p)) i ρ ρ' → Ln (Qo (Qd B p)) l i ρ' →
    Qh P n B p i (fun ρ'' w'' => w'' = w' ∧ ∃ v, ρ'' = Rr ρ' (R2 (Qo (Qd B p)) i) v ∧ Gl l i v) ρ' w'
def OwesL (P : Program) (n : Nat) (B : Code) (p : List Bool) (ρ : Fr) (l : List (Value → Prop)) (s : Stg) (i : Nat) : Prop :=
  ∀ (ρ' : Fr) (w' : World), Ij (Qo (Qd B p)) i ρ ρ' → Ln (Qo (Qd B p)) l i ρ' → s.2 (s.1.map (Kl (Qo (Qd B p)) ρ')) w' →
    Qh P n B p i (fun ρ'' w'' => w'' = w' ∧ ∃ v, ρ'' = Rr ρ' (R2 (Qo (Qd B p)) i) v ∧ Gl l i v) ρ' w'
def OwesH (P : Program) (n : Nat) (B : Code) (p : List Bool) (ρ : Fr) (l : List (Value → Prop)) (s s' : Stg) (i : Nat) : Prop :=
  s'.1 = insN i s.1 ∧ ∀ (ρ' : Fr) (w' : World), Ij (Qo (Qd B p)) i ρ ρ' → Ln (Qo (Qd B p)) l i ρ' → s.2 (s.1.map (Kl (Qo (Qd B p)) ρ')) w' →
    Qh P n B p i (fun ρ'' w'' => ∃ v, ρ'' = Rr ρ' (R2 (Qo (Qd B p)) i) v ∧ Gl l i v ∧ s'.2 (s'.1.map (Kl (Qo (Qd B p)) (Rr ρ' (R2 (Qo (Qd B p)) i) v))) w'') ρ' w'
def Ui (S : List Stg) (k : Nat) : Stg := S.getD k ([], fun _ _ => False)
inductive Owe (P : Program) (n : Nat) (B : Code) (p : List Bool) (ρ : Fr) (l : List (Value → Prop)) (hv : List Nat) (S : List Stg) (i : Nat) : Prop
  | pure (hh : B7 i hv = false) (h : OwesP P n B p ρ l i)
  | light (hh : B7 i hv = false) (ss : List Nat) (hs : C8 (Qo (Qd B p)) hv (S.map (·.1)) i ss = true) (h : ∀ k ∈ ss, OwesL P n B p ρ l (Ui S k) i)
  | heavy (hh : B7 i hv = true) (ss : List (Nat × Nat)) (hs : C8 (Qo (Qd B p)) hv (S.map (·.1)) i (ss.map (·.1)) = true) (h : ∀ k ∈ ss, Nat.blt k.2 S.length = true ∧ OwesH P n B p ρ l (Ui S k.1) (Ui S k.2) i)
end
section
variable {P : Program} {ops : Array Oper} {Q : Exit → Act → World → Prop} {a0 : Act} {hv : List Nat} {S : List Stg} {l : List (Value → Prop)}
def Ge (a : Act) : Fr := fun t => a.tmps.getD t undef
structure InvS (ops : Array Oper) (hv : List Nat) (S : List Stg) (l : List (Value → Prop)) (a0 : Act) (listed : Array Bool) (a : Act) (w : World) : Prop where
  size : listed.size = ops.size
  defers : a.defers = a0.defers
  tmps : a.tmps.size = a0.tmps.size
  still : ∀ t, I2 ops t → a.eval (.tmp t) = a0.eval (.tmp t)
  closed : Closed ops listed
  old : ∀ j q d, ops[j]? = some q → ¬ Gf listed j → q.dst = some d → a.eval (.tmp d) = a0.eval (.tmp d)
  facts : ∀ j q d, ops[j]? = some q → Gf listed j → q.dst = some d → Gl l j (a.eval (.tmp d))
  stage : ∃ k, k < S.length ∧ (∀ h, B7 h hv = true → (Gf listed h ↔ h ∈ (Ui S k).1)) ∧ (∀ h ∈ (Ui S k).1, B7 h hv = true) ∧ (Ui S k).2 ((Ui S k).1.map (Kl ops (Ge a))) w
def PutsS (ops : Array Oper) (hv : List Nat) (S : List Stg) (l : List (Value → Prop)) (k i : Nat) (o : Oper) (a : Act) (w : World) (a' : Act) (w' : World) : Prop :=
  ∃ v, a' = a.put o.dst v ∧ Gl l i v ∧
    ((B7 i hv = false ∧ w' = w) ∨ ∃ k', B7 i hv = true ∧ k' < S.length ∧ (Ui S k').1 = insN i (Ui S k).1 ∧ (Ui S k').2 ((Ui S k').1.map (Kl ops (Ge (a.put o.dst v)))) w')
theorem D9 {listed : Array Bool} {i j : Nat} (hi : i < listed.size) : Gf (listed.setIfInBounds i true) j ↔ j = i ∨ Gf listed j := by
  unfold Gf
  simp only [Array.getD_eq_getD_getElem?]
  by_cases h : i = j
  · subst h
    simp [hi]
  · rw [Array.getElem?_setIfInBounds_ne h]
    constructor
    · exact .inr
    · rintro (h1 | h1)
      · exact absurd h1.symm h
      · exact h1
theorem Ik {i j : Nat} {o : Oper} (ho : ops[i]? = some o) : j ∈ Km ops i ↔ ∃ e ∈ o.after.toList, Region.binds .any e = true ∧ e.on = j := by
  unfold Km
  rw [ho]
  simp only [List.mem_map, List.mem_filter]
  constructor
  · rintro ⟨e, ⟨h1, h2⟩, h3⟩; exact ⟨e, h1, h2, h3⟩
  · rintro ⟨e, h1, h2, h3⟩; exact ⟨e, ⟨h1, h2⟩, h3⟩
theorem invS_step {listed : Array Bool} {a a' : Act} {w w' : World} {i k : Nat} {o : Oper} (hok : B3 ops a0.tmps.size = true) (ho : ops[i]? = some o) (hready : ∀ e ∈ o.after.toList, Region.binds .any e = true → Gf listed e.on)
    (h : InvS ops hv S l a0 listed a w) (hk : k < S.length) (hk1 : ∀ h, B7 h hv = true → (Gf listed h ↔ h ∈ (Ui S k).1)) (hk2 : ∀ h ∈ (Ui S k).1, B7 h hv = true) (hk3 : (Ui S k).2 ((Ui S k).1.map (Kl ops (Ge a))) w)
    (hni : ¬ Gf listed i) (hp : PutsS ops hv S l k i o a w a' w') : InvS ops hv S l a0 (listed.setIfInBounds i true) a' w' := by
  obtain ⟨v, rfl, hG, hcase⟩ := hp
  have hi : i < listed.size := by rw [h.size]; exact (Array.getElem?_eq_some_iff.1 ho).1
  simp only [B3, Bool.and_eq_true, List.all_eq_true, decide_eq_true_eq] at hok
  have hmem : ∀ d, o.dst = some d → d < a.tmps.size := fun d hd => by
    rw [h.tmps]
    exact hok.1 d (List.mem_filterMap.2 ⟨o, by rw [← Array.getElem?_toList] at ho; exact List.mem_of_getElem? ho, hd⟩)
  have hne : ∀ j q d, ops[j]? = some q → q.dst = some d → j ≠ i → o.dst ≠ some d := fun j q d hq hd hji hod =>
    hji (Ki _ hok.2 j i q o d (by rw [Array.getElem?_toList]; exact hq) (by rw [Array.getElem?_toList]; exact ho) hd hod)
  refine ⟨by simpa using h.size, ?_, ?_, ?_, ?_, ?_, ?_, ?_⟩
  · cases o.dst <;> simpa [Act.put] using h.defers
  · cases o.dst <;> simpa [Act.put] using h.tmps
  · intro t ht
    rw [N9 (ht o (by rw [← Array.getElem?_toList] at ho; exact List.mem_of_getElem? ho))]
    exact h.still t ht
  · intro j hj q hq
    rw [D9 hi] at hj ⊢
    rcases hj with rfl | hj
    · obtain ⟨e, he, hb, rfl⟩ := (Ik ho).1 hq
      exact .inr (hready e he hb)
    · exact .inr (h.closed j hj q hq)
  · intro j q d hq hj hd
    rw [D9 hi] at hj
    rw [N9 (hne j q d hq hd fun e => hj (.inl e))]
    exact h.old j q d hq (fun hl => hj (.inr hl)) hd
  · intro j q d hq hj hd
    rw [D9 hi] at hj
    by_cases hij : j = i
    · subst hij
      rw [ho] at hq; injection hq with hq; subst hq
      rw [hd, Ew (hmem d hd)]
      exact hG
    · rw [N9 (hne j q d hq hd hij)]
      exact h.facts j q d hq (hj.resolve_left hij) hd
  · rcases hcase with ⟨hnh, rfl⟩ | ⟨k', hh, hk', hM, hP⟩
    · refine ⟨k, hk, fun x hx => ?_, hk2, ?_⟩
      · rw [D9 hi]
        constructor
        · rintro (rfl | h1)
          · rw [hnh] at hx; cases hx
          · exact (hk1 x hx).1 h1
        · exact fun h1 => .inr ((hk1 x hx).2 h1)
      · have e : (Ui S k).1.map (Kl ops (Ge (a.put o.dst v))) = (Ui S k).1.map (Kl ops (Ge a)) := by
          refine List.map_congr_left fun x hx => ?_
          have hxi : x ≠ i := fun e => by subst e; rw [hk2 x hx] at hnh; cases hnh
          unfold Kl R2
          cases hq : ops[x]? with
          | none => rfl
          | some q =>
            simp only [Option.bind_some]
            cases hd : q.dst with
            | none => rfl
            | some d => exact N9 (hne x q d hq hd hxi)
        rw [e]
        exact hk3
    · refine ⟨k', hk', fun x hx => ?_, fun x hx => ?_, hP⟩
      · rw [D9 hi, hM, I3]
        constructor
        · rintro (rfl | h1)
          · exact .inl rfl
          · exact .inr ((hk1 x hx).1 h1)
        · rintro (rfl | h1)
          · exact .inl rfl
          · exact .inr ((hk1 x hx).2 h1)
      · rw [hM, I3] at hx
        rcases hx with rfl | hx
        · exact hh
        · exact hk2 x hx
theorem canAt_of {listed : Array Bool} {i k : Nat} {o : Oper} (ho : ops[i]? = some o) (hc : Closed ops listed) (hready : ∀ e ∈ o.after.toList, Region.binds .any e = true → Gf listed e.on) (hni : ¬ Gf listed i)
    (hk1 : ∀ h, B7 h hv = true → (Gf listed h ↔ h ∈ (Ui S k).1)) (hk2 : ∀ h ∈ (Ui S k).1, B7 h hv = true) : canAt ops hv (Ui S k).1 i = true := by
  unfold canAt
  simp only [Bool.and_eq_true, Bool.not_eq_true', List.all_eq_true, Bool.or_eq_true]
  refine ⟨⟨?_, fun j hj => ?_⟩, fun h hh => ?_⟩
  · cases hm : B7 i (Ui S k).1 with
    | false => rfl
    | true =>
      have := Bm.1 hm
      exact absurd ((hk1 i (hk2 i this)).2 this) hni
  · cases hm : B7 j hv with
    | false => exact .inl rfl
    | true =>
      refine .inr (Bm.2 ((hk1 j hm).1 (R3 hc 4096 _ _ (fun x hx => ?_) (fun x hx => by simp at hx) j hj)))
      obtain ⟨e, he, hb, rfl⟩ := (Ik ho).1 hx
      exact hready e he hb
  · cases hm : B7 i (Kn ops 4096 [h] []) with
    | false => rfl
    | true =>
      exact absurd (R3 hc 4096 [h] [] (fun x hx => by
        have : x = h := by simpa using hx
        subst this
        exact (hk1 x (hk2 x hh)).2 hh) (fun x hx => by simp at hx) i (Bm.1 hm)) hni
theorem Il {masks : List (List Nat)} {i k : Nat} {ss : List Nat} {M : List Nat} (h : C8 ops hv masks i ss = true) (hk : masks[k]? = some M) (hc : canAt ops hv M i = true) : k ∈ ss := by
  unfold C8 at h
  rw [List.all_eq_true] at h
  have := h (M, k) (by rw [List.mem_iff_getElem?]; exact ⟨k, by rw [List.getElem?_zipIdx, hk]; simp⟩)
  simp only [hc, Bool.not_true, Bool.false_or] at this
  exact Bm.1 this
theorem old_of {listed : Array Bool} {a : Act} {w : World} {i : Nat} (h : InvS ops hv S l a0 listed a w) (hni : ¬ Gf listed i) (t : Nat) (ht : oldB ops i t = true) : a.eval (.tmp t) = a0.eval (.tmp t) := by
  unfold oldB at ht
  rw [Bool.or_eq_true, List.any_eq_true] at ht
  rcases ht with ht | ⟨j, _, hj⟩
  · exact h.still t (Dy ht)
  · rw [Bool.and_eq_true] at hj
    obtain ⟨h1, h2⟩ := hj
    have hnj : ¬ Gf listed j := fun hl => hni (R3 h.closed 4096 [j] [] (fun x hx => by
      have : x = j := by simpa using hx
      subst this
      exact hl) (fun x hx => by simp at hx) i (Bm.1 h2))
    unfold Ll at h1
    cases hq : ops[j]? with
    | none => rw [hq] at h1; cases h1
    | some q =>
      rw [hq] at h1
      simp only at h1
      cases hd : q.dst with
      | none => rw [hd] at h1; cases h1
      | some d =>
        rw [hd] at h1
        have e : d = t := Nat.eq_of_beq_eq_true h1
        subst e
        exact h.old j q d hq hnj hd
theorem Ko (hok : B3 ops a0.tmps.size = true)
    (hstep : ∀ i o k, ops[i]? = some o → k < S.length → canAt ops hv (Ui S k).1 i = true → ∀ a w, a.defers = a0.defers → a.tmps.size = a0.tmps.size → (∀ t, oldB ops i t = true → a.eval (.tmp t) = a0.eval (.tmp t)) →
      (∀ e ∈ o.after.toList, Region.binds .any e = true → ∀ q d, ops[e.on]? = some q → q.dst = some d → Gl l e.on (a.eval (.tmp d))) → (Ui S k).2 ((Ui S k).1.map (Kl ops (Ge a))) w → wpOp P ops Q i (PutsS ops hv S l k i o a w) a w)
    (hend : ∀ k a w, k < S.length → (∀ h, h < ops.size → B7 h hv = true → h ∈ (Ui S k).1) → a.defers = a0.defers → a.tmps.size = a0.tmps.size → (∀ t, I2 ops t → a.eval (.tmp t) = a0.eval (.tmp t)) →
      (∀ j q d, ops[j]? = some q → q.dst = some d → Gl l j (a.eval (.tmp d))) → (Ui S k).2 ((Ui S k).1.map (Kl ops (Ge a))) w → Q .normal a w)
    (hfull : ∀ listed : Array Bool, listed.size = ops.size → Region.ready .any ops listed = [] → ∀ j, j < ops.size → listed.getD j false = true) :
    ∀ (Y1 : Nat) (listed : Array Bool) (a : Act) (w : World), (listed.toList.filter (! ·)).length ≤ Y1 → InvS ops hv S l a0 listed a w → wpAny P .any ops Q Y1 listed a w := by
  have fin : ∀ (listed : Array Bool) (a : Act) (w : World), Region.ready .any ops listed = [] → InvS ops hv S l a0 listed a w → Q .normal a w := by
    intro listed a w hr h
    obtain ⟨k, hk, hk1, hk2, hk3⟩ := h.stage
    have hall := hfull listed h.size hr
    exact hend k a w hk (fun x hx hm => (hk1 x hm).1 (hall x hx)) h.defers h.tmps h.still (fun j q d hj hd => h.facts j q d hj (hall j (Array.getElem?_eq_some_iff.1 hj).1) hd) hk3
  intro Y1
  induction Y1 with
  | zero =>
    intro listed a w hl hinv
    have hr : Region.ready .any ops listed = [] := by
      unfold Region.ready
      rw [List.filter_eq_nil_iff]
      intro i hi
      have hi' : i < listed.size := by rw [hinv.size]; simpa using hi
      have hlist : listed.getD i true = true := by
        have hempty : listed.toList.filter (! ·) = [] := List.eq_nil_of_length_eq_zero (by omega)
        rw [List.filter_eq_nil_iff] at hempty
        have := hempty listed[i] (by rw [← Array.getElem_toList]; exact List.getElem_mem _)
        simpa [Array.getD, hi'] using this
      simp [hlist]
    exact ⟨hr, fin _ _ _ hr hinv⟩
  | succ Y1 ih =>
    intro listed a w hl hinv
    refine ⟨fun hr => fin _ _ _ hr hinv, fun i hi => ?_⟩
    obtain ⟨o, ho, hedge⟩ := Kj hinv.size hi
    unfold Region.ready at hi
    simp only [List.mem_filter, List.mem_range, Bool.and_eq_true] at hi
    have hi' : i < listed.size := by rw [hinv.size]; exact hi.1
    have hf : listed[i] = false := by
      have := hi.2.1
      simpa [Array.getD, hi'] using this
    have hni : ¬ Gf listed i := by
      unfold Gf
      simp [Array.getD, hi', hf]
    obtain ⟨k, hk, hk1, hk2, hk3⟩ := hinv.stage
    refine wpOp_mono (fun a' w' hp => ih _ a' w' ?_ (invS_step hok ho hedge hinv hk hk1 hk2 hk3 hni hp))
      (hstep i o k ho hk (canAt_of ho hinv.closed hedge hni hk1 hk2) a w hinv.defers hinv.tmps (old_of hinv hni) (fun e he hb q d hq hd => hinv.facts e.on q d hq (hedge e he hb) hd) hk3)
    have hcount : ∀ (l : List Bool) (k : Nat), l[k]? = some false → ((l.set k true).filter (! ·)).length + 1 = (l.filter (! ·)).length := by
      intro l
      induction l with
      | nil => intro k hk; simp at hk
      | cons x r ihr =>
        intro k hk
        cases k with
        | zero => simp at hk; subst hk; simp
        | succ k =>
          simp at hk
          have := ihr k hk
          cases x <;> simp [List.set] <;> omega
    have := hcount listed.toList i (by rw [Array.getElem?_toList, Array.getElem?_eq_getElem hi', hf])
    simp only [Array.toList_setIfInBounds]
    omega
end
section
variable {P : Program} {n : Nat} {Q : He} {ρ : Fr} {w : World} {B : Code} {p : List Bool}
theorem At.stages (h : Gs 5 (Qd B p) = true) (hd : C6 (Qd B p) = true) (hm : P.follows .mixedOrders = true) (hok : B3 (Qo (Qd B p)) n = true) (he : Fi (Qo (Qd B p)) = true)
    (l : List (Value → Prop)) (hv : List Nat) (S : List Stg) {N : Nat} (hN : (Qo (Qd B p)).size = N) (h0 : (Ui S 0).1 = [] ∧ 0 < S.length) (hS : (Ui S 0).2 [] w.drew) (hobs : Obs N (Owe P n B p ρ l hv S))
    {last : Nat} (hlast : (S.map (·.1)).zipIdx.all (fun x => Nat.beq x.2 last || (List.range N).any (fun i => B7 i hv && !B7 i x.1)) = true)
    (hend : ∀ (ρ' : Fr) (w' : World), (∀ t, Ej (Qo (Qd B p)) t = true → ρ' t = ρ t) → (∀ j d, Ll (Qo (Qd B p)) j d = true → Gl l j (ρ' d)) → (Ui S last).2 ((Ui S last).1.map (Kl (Qo (Qd B p)) ρ')) w' → Q .normal ρ' w') : At P n B p Q ρ w := by
  intro a0 ha0
  have hreg := Hf h
  rw [hreg, hd]
  have hd0 : a0.defers = [] := ha0.defers
  have hsz0 : a0.tmps.size = n := ha0.size
  have hev : ∀ (a : Act) (t : Nat), a.eval (.tmp t) = a.tmps.getD t undef := fun _ _ => rfl
  have hstill : ∀ (a : Act), (∀ t, I2 (Qo (Qd B p)) t → a.eval (.tmp t) = a0.eval (.tmp t)) → ∀ t, Ej (Qo (Qd B p)) t = true → Ge a t = ρ t := fun a hst t ht => by
    have := hst t (Dy ht)
    rw [hev, hev] at this
    rw [← ha0.get t]; exact this
  have hstillI : ∀ (i : Nat) (a : Act), (∀ t, oldB (Qo (Qd B p)) i t = true → a.eval (.tmp t) = a0.eval (.tmp t)) → Ij (Qo (Qd B p)) i ρ (Ge a) := fun i a hst t ht => by
    have := hst t ht
    rw [hev, hev] at this
    rw [← ha0.get t]; exact this
  have hmask : ∀ k, k < S.length → (S.map (·.1))[k]? = some (Ui S k).1 := fun k hk => by
    rw [List.getElem?_map]
    unfold Ui
    rw [List.getD_eq_getElem?_getD, List.getElem?_eq_getElem hk]
    rfl
  refine wp_region_any hm ?_
  refine Ko (l := l) (hv := hv) (S := S) (a0 := a0) (by rw [hsz0]; exact hok) ?_ ?_ (full_of he) _ _ _ _ ?_ ?_
  · intro i o k ho hk hcan a w' hdf hsz hst hah hstage
    have hlt : i < N := by rw [← hN]; exact (Array.getElem?_eq_some_iff.1 ho).1
    have ha : FA n (Ge a) a := fa_of (hdf.trans hd0) (hsz.trans hsz0)
    have hfacts : Ln (Qo (Qd B p)) l i (Ge a) := fun j d hjd => by
      unfold Ek at hjd
      rw [ho] at hjd
      cases hj : (Qo (Qd B p))[j]? with
      | none => rw [hj] at hjd; cases hjd
      | some q =>
        rw [hj] at hjd
        simp only [Bool.and_eq_true, List.any_eq_true] at hjd
        obtain ⟨⟨e, hem, hon, hbind⟩, hdst⟩ := hjd
        have hon := Nat.eq_of_beq_eq_true hon
        cases hq : q.dst with
        | none => rw [hq] at hdst; cases hdst
        | some x =>
          rw [hq] at hdst
          have hx : x = d := Nat.eq_of_beq_eq_true hdst
          subst hx
          have := hah e hem hbind q x (by rw [hon]; exact hj) hq
          rw [hon] at this
          exact this
    have hdst : R2 (Qo (Qd B p)) i = o.dst := by simp [R2, ho]
    have hdok : Uh n o.dst = true := by
      cases hdo : o.dst with
      | none => rfl
      | some d =>
        simp only [B3, Bool.and_eq_true, List.all_eq_true, decide_eq_true_eq] at hok
        have hmem : o ∈ (Qo (Qd B p)).toList := by rw [← Array.getElem?_toList] at ho; exact List.mem_of_getElem? ho
        have := hok.1 d (List.mem_filterMap.2 ⟨o, hmem, hdo⟩)
        exact Nat.ble_eq_true_of_le (Nat.succ_le_of_lt this)
    have same : ∀ (a' : Act) (ρ'' : Fr) (v : Value), FA n ρ'' a' → ρ'' = Rr (Ge a) (R2 (Qo (Qd B p)) i) v → a' = a.put o.dst v ∧ Ge (a.put o.dst v) = Rr (Ge a) (R2 (Qo (Qd B p)) i) v := by
      intro a' ρ'' v ha'' hρ
      rw [hdst] at hρ ⊢
      subst hρ
      have hput := ha.putO hdok v
      refine ⟨?_, funext fun t => hput.get t⟩
      have ht : a'.tmps = (a.put o.dst v).tmps := by
        apply Array.ext_getElem?
        intro t
        have h1 := ha''.get t
        have h2 := hput.get t
        rcases Nat.lt_or_ge t n with hlt | hge
        · have s1 : t < a'.tmps.size := by rw [ha''.size]; exact hlt
          have s2 : t < (a.put o.dst v).tmps.size := by rw [hput.size]; exact hlt
          rw [Array.getElem?_eq_getElem s1, Array.getElem?_eq_getElem s2]
          simp only [Array.getD_eq_getD_getElem?, Array.getElem?_eq_getElem s1, Array.getElem?_eq_getElem s2, Option.getD_some] at h1 h2
          rw [h1, h2]
        · rw [Array.getElem?_eq_none (by rw [ha''.size]; exact hge), Array.getElem?_eq_none (by rw [hput.size]; exact hge)]
      have hdd : a'.defers = (a.put o.dst v).defers := ha''.defers.trans hput.defers.symm
      cases a'
      cases hq : a.put o.dst v
      rw [hq] at ht hdd
      simp only at ht hdd
      rw [ht, hdd]
    rcases Lm hobs i hlt with ⟨hh, howe⟩ | ⟨hh, ss, hs, howe⟩ | ⟨hh, ss, hs, howe⟩
    · refine wpOp_mono ?_ (howe (Ge a) w' (hstillI i a hst) hfacts a ha _)
      rintro a' w'' ⟨ρ'', ha'', hw, v, hρ, hG⟩
      exact ⟨v, (same a' ρ'' v ha'' hρ).1, hG, .inl ⟨hh, hw⟩⟩
    · refine wpOp_mono ?_ (howe k (Il hs (hmask k hk) hcan) (Ge a) w' (hstillI i a hst) hfacts hstage a ha _)
      rintro a' w'' ⟨ρ'', ha'', hw, v, hρ, hG⟩
      exact ⟨v, (same a' ρ'' v ha'' hρ).1, hG, .inl ⟨hh, hw⟩⟩
    · obtain ⟨kk, hkm, hke⟩ := List.mem_map.1 (Il hs (hmask k hk) hcan)
      have hke' : kk.1 = k := hke
      obtain ⟨hk'lt0, hM, howe'⟩ := howe kk hkm
      have hk'lt : kk.2 < S.length := Nat.le_of_ble_eq_true hk'lt0
      rw [hke'] at howe' hM
      refine wpOp_mono ?_ (howe' (Ge a) w' (hstillI i a hst) hfacts hstage a ha _)
      rintro a' w'' ⟨ρ'', ha'', v, hρ, hG, hP⟩
      obtain ⟨e1, e2⟩ := same a' ρ'' v ha'' hρ
      rw [← e2] at hP
      exact ⟨v, e1, hG, .inr ⟨kk.2, hh, hk'lt, hM, hP⟩⟩
  · intro k a w' hk hall hdf hsz hst hfacts hstage
    have ha : FA n (Ge a) a := fa_of (hdf.trans hd0) (hsz.trans hsz0)
    have hkl : k = last := by
      rw [List.all_eq_true] at hlast
      have := hlast ((Ui S k).1, k) (by rw [List.mem_iff_getElem?]; exact ⟨k, by rw [List.getElem?_zipIdx, hmask k hk]; simp⟩)
      simp only [Bool.or_eq_true, List.any_eq_true, Bool.and_eq_true, Bool.not_eq_true', List.mem_range] at this
      rcases this with h1 | ⟨i, hi, h1, h2⟩
      · exact Nat.eq_of_beq_eq_true h1
      · have := Bm.2 (hall i (by rw [hN]; exact hi) h1)
        rw [this] at h2
        cases h2
    rw [hkl] at hstage
    refine ⟨_, ha, hend _ w' (hstill a hst) (fun j d hjd => ?_) hstage⟩
    unfold Ll at hjd
    cases hj : (Qo (Qd B p))[j]? with
    | none => rw [hj] at hjd; cases hjd
    | some q =>
      rw [hj] at hjd
      simp only at hjd
      cases hq : q.dst with
      | none => rw [hq] at hjd; cases hjd
      | some x =>
        rw [hq] at hjd
        have hx : x = d := Nat.eq_of_beq_eq_true hjd
        subst hx
        exact hfacts j q x hj hq
  · simp [List.filter_replicate]
  · refine ⟨by simp, rfl, rfl, fun _ _ => rfl, ?_, fun _ _ _ _ _ _ => rfl, ?_, 0, h0.2, fun h _ => ?_, fun h hh => ?_, ?_⟩
    · intro j hj
      exfalso
      unfold Gf at hj
      simp only [Array.getD_eq_getD_getElem?, Array.getElem?_replicate] at hj
      split at hj <;> simp at hj
    · intro j q d hq hj _
      exfalso
      unfold Gf at hj
      simp only [Array.getD_eq_getD_getElem?, Array.getElem?_replicate] at hj
      split at hj <;> simp at hj
    · rw [h0.1]
      unfold Gf
      simp only [Array.getD_eq_getD_getElem?, Array.getElem?_replicate]
      constructor
      · intro hj; split at hj <;> simp at hj
      · intro hj; simp at hj
    · rw [h0.1] at hh; simp at hh
    · rw [h0.1]; exact hS
def El (A : Option Addr) (sz : Nat) (iz : Int) : Value → Prop := fun v => ∃ b off : Nat, A = some ⟨b, off, none⟩ ∧ v = .pointer (some ⟨b, off + iz.toNat * sz, none⟩)
theorem Yr {α : Type} {e : Enc α} {w : World} {A : Option Addr} {c b off : Nat} {l : List α} {iz : Int} (hr : RdT e w A c l) (hA : A = some ⟨b, off, none⟩) (h0 : 0 ≤ iz) (h1 : iz < (l.length : Int)) :
    ∀ j u, (Vw e l)[j]? = some u → w.cell? ⟨b, off + j, none⟩ = some u := by
  obtain ⟨_, _, _, h4⟩ := hr
  obtain ⟨b', off', hA', hb, hc⟩ := h4 (by omega)
  rw [hA] at hA'
  injection hA' with hA'
  injection hA' with e1 e2 _
  subst e1 e2
  exact hc
theorem Bn {α : Type} {e : Enc α} {l : List α} {x : α} {b off : Nat} {iz : Int} {xs : List Value} {w : World} (hc : ∀ j u, (Vw e l)[j]? = some u → w.cell? ⟨b, off + j, none⟩ = some u) (hx : l[iz.toNat]? = some x) (hxs : (e.enc x).take xs.length = xs) :
    ∀ j u, xs[j]? = some u → w.cell? ⟨b, off + iz.toNat * e.sz + j, none⟩ = some u := by
  intro j u hu
  refine J3 hc hx ?_
  rw [← hxs, List.getElem?_take] at hu
  split at hu
  · exact hu
  · cases hu
theorem Qv {ops : Array Oper} {ρ : Fr} {h d : Nat} (hd : R2 ops h = some d) : Kl ops ρ h = ρ d := by unfold Kl; rw [hd]
theorem Hp {α : Type} {e : Enc α} {A : Option Addr} {c : Nat} {l m : List α} {k : Nat} {d : Option Nat} {K : Fr → World → Prop} {T E : TypeId} {x : Operand} {lo hi : Option Operand} {i j : Int} (ho : B5 (Qd B p) k ρ = some (.slice T x lo hi none, d)) (hd : Uh n d = true)
    (hx : opv ρ x = .slice A l.length c) (hT : P.underlying T = some (.slice E)) (hE : (P.info? E).map (·.size) = some e.sz) (hlo : Ii ρ lo i 0) (hhi : Ii ρ hi j l.length) (hc : l.length ≤ c)
    (h0 : 0 ≤ i) (h1 : i ≤ j) (h2 : j ≤ (l.length : Int)) (hm : List.drop i.toNat (List.take j.toNat l) = m)
    (next : K (Rr ρ d (.slice (H9 e.sz c i.toNat A) m.length (c - i.toNat))) w) : Qh P n B p k K ρ w := by
  refine Qh.slice (e := e) ho hd hx hT hE hlo hhi hc h0 h1 h2 ?_
  intro A' c' hA hcc _
  subst hA hcc hm
  exact next
def SrcG1 (ops : Array Oper) (i : Nat) (l : List (Value → Prop)) (ρ : Fr) (t : Nat) (v : Value) : Prop :=
  (oldB ops i t = true ∧ ρ t = v) ∨ ∃ j, Ek ops i j t = true ∧ Gl l j = GEq v
def SrcG (ops : Array Oper) (i : Nat) (l : List (Value → Prop)) (ρ : Fr) : List (Nat × Value) → Prop
  | [] => True
  | x :: r => SrcG1 ops i l ρ x.1 x.2 ∧ SrcG ops i l ρ r
theorem Fj {ops : Array Oper} {i : Nat} {l : List (Value → Prop)} {ρ ρ' : Fr} (hs : Ij ops i ρ ρ') (ha : Ln ops l i ρ') :
    ∀ src : List (Nat × Value), SrcG ops i l ρ src → Q7 ρ' src
  | [], _ => trivial
  | x :: r, h => by
    refine ⟨?_, Fj hs ha r h.2⟩
    rcases h.1 with ⟨h1, h2⟩ | ⟨j, h1, h2⟩
    · exact (hs _ h1).trans h2
    · have := ha j x.1 h1
      rw [h2] at this
      exact this
theorem Owe.run {l : List (Value → Prop)} {hv : List Nat} {S : List Stg} {i : Nat} (hh : B7 i hv = false) (src : List (Nat × Value)) (hsrc : SrcG (Qo (Qd B p)) i l ρ src) (v : Value)
    (h : ∀ (ρ' : Fr) (w' : World), Rv P n (Qo (Qd B p)) (((Qo (Qd B p)).toList.drop i).take 1) (Hn ρ' src) w' = some (Rr (Hn ρ' src) (R2 (Qo (Qd B p)) i) v, w')) (hR : Gl l i v) : Owe P n B p ρ l hv S i := by
  refine .pure hh fun ρ' w' hs hah => ?_
  have hkn := Fj hs hah src hsrc
  refine Qh.known src hkn ?_
  exact Qh.run (h ρ' w') ⟨rfl, v, Qg hkn, hR⟩
theorem Owe.skip {l : List (Value → Prop)} {hv : List Nat} {S : List Stg} {i : Nat} (hh : B7 i hv = false) (src : List (Nat × Value)) (hsrc : SrcG (Qo (Qd B p)) i l ρ src) (d : Option Nat)
    (h : ∀ (ρ' : Fr), (Qo (Qd B p))[i]?.map (fun o => (Dj (Qo (Qd B p)) (Hn ρ' src) o, o.dst)) = some (false, d)) (hd : Uh n d = true) (hR : Gl l i undef) : Owe P n B p ρ l hv S i := by
  refine .pure hh fun ρ' w' hs hah => ?_
  have hkn := Fj hs hah src hsrc
  have hdd : R2 (Qo (Qd B p)) i = d := by
    have := h ρ'
    unfold R2
    cases ho : (Qo (Qd B p))[i]? with
    | none => rw [ho] at this; cases this
    | some o => rw [ho] at this; simp only [Option.map_some, Option.some.injEq, Prod.mk.injEq] at this; exact this.2
  refine Qh.known src hkn ?_
  exact Ma (h ρ') hd ⟨rfl, undef, by rw [hdd]; exact Qg hkn, hR⟩
theorem Vl {α : Type} {Φ : α → Prop} : ∀ k ∈ ([] : List α), Φ k := fun _ h => by simp at h
theorem Qe {α : Type} {Φ : α → Prop} {x : α} {l : List α} (h : Φ x) (t : ∀ k ∈ l, Φ k) : ∀ k ∈ x :: l, Φ k := fun k hk => by
  rcases List.mem_cons.1 hk with rfl | hk
  · exact h
  · exact t k hk
end
section
variable {P : Program} {n : Nat} {B : Code} {q : List Bool} {Q : He} {ρ : Fr} {w : World}
theorem aQ (k : At P n B (false :: q).reverse (Iz (At P n B (true :: q).reverse Q) Q) ρ w) (h : Gs 1 (Qd B q.reverse) = true := by kernel_rfl) : At P n B q.reverse Q ρ w := At.sq h k
end
section
variable {P : Program} {n : Nat} {B : Code} {p : List Bool} {Q : He} {ρ : Fr} {w w0 : World} {k : Nat} {K : Fr → World → Prop} {S : List Nat} {es : List Ent}
theorem aR (h : In P n B p 0 Q ρ w) (h1 : Gs 5 (Qd B p) = true := by kernel_rfl) (h2 : C6 (Qd B p) = false := by kernel_rfl) : At P n B p Q ρ w := At.region h1 h2 h
theorem iF (h : Q .normal ρ w) (hk : (Qo (Qd B p)).size = k := by kernel_rfl) : In P n B p k Q ρ w := In.fin hk h
theorem iS (k' : Nat) (h : Qh P n B p k (In P n B p k' Q) ρ w) (hk : k' = k + 1 := by exact rfl) (hs : Nat.blt k (Qo (Qd B p)).size = true := by kernel_rfl) : In P n B p k Q ρ w := In.step hk hs h
theorem iR (m k' : Nat) (l : List (Nat × Value)) (h : In P n B p k' Q (Hn ρ l) w) (hk : k' = k + m := by exact rfl)
    (h1 : Rv P n (Qo (Qd B p)) (((Qo (Qd B p)).toList.drop k).take m) ρ w = some (Hn ρ l, w) := by kernel_rfl) : In P n B p k Q ρ w := In.run' m hk l h1 h
theorem kN (l : List (Nat × Value)) (h : Q7 ρ l) (next : Q7 ρ l → Qh P n B p k K (Hn ρ l) w) : Qh P n B p k K ρ w := Qh.known l h (next h)
theorem eK {l : List (Nat × Value)} {L : List (Value → Prop)} {i : Nat} {d d' : Option Nat} {v : Value} (h : Q7 ρ l) (hd : d' = d := by kernel_rfl) (hG : Gl L i v := by exact rfl) : w = w ∧ ∃ v', Rr (Hn ρ l) d v = Rr ρ d' v' ∧ Gl L i v' := by
  subst hd
  exact ⟨rfl, v, Qg h, hG⟩
theorem oL {l : List (Value → Prop)} {hv : List Nat} {S : List Stg} {i : Nat} (a : Nat) (h : OwesL P n B p ρ l (Ui S a) i) (hh : B7 i hv = false := by kernel_rfl)
    (hs : C8 (Qo (Qd B p)) hv (S.map (·.1)) i [a] = true := by kernel_rfl) : Owe P n B p ρ l hv S i := .light hh [a] hs (Qe h Vl)
theorem oH {l : List (Value → Prop)} {hv : List Nat} {S : List Stg} {i : Nat} (a b : Nat) (h : ∀ (ρ' : Fr) (w' : World), Ij (Qo (Qd B p)) i ρ ρ' → Ln (Qo (Qd B p)) l i ρ' → (Ui S a).2 ((Ui S a).1.map (Kl (Qo (Qd B p)) ρ')) w' →
      Qh P n B p i (fun ρ'' w'' => ∃ v, ρ'' = Rr ρ' (R2 (Qo (Qd B p)) i) v ∧ Gl l i v ∧ (Ui S b).2 ((Ui S b).1.map (Kl (Qo (Qd B p)) (Rr ρ' (R2 (Qo (Qd B p)) i) v))) w'') ρ' w')
    (hh : B7 i hv = true := by kernel_rfl) (hs : C8 (Qo (Qd B p)) hv (S.map (·.1)) i [a] = true := by kernel_rfl) (hb : Nat.blt b S.length = true := by kernel_rfl) (hi : (Ui S b).1 = insN i (Ui S a).1 := by kernel_rfl) : Owe P n B p ρ l hv S i :=
  .heavy hh [(a, b)] hs (Qe ⟨hb, hi, h⟩ Vl)
theorem sL {t' : TypeId} {cs : Array Value} (t x g off i : Nat) (v : Value) (d : Nat) (hs : SP S w0 w es) (hi : es[i]? = some (Qk g t' cs)) (next : K (Rr ρ (some d) v) w) (ho : B5 (Qd B p) k ρ = some (.load t (.tmp x), some d) := by kernel_rfl)
    (hd : Uh n (some d) = true := by exact rfl) (hv : opv ρ (.tmp x) = .pointer (some ⟨g, off, none⟩) := by kernel_rfl) (hl : loadF P t off cs = some v := by kernel_rfl) : Qh P n B p k K ρ w := Qh.load ho hd hv hs hi hl next
theorem sC (t x b off : Nat) (v : Value) (d : Nat) (hc : w.cell? ⟨b, off, none⟩ = some v) (next : K (Rr ρ (some d) v) w) (ho : B5 (Qd B p) k ρ = some (.load t (.tmp x), some d) := by kernel_rfl)
    (hd : Uh n (some d) = true := by exact rfl) (hx : opv ρ (.tmp x) = .pointer (some ⟨b, off, none⟩) := by kernel_rfl) (ht : (P.underlying t).map aggD = some false := by kernel_rfl) : Qh P n B p k K ρ w := Qh.cell ho hd hx ht hc next
theorem cF {args : List Value} {R : Ending → World → Prop} (f : FuncId) (xs : Array Operand) (tys : Array TypeId) (d : Nat) (hcf : ∀ (args : Array Value) (w : World), (callFunc f args).run P w = .ok (.enter f args) w) (hc : Calls P f args.toArray w R)
    (next : ∀ e w', R e w' → ∃ v, e = .returned v ∧ K (Rr ρ (some d) v) w') (ho : B5 (Qd B p) k ρ = some (.call { callee := .value (.func f), args := xs, argTypes := tys }, some d) := by kernel_rfl) (hd : Uh n (some d) = true := by exact rfl)
    (hf : opv ρ (.func f) = .func (.func f) #[] #[] := by kernel_rfl) (hargs : (#[] : Array Value).toList ++ xs.toList.map (opv ρ) ++ (#[] : Array Value).toList = args := by kernel_rfl) : Qh P n B p k K ρ w := Fg ho hd hf hargs hcf hc next
theorem kc {ρ : Fr} {t : Nat} {v : Value} {r : List (Nat × Value)} (h : ρ t = v) (h2 : Q7 ρ r) : Q7 ρ ((t, v) :: r) := ⟨h, h2⟩
theorem k0 {ρ : Fr} : Q7 ρ [] := trivial
theorem kM {l : List (Nat × Value)} (h : Q7 ρ l) (next : Q7 ρ l → Qh P n B p k K (Hn ρ l) w) : Qh P n B p k K ρ w := Qh.known l h (next h)
theorem kA {ops : Array Oper} {l : List (Value → Prop)} {i : Nat} {ρ' : Fr} {v : Value} (hah : Ln ops l i ρ') (j t : Nat) (e : Gl l j = GEq v := by exact rfl) (h : Ek ops i j t = true := by kernel_rfl) : ρ' t = v := by
  have := hah j t h
  rw [e] at this
  exact this
theorem hS {ops : Array Oper} {i : Nat} {l : List (Value → Prop)} {ρ : Fr} (t : Nat) (v : Value) (h : oldB ops i t = true := by kernel_rfl) (e : ρ t = v := by kernel_rfl) : SrcG1 ops i l ρ t v := .inl ⟨h, e⟩
theorem hA {ops : Array Oper} {i : Nat} {l : List (Value → Prop)} {ρ : Fr} {v : Value} (j t : Nat) (e : Gl l j = GEq v := by exact rfl) (h : Ek ops i j t = true := by kernel_rfl) : SrcG1 ops i l ρ t v := .inr ⟨j, h, e⟩
theorem hB {ops : Array Oper} {i : Nat} {l : List (Value → Prop)} {ρ : Fr} {u b : Bool} (j t : Nat) (hb : u = b) (e : Gl l j = GEq (.bool u) := by exact rfl) (h : Ek ops i j t = true := by kernel_rfl) : SrcG1 ops i l ρ t (.bool b) := .inr ⟨j, h, by rw [e, hb]⟩
theorem hC {ops : Array Oper} {i : Nat} {l : List (Value → Prop)} {ρ : Fr} {t : Nat} {v : Value} {r : List (Nat × Value)} (h : SrcG1 ops i l ρ t v) (h2 : SrcG ops i l ρ r) : SrcG ops i l ρ ((t, v) :: r) := ⟨h, h2⟩
theorem h0 {ops : Array Oper} {i : Nat} {l : List (Value → Prop)} {ρ : Fr} : SrcG ops i l ρ [] := trivial
theorem oV {l : List (Value → Prop)} {hv : List Nat} {S : List Stg} {i : Nat} {src : List (Nat × Value)} (hsrc : SrcG (Qo (Qd B p)) i l ρ src) (v : Value) (hR : Gl l i v := by exact rfl) (hh : B7 i hv = false := by kernel_rfl)
    (h : ∀ (ρ' : Fr) (w' : World), Rv P n (Qo (Qd B p)) (((Qo (Qd B p)).toList.drop i).take 1) (Hn ρ' src) w' = some (Rr (Hn ρ' src) (R2 (Qo (Qd B p)) i) v, w') := by intro _ _; kernel_rfl) : Owe P n B p ρ l hv S i := Owe.run hh src hsrc v h hR
theorem oW {l : List (Value → Prop)} {hv : List Nat} {S : List Stg} {i : Nat} {src : List (Nat × Value)} (hsrc : SrcG (Qo (Qd B p)) i l ρ src) (d : Nat) (hR : Gl l i undef := by exact rfl) (hh : B7 i hv = false := by kernel_rfl)
    (h : ∀ (ρ' : Fr), (Qo (Qd B p))[i]?.map (fun o => (Dj (Qo (Qd B p)) (Hn ρ' src) o, o.dst)) = some (false, some d) := by intro _; kernel_rfl) (hd : Uh n (some d) = true := by kernel_rfl) : Owe P n B p ρ l hv S i := Owe.skip hh src hsrc (some d) h hd hR
abbrev tG (S : List Nat) (w0 : World) (ens : List Ent) (l : List (List Nat × List Value)) : List Stg := l.map fun x => (x.1, fun vs w => VL vs x.2 ∧ SP S w0 w ens)
abbrev sG (i : List Nat) (v : List Value) (S : List Nat) (w0 : World) (ens : List Ent) : Stg := (i, fun vs w => VL vs v ∧ SP S w0 w ens)
theorem aG (l : List (Value → Prop)) (hv : List Nat) (S : List Stg) (N last : Nat) (hS : (Ui S 0).2 [] w.drew) (hobs : Obs N (Owe P n B p ρ l hv S))
    (hend : ∀ (ρ' : Fr) (w' : World), (∀ t, Ej (Qo (Qd B p)) t = true → ρ' t = ρ t) → (∀ j d, Ll (Qo (Qd B p)) j d = true → Gl l j (ρ' d)) → (Ui S last).2 ((Ui S last).1.map (Kl (Qo (Qd B p)) ρ')) w' → Q .normal ρ' w')
    (h : Gs 5 (Qd B p) = true := by kernel_rfl) (hd : C6 (Qd B p) = true := by kernel_rfl) (hm : P.follows .mixedOrders = true := by kernel_rfl) (hok : B3 (Qo (Qd B p)) n = true := by kernel_rfl) (he : Fi (Qo (Qd B p)) = true := by kernel_rfl)
    (hN : (Qo (Qd B p)).size = N := by kernel_rfl) (h0 : (Ui S 0).1 = [] := by kernel_rfl) (h1 : Nat.blt 0 S.length = true := by kernel_rfl)
    (hlast : (S.map (·.1)).zipIdx.all (fun x => Nat.beq x.2 last || (List.range N).any (fun i => B7 i hv && !B7 i x.1)) = true := by kernel_rfl) : At P n B p Q ρ w :=
  At.stages h hd hm hok he l hv S hN ⟨h0, Nat.le_of_ble_eq_true h1⟩ hS hobs hlast hend
end
end Go.Proofs.YtoflbpmbkmephaaGreatDoor
namespace Go.Proofs.YtoflbpmbkmephaaGreatDoor
open Go.RowKit
def Qf {α β : Type} (a : Enc α) (b : Enc β) : Enc (α × β) :=
  ⟨a.sz + b.sz, fun x => a.enc x.1 ++ b.enc x.2, fun x => by rw [List.length_append, a.len, b.len], fun x v hv => by
    rcases List.mem_append.1 hv with h | h
    · exact a.one _ v h
    · exact b.one _ v h⟩
def optE {α β : Type} (z : Option α) (a : Option β) (f : α → Option β) : Option β := match z with | none => a | some x => f x
theorem optN {α β : Type} {a : Option β} {f : α → Option β} {r : β} (h : optE (none : Option α) a f = some r) : a = some r := h
theorem optS {α β : Type} {x : α} {a : Option β} {f : α → Option β} {r : β} (h : optE (some x) a f = some r) : f x = some r := h
section
variable {S : List Nat} {B : Nat} {w w' w0 : World} {es es' es2 : List Ent}
theorem Kp : ∀ {l m : List Nat}, Cq (l ++ m) = true → Cq l = true ∧ Cq m = true ∧ ∀ i ∈ l, i ∉ m
  | [], m, h => ⟨rfl, h, fun i hi => by simp at hi⟩
  | i :: l, m, h => by
    simp only [List.cons_append, Cq, Bool.and_eq_true, List.all_append] at h
    obtain ⟨⟨h1, h2⟩, h3⟩ := h
    obtain ⟨k1, k2, k3⟩ := Kp h3
    refine ⟨by simp only [Cq, Bool.and_eq_true]; exact ⟨h1, k1⟩, k2, fun j hj => ?_⟩
    rcases List.mem_cons.1 hj with rfl | hj
    · intro hm
      rw [List.all_eq_true] at h2
      have := h2 j hm
      rw [Nat.beq_refl] at this
      cases this
    · exact k3 j hj
theorem Za (h : SP S w0 w es) (l : List Nat) (hn : Cq l = true) (he : es' = Kh es l) : SP (es'.flatMap Ent.fp) w w es' := by
  subst he
  exact ⟨Mod.refl _ _, (h.own.sel hn).widen fun e hm k hk _ => .inr (List.mem_flatMap.2 ⟨e, hm, hk⟩)⟩
theorem fps_own (h : SP S w0 w es) {l : List Nat} {k : Nat} (hk : k ∈ (Kh es l).flatMap Ent.fp) : (w0.heap.size ≤ k ∨ k ∈ S) ∧ k < w.heap.size := by
  obtain ⟨e, he, hke⟩ := List.mem_flatMap.1 hk
  obtain ⟨j, _, hj⟩ := Bl he
  exact (h.own.get hj).2 k hke
theorem SP.through (h : SP S w0 w es) {l : List Nat} (he : es' = Kh es l) (hm : Mod (es'.flatMap Ent.fp) w w') : Mod S w0 w' := by
  subst he
  have hs := h.mod.size
  refine ⟨hm.os.trans h.mod.os, hm.tape.trans h.mod.tape, hm.output.trans h.mod.output, Nat.le_trans hs hm.size, fun k hk hn => ?_⟩
  refine (hm.block k (Nat.lt_of_lt_of_le hk hs) fun hkT => ?_).trans (h.mod.block k hk hn)
  rcases (fps_own h hkT).1 with h1 | h1
  · omega
  · exact hn h1
theorem Qr (h : SP S w0 w es) (l m : List Nat) (hn : Cq (l ++ m) = true) {fs : List Ent} (hf : fs = Kh es l) (hc : SP (fs.flatMap Ent.fp) w w' es2) (he : es' = Kh es m ++ es2) : SP S w0 w' es' := by
  subst hf he
  obtain ⟨n1, n2, n3⟩ := Kp hn
  have hs := h.mod.size
  have hm := hc.mod
  have apart : ∀ f ∈ Kh es m, ∀ k ∈ f.fp, k ∉ (Kh es l).flatMap Ent.fp := fun f hf k hk hkl => by
    obtain ⟨j, hj, hfj⟩ := Bl hf
    obtain ⟨e, he, hke⟩ := List.mem_flatMap.1 hkl
    obtain ⟨i, hi, hei⟩ := Bl he
    exact h.own.apart hfj hei (fun e => n3 i hi (e ▸ hj)) k hk hke
  refine ⟨h.through rfl hm, ((h.own.sel n2).keep hm.size fun f hf k hk => hm.block k ((h.own.sel n2).mem hf |>.2 k hk).2 (apart f hf k hk)).append (hc.own.widen fun f hf k hk hor => ?_) fun f hf k hk f' hf' hk' => ?_⟩
  · rcases hor with h1 | h1
    · exact .inl (by omega)
    · exact (fps_own h h1).1
  · rcases ((hc.own.mem hf').2 k hk').1 with h1 | h1
    · have := ((h.own.sel n2).mem hf |>.2 k hk).2
      omega
    · exact apart f hf k hk h1
theorem No (h : SP [] w0 w es) {l : List Nat} (he : es' = Kh es l) (hm : Mod (es'.flatMap Ent.fp) w w') : Below w0.heap.size w0 w' := (h.through he hm).below (Nat.le_refl _) (by simp)
end
end Go.Proofs.YtoflbpmbkmephaaGreatDoor
namespace Go.Proofs.YtoflbpmbkmephaaGreatDoor
open Go.RowKit
abbrev DS (α : Type) := Option Addr × Nat × List α
def eDS {α : Type} (e : Enc α) : Enc (DS α) := ⟨1, fun x => [.slice x.1 (List.length x.2.2) x.2.1], fun _ => rfl, fun _ v hv => by simp at hv; subst hv; rfl⟩
structure Dp (α : Type) where
  ok : World → α → Prop
  mono : ∀ {w w' : World} {x : α}, Below w.heap.size w w' → ok w x → ok w' x
section
variable {α β γ : Type} {e : Enc α} {p : Dp α} {q : Dp β} {w w' w0 : World} {es : List Ent}
theorem Dp.sp {x : α} (h : p.ok w0 x) (hs : SP [] w0 w es) : p.ok w x := p.mono hs.keeps h
theorem SP.still {S : List Nat} {es' : List Ent} {e : Ent} {l : List Nat} {i : Nat} (h : SP S w0 w es) (he : es' = Kh es l) (hi : es[i]? = some e) (hn : l.all (fun j => !(Nat.beq i j)) = true) (hm : Mod (es'.flatMap Ent.fp) w w') : e.ok w' := by
  subst he
  have hg := h.own.get hi
  refine e.loc w w' (fun k hk => hm.block k (hg.2 k hk).2 fun hkl => ?_) hg.1
  obtain ⟨e', he', hke⟩ := List.mem_flatMap.1 hkl
  obtain ⟨j, hj, hej⟩ := Bl he'
  refine h.own.apart hi hej (fun hij => ?_) k hk hke
  rw [List.all_eq_true] at hn
  have := hn j hj
  rw [hij, Nat.beq_refl] at this
  cases this
end
section
variable {α γ : Type} {e : Enc α} {P : Program} {n : Nat} {B : Code} {p : List Bool} {k : Nat} {K : Fr → World → Prop} {ρ : Fr} {w : World} {A : Option Addr} {c : Nat} {l : List α} {d : Option Nat}
end
end Go.Proofs.YtoflbpmbkmephaaGreatDoor
namespace Go.Proofs.YtoflbpmbkmephaaGreatDoor
open Go.RowKit
section
variable {w w0 : World} {es : List Ent} {S : List Nat}
theorem SP.turnE (h : SP S w0 w es) {i : Nat} {e e' : Ent} (hi : es[i]? = some e) (hok : e'.ok w) (hfp : ∀ k ∈ e'.fp, k ∈ e.fp) : SP S w0 w (es.set i e') :=
  h.set hi (T := []) (Mod.refl [] w) (by simp) hok fun k hk => ⟨.inl (hfp k hk), ((h.own.get hi).2 k (hfp k hk)).2⟩
end
section
variable {α : Type} {e : Enc α} {w w0 : World} {A : Option Addr} {c : Nat} {l m : List α} {E : TypeId} {es : List Ent} {S : List Nat} {i : Nat}
theorem add_block (a : Addr) (k : Nat) : (a.add k).block = a.block := by unfold Addr.add; split <;> rfl
theorem cutA_none {sz c i : Nat} : H9 sz c i none = none := by unfold H9; split <;> rfl
theorem cutA_some {sz c i : Nat} {a : Addr} : ∃ b, H9 sz c i (some a) = some b ∧ b.block = a.block := by
  unfold H9
  split
  · exact ⟨a, rfl, rfl⟩
  · exact ⟨_, rfl, add_block _ _⟩
theorem cutA_zero {sz c : Nat} {A : Option Addr} (h : ∀ a, A = some a → ∃ b o, a = ⟨b, o, none⟩) : H9 sz c 0 A = A := by
  unfold H9
  split
  · rfl
  · cases A with
    | none => rfl
    | some a =>
      obtain ⟨b, o, rfl⟩ := h _ rfl
      simp [Hj]
theorem SP.cutrd {a b : Int} (h : SP S w0 w es) (hi : es[i]? = some (rdE e A c l)) (h0 : 0 ≤ a) (h1 : a ≤ b) (h2 : b ≤ (l.length : Int)) (hm : List.drop a.toNat (List.take b.toNat l) = m) :
    SP S w0 w (es.set i (rdE e (H9 e.sz c a.toNat A) (c - a.toNat) m)) := by
  refine h.turnE hi ?_ fun k hk => ?_
  · have hr : RdT e w A c l := h.get hi
    have := RdT.part hr (i := a.toNat) (j := b.toNat) (by omega) (by omega)
    rw [hm] at this
    exact this
  · cases A with
    | none => simp [rdE, cutA_none] at hk
    | some q =>
      obtain ⟨b', hb', hbl⟩ := cutA_some (sz := e.sz) (c := c) (i := a.toNat) (a := q)
      simp only [rdE, hb', List.mem_singleton] at hk ⊢
      rw [hk, hbl]
theorem Mc (h : SP S w0 w es) (hi : es[i]? = some (Vu E e A c l)) : SP S w0 w (es.set i (rdE e A c l)) := by
  refine h.turnE hi (Q9 (h.get hi)) fun k hk => ?_
  cases A with
  | none => simp [rdE] at hk
  | some q => simpa [rdE, Vu, row, Value.ownBlock] using hk
theorem SP.cutrow {b : Int} (h : SP S w0 w es) (hi : es[i]? = some (Vu E e A c l)) (h1 : 0 ≤ b) (h2 : b ≤ (l.length : Int)) (hm : List.drop (Int.toNat 0) (List.take b.toNat l) = m) :
    SP S w0 w (es.set i (Vu E e (H9 e.sz c (Int.toNat 0) A) (c - Int.toNat 0) m)) := by
  have hm' : l.take b.toNat = m := by rw [← hm]; simp
  subst hm'
  have hok : (Vu E e A c l).ok w := h.get hi
  have hlen : (l.take b.toNat).length = b.toNat := by rw [List.length_take]; omega
  have hz : H9 e.sz c (Int.toNat 0) A = A := by
    refine cutA_zero fun a ha => ?_
    subst ha
    rcases hok.2 with ⟨h3, _⟩ | ⟨g, cap, cur, h3, _⟩
    · cases h3
    · injection h3 with h3 _ _
      injection h3 with h3
      exact ⟨g, 0, h3⟩
  have hc : c - Int.toNat 0 = c := by simp
  rw [hz, hc]
  refine h.turnE hi ?_ fun k hk => by cases A <;> exact hk
  obtain ⟨h3, h4⟩ := hok
  refine ⟨by rw [Y2], ?_⟩
  rcases h4 with ⟨h4, h5⟩ | ⟨g, cap, cur, h4, h5, h6, h7, h8, h9, h10⟩
  · left
    injection h4 with h4 h4' h4''
    have : l = [] := List.length_eq_zero_iff.1 h5
    subst this
    subst h4 h4''
    exact ⟨by simp, by simp⟩
  · right
    injection h4 with h4 h4' h4''
    subst h4 h4''
    refine ⟨g, c, cur, rfl, h5, h6, by omega, h8, h9, ?_⟩
    rw [hlen, ← Dw, ← h10, List.take_take]
    congr 1
    rw [Nat.min_eq_left (Nat.mul_le_mul_right _ (by omega))]
end
end Go.Proofs.YtoflbpmbkmephaaGreatDoor
namespace Go.Proofs.YtoflbpmbkmephaaGreatDoor
open Go.RowKit
section
variable {α : Type} {e : Enc α} {t t' : TypeId} {g m : Nat} {l : List α} {w w' w0 : World} {S : List Nat} {es : List Ent}
end
section
variable {P : Program} {n : Nat} {Q : He} {ρ : Fr} {w w0 : World} {B : Code} {p : List Bool} {k : Nat} {d : Option Nat} {S : List Nat} {es : List Ent} {K : Fr → World → Prop}
variable {α : Type} {e : Enc α} {l : List α} {t t' : TypeId} {g m : Nat}
theorem M0 (e : Enc α) (z : α) (hz : e.sz = 1) (v : Value) (hv : e.enc z = [v]) (q : Nat) : (madeCells #[v] q).toList = Vw e (List.replicate q z) := by
  have h1 : Vw e (List.replicate q z) = List.replicate q v := by
    induction q with
    | zero => rfl
    | succ q ih => rw [List.replicate_succ, Uo, ih, hv, List.replicate_succ]; rfl
  rw [h1]
  simp [madeCells]
  apply List.ext_getElem
  · simp
  · intro i h1 h2
    simp [Nat.mod_one]
theorem Hq {T E : TypeId} {x y : Operand} {k1 k2 : IntKind} {iz : Int} {b : Nat} {z : α} {v : Value} {l' : List α} (ho : B5 (Qd B p) k ρ = some (.makeSlice T x y, d)) (hd : Uh n d = true) (hx : opv ρ x = .int k1 iz) (hy : opv ρ y = .int k2 iz)
    (hT : P.underlying T = some (.slice E)) (hE : (P.info? E).map (fun i => (i.zero, i.size, i.bytes)) = some (some v, 1, b)) (hb : Nat.ble b 65536 = true) (hz : e.sz = 1) (hv : e.enc z = [v]) (hc : v.cells = #[v]) (h0 : decide (0 ≤ iz ∧ iz ≤ 2147483648) = true) (hs : SP S w0 w es) (hq : List.replicate iz.toNat z = l')
    (next : ∀ (g : Nat) (w' : World), SP S w0 w' (es ++ [Vu E e (some ⟨g, 0, none⟩) iz.toNat l']) → l'.length = iz.toNat → K (Rr ρ d (.slice (some ⟨g, 0, none⟩) l'.length iz.toNat)) w') : Qh P n B p k K ρ w := by
  subst hq
  have h0 := of_decide_eq_true h0
  have hb2 := Nat.le_of_ble_eq_true hb
  cases hi : P.info? E with
  | none => rw [hi] at hE; cases hE
  | some i =>
    rw [hi] at hE
    simp only [Option.map_some, Option.some.injEq, Prod.mk.injEq] at hE
    obtain ⟨hz1, hz2, hz3⟩ := hE
    have hbb : (i.bytes : Int) * iz ≤ 281474976710656 := by
      rw [hz3]
      have h1 : (b : Int) * iz ≤ 65536 * 2147483648 := Int.mul_le_mul (by omega) h0.2 h0.1 (by omega)
      omega
    have hr := run_make (P := P) w T E i v hT hi hz1 k1 k2 iz iz h0.1 (Int.le_refl _) hbb (by omega)
    rw [hz2, Nat.mul_one, hc] at hr
    have hlen : (List.replicate iz.toNat z).length = iz.toNat := by simp
    have hnew := hs.newrow (E := E) (cs := madeCells #[v] iz.toNat) e (List.replicate iz.toNat z) (M0 e z hz v hv iz.toNat) (by rw [hlen]; unfold maxLen; omega) (by omega)
    rw [hlen] at hnew
    refine Qh.val ho hd (v := .slice (some ⟨w.heap.size, 0, none⟩) (List.replicate iz.toNat z).length iz.toNat) (w' := w.alloc (.cells (madeCells #[v] iz.toNat) E)) (fun o hop => ?_) (next _ _ hnew hlen)
    unfold execOp; rw [hop, hlen]
    simp only [hx, hy, Sem.run_bind, hr, Result.andThen_ok]
    rfl
end
end Go.Proofs.YtoflbpmbkmephaaGreatDoor
namespace Go.Proofs
open Go.Shelf
def B4 : Go.Shelf.Ren := ⟨fun | 156 => 58 | 165 => 106 | 166 => 57 | 169 => 62 | 240 => 105 | 241 => 151 | 276 => 150 | 277 => 174 | n => n, fun | 31 => 79 | 9 => 9 | 3 => 3 | 4 => 4 | 0 => 0 | 20 => 20 | 72 => 93 | 76 => 96 | 70 => 91 | 37 => 48 | 75 => 95 | 127 => 161 | 164 => 175 | 5 => 5 | 80 => 105 | n => n, fun | n => n⟩
theorem Fx : Go.Proofs.Lays.n156 Tryz.prog B4 := {
  mixed := by kernel_rfl
  f156 := Tryz.func58.trans (congrArg some (by kernel_rfl))
  f165 := Tryz.func106.trans (congrArg some (by kernel_rfl))
  f166 := Tryz.func57.trans (congrArg some (by kernel_rfl))
  f169 := Tryz.func62.trans (congrArg some (by kernel_rfl))
  f240 := Tryz.func105.trans (congrArg some (by kernel_rfl))
  f241 := Tryz.func151.trans (congrArg some (by kernel_rfl))
  f276 := Tryz.func150.trans (congrArg some (by kernel_rfl))
  f277 := Tryz.func174.trans (congrArg some (by kernel_rfl))
  t0 := Tryz.underlying0
  a0 := Tryz.isAgg0
  z0 := Tryz.sizeOf0
  v0 := Tryz.zeroValue0
  t3 := Tryz.underlying3
  a3 := Tryz.isAgg3
  z3 := Tryz.sizeOf3
  v3 := Tryz.zeroValue3
  t4 := Tryz.underlying4
  a4 := Tryz.isAgg4
  z4 := Tryz.sizeOf4
  v4 := Tryz.zeroValue4
  t9 := Tryz.underlying9
  a9 := Tryz.isAgg9
  z9 := Tryz.sizeOf9
  v9 := Tryz.zeroValue9
  t20 := Tryz.underlying20
  a20 := Tryz.isAgg20
  z20 := Tryz.sizeOf20
  v20 := Tryz.zeroValue20
  t31 := Tryz.underlying79
  a31 := Tryz.isAgg79
  z31 := Tryz.sizeOf79
  v31 := Tryz.zeroValue79
  t37 := Tryz.underlying48
  a37 := Tryz.isAgg48
  z37 := Tryz.sizeOf48
  v37 := Tryz.zeroValue48
  t70 := Tryz.underlying91
  a70 := Tryz.isAgg91
  z70 := Tryz.sizeOf91
  v70 := Tryz.zeroValue91
  t72 := Tryz.underlying93
  a72 := Tryz.isAgg93
  z72 := Tryz.sizeOf93
  v72 := Tryz.zeroValue93
  t75 := Tryz.underlying95
  a75 := Tryz.isAgg95
  z75 := Tryz.sizeOf95
  v75 := Tryz.zeroValue95
  t76 := Tryz.underlying96
  a76 := Tryz.isAgg96
  z76 := Tryz.sizeOf96
  v76 := Tryz.zeroValue96
  t127 := Tryz.underlying161
  a127 := Tryz.isAgg161
  z127 := Tryz.sizeOf161
  v127 := Tryz.zeroValue161
  t164 := Tryz.underlying175
  a164 := Tryz.isAgg175
  z164 := Tryz.sizeOf175
  v164 := Tryz.zeroValue175 }
theorem Rt : Builder.Extra Tryz.prog B4 := {
  sizeBuilder := by kernel_rfl
  liesBuilder := by kernel_rfl
  t5 := Tryz.underlying5
  a5 := Tryz.isAgg5
  z5 := Tryz.sizeOf5
  v5 := Tryz.zeroValue5
  infoByte := by kernel_rfl
  cellsByte := by kernel_rfl
  sizeByte := by kernel_rfl
  neB5 := by decide }
open Go.RowKit in
theorem Tryz.strings_Join_none (a : Option Addr) (c : Nat) (sep : ByteArray) (w : World) :
    Calls Tryz.prog 58 #[.slice a 0 c, .string sep] w fun e w' => e = .returned (.string ⟨#[]⟩) ∧ w' = w := Any.strings_Join_none Fx Rt a c sep w
open Go.RowKit in
theorem Tryz.strings_Join (bk o c : Nat) (xs : List ByteArray) (sep : ByteArray) (w : World) (hcells : ∀ (j : Nat) x, xs[j]? = some x → w.cell? ⟨bk, o + j, none⟩ = some (.string x)) (hbk : bk < w.heap.size) (hN : xs.length ≤ 140737488355328) (hcap : xs.length ≤ c) (hlen : (Lib.join (xs.map (·.data.toList)) sep.data.toList).length ≤ 140737488355328) :
    Calls Tryz.prog 58 #[.slice (some ⟨bk, o, none⟩) xs.length c, .string sep] w fun e w' => e = .returned (.string ⟨(Lib.join (xs.map (·.data.toList)) sep.data.toList).toArray⟩) ∧ Below w.heap.size w w' := Any.strings_Join Fx Rt bk o c xs sep w hcells hbk hN hcap hlen
def F2 : Go.Shelf.Ren := ⟨fun | 160 => 148 | 232 => 168 | 231 => 167 | 227 => 169 | 234 => 171 | 233 => 170 | 236 => 173 | 235 => 172 | 228 => 184 | 271 => 186 | 151 => 185 | 197 => 180 | 120 => 198 | 152 => 197 | 260 => 192 | 137 => 89 | 119 => 203 | 224 => 194 | 225 => 193 | 217 => 140 | 266 => 162 | n => n, fun | 9 => 9 | 4 => 4 | 3 => 3 | 5 => 5 | 117 => 189 | 116 => 188 | 0 => 0 | 124 => 192 | 21 => 21 | 105 => 202 | 46 => 160 | 119 => 216 | 139 => 219 | 138 => 218 | n => n, fun | 3 => 2 | 4 => 3 | n => n⟩
theorem Kq : Go.Proofs.Lays.n160 Tryz.prog F2 := {
  mixed := by kernel_rfl
  f119 := Tryz.func203.trans (congrArg some (by kernel_rfl))
  f120 := Tryz.func198.trans (congrArg some (by kernel_rfl))
  f137 := Tryz.func89.trans (congrArg some (by kernel_rfl))
  f151 := Tryz.func185.trans (congrArg some (by kernel_rfl))
  f152 := Tryz.func197.trans (congrArg some (by kernel_rfl))
  f160 := Tryz.func148.trans (congrArg some (by kernel_rfl))
  f197 := Tryz.func180.trans (congrArg some (by kernel_rfl))
  f217 := Tryz.func140.trans (congrArg some (by kernel_rfl))
  f224 := Tryz.func194.trans (congrArg some (by kernel_rfl))
  f225 := Tryz.func193.trans (congrArg some (by kernel_rfl))
  f227 := Tryz.func169.trans (congrArg some (by kernel_rfl))
  f228 := Tryz.func184.trans (congrArg some (by kernel_rfl))
  f231 := Tryz.func167.trans (congrArg some (by kernel_rfl))
  f232 := Tryz.func168.trans (congrArg some (by kernel_rfl))
  f233 := Tryz.func170.trans (congrArg some (by kernel_rfl))
  f234 := Tryz.func171.trans (congrArg some (by kernel_rfl))
  f235 := Tryz.func172.trans (congrArg some (by kernel_rfl))
  f236 := Tryz.func173.trans (congrArg some (by kernel_rfl))
  f260 := Tryz.func192.trans (congrArg some (by kernel_rfl))
  f266 := Tryz.func162.trans (congrArg some (by kernel_rfl))
  f271 := Tryz.func186.trans (congrArg some (by kernel_rfl))
  t0 := Tryz.underlying0
  a0 := Tryz.isAgg0
  z0 := Tryz.sizeOf0
  v0 := Tryz.zeroValue0
  t3 := Tryz.underlying3
  a3 := Tryz.isAgg3
  z3 := Tryz.sizeOf3
  v3 := Tryz.zeroValue3
  t4 := Tryz.underlying4
  a4 := Tryz.isAgg4
  z4 := Tryz.sizeOf4
  v4 := Tryz.zeroValue4
  t5 := Tryz.underlying5
  a5 := Tryz.isAgg5
  z5 := Tryz.sizeOf5
  v5 := Tryz.zeroValue5
  t9 := Tryz.underlying9
  a9 := Tryz.isAgg9
  z9 := Tryz.sizeOf9
  v9 := Tryz.zeroValue9
  t21 := Tryz.underlying21
  a21 := Tryz.isAgg21
  z21 := Tryz.sizeOf21
  v21 := Tryz.zeroValue21
  t46 := Tryz.underlying160
  a46 := Tryz.isAgg160
  z46 := Tryz.sizeOf160
  v46 := Tryz.zeroValue160
  t105 := Tryz.underlying202
  a105 := Tryz.isAgg202
  z105 := Tryz.sizeOf202
  v105 := Tryz.zeroValue202
  t116 := Tryz.underlying188
  a116 := Tryz.isAgg188
  z116 := Tryz.sizeOf188
  t117 := Tryz.underlying189
  a117 := Tryz.isAgg189
  z117 := Tryz.sizeOf189
  v117 := Tryz.zeroValue189
  t119 := Tryz.underlying216
  a119 := Tryz.isAgg216
  z119 := Tryz.sizeOf216
  t124 := Tryz.underlying192
  a124 := Tryz.isAgg192
  z124 := Tryz.sizeOf192
  v124 := Tryz.zeroValue192
  t138 := Tryz.underlying218
  a138 := Tryz.isAgg218
  z138 := Tryz.sizeOf218
  v138 := Tryz.zeroValue218
  t139 := Tryz.underlying219
  a139 := Tryz.isAgg219
  z139 := Tryz.sizeOf219
  v139 := Tryz.zeroValue219
  g3 := by kernel_rfl
  g4 := by kernel_rfl }
def F3 : Go.Shelf.Ren := ⟨fun | 137 => 89 | 217 => 140 | 266 => 162 | n => n, fun | 9 => 9 | 5 => 5 | 3 => 3 | n => n, fun | n => n⟩
theorem Kr : Go.Proofs.Lays.n137 Tryz.prog F3 := {
  mixed := by kernel_rfl
  f137 := Tryz.func89.trans (congrArg some (by kernel_rfl))
  f217 := Tryz.func140.trans (congrArg some (by kernel_rfl))
  f266 := Tryz.func162.trans (congrArg some (by kernel_rfl))
  t3 := Tryz.underlying3
  a3 := Tryz.isAgg3
  z3 := Tryz.sizeOf3
  v3 := Tryz.zeroValue3
  t5 := Tryz.underlying5
  a5 := Tryz.isAgg5
  z5 := Tryz.sizeOf5
  v5 := Tryz.zeroValue5
  t9 := Tryz.underlying9
  a9 := Tryz.isAgg9
  z9 := Tryz.sizeOf9
  v9 := Tryz.zeroValue9 }
open Go.RowKit in
theorem Tryz.strings_IndexByte (s : ByteArray) (c : Int) (w : World) :
    Calls Tryz.prog 89 #[.string s, .int .u8 c] w fun e w' => e = .returned (.int .i64 (Lib.indexByte s.data.toList c.toNat.toUInt8)) ∧ w' = w := Any.strings_IndexByte Kr s c w
def Fk : Go.Shelf.Ren := ⟨fun | 173 => 107 | 246 => 152 | 283 => 175 | 284 => 176 | 285 => 177 | 286 => 178 | 129 => 188 | 317 => 187 | 318 => 189 | 319 => 190 | 320 => 191 | 337 => 199 | 338 => 200 | n => n, fun | 2 => 2 | 3 => 3 | 9 => 9 | 4 => 4 | 171 => 195 | 0 => 0 | 53 => 196 | 37 => 48 | 5 => 5 | 173 => 199 | 212 => 209 | 51 => 50 | 20 => 20 | 213 => 210 | 46 => 160 | 232 => 223 | 233 => 224 | n => n, fun | 17 => 1 | 18 => 4 | 19 => 5 | n => n⟩
theorem I4 : Go.Proofs.LaysM.n173 Tryz.prog Fk := {
  mixed := by kernel_rfl
  f129 := Tryz.func188.trans (congrArg some (by kernel_rfl))
  f173 := Tryz.func107.trans (congrArg some (by kernel_rfl))
  f246 := Tryz.func152.trans (congrArg some (by kernel_rfl))
  f283 := Tryz.func175.trans (congrArg some (by kernel_rfl))
  f284 := Tryz.func176.trans (congrArg some (by kernel_rfl))
  f285 := Tryz.func177.trans (congrArg some (by kernel_rfl))
  f286 := Tryz.func178.trans (congrArg some (by kernel_rfl))
  f317 := Tryz.func187.trans (congrArg some (by kernel_rfl))
  f318 := Tryz.func189.trans (congrArg some (by kernel_rfl))
  f319 := Tryz.func190.trans (congrArg some (by kernel_rfl))
  f320 := Tryz.func191.trans (congrArg some (by kernel_rfl))
  f337 := Tryz.func199.trans (congrArg some (by kernel_rfl))
  f338 := Tryz.func200.trans (congrArg some (by kernel_rfl))
  t0 := Tryz.underlying0
  a0 := Tryz.isAgg0
  z0 := Tryz.sizeOf0
  v0 := Tryz.zeroValue0
  t2 := Tryz.underlying2
  a2 := Tryz.isAgg2
  z2 := Tryz.sizeOf2
  v2 := Tryz.zeroValue2
  t3 := Tryz.underlying3
  a3 := Tryz.isAgg3
  z3 := Tryz.sizeOf3
  v3 := Tryz.zeroValue3
  t4 := Tryz.underlying4
  a4 := Tryz.isAgg4
  z4 := Tryz.sizeOf4
  v4 := Tryz.zeroValue4
  t5 := Tryz.underlying5
  a5 := Tryz.isAgg5
  z5 := Tryz.sizeOf5
  v5 := Tryz.zeroValue5
  t9 := Tryz.underlying9
  a9 := Tryz.isAgg9
  z9 := Tryz.sizeOf9
  v9 := Tryz.zeroValue9
  t20 := Tryz.underlying20
  a20 := Tryz.isAgg20
  z20 := Tryz.sizeOf20
  v20 := Tryz.zeroValue20
  t37 := Tryz.underlying48
  a37 := Tryz.isAgg48
  z37 := Tryz.sizeOf48
  v37 := Tryz.zeroValue48
  t46 := Tryz.underlying160
  a46 := Tryz.isAgg160
  z46 := Tryz.sizeOf160
  v46 := Tryz.zeroValue160
  t51 := Tryz.underlying50
  a51 := Tryz.isAgg50
  z51 := Tryz.sizeOf50
  v51 := Tryz.zeroValue50
  t53 := Tryz.underlying196
  a53 := Tryz.isAgg196
  z53 := Tryz.sizeOf196
  v53 := Tryz.zeroValue196
  t171 := Tryz.underlying195
  a171 := Tryz.isAgg195
  z171 := Tryz.sizeOf195
  v171 := Tryz.zeroValue195
  t173 := Tryz.underlying199
  a173 := Tryz.isAgg199
  z173 := Tryz.sizeOf199
  v173 := Tryz.zeroValue199
  t212 := Tryz.underlying209
  a212 := Tryz.isAgg209
  z212 := Tryz.sizeOf209
  v212 := Tryz.zeroValue209
  t213 := Tryz.underlying210
  a213 := Tryz.isAgg210
  z213 := Tryz.sizeOf210
  t232 := Tryz.underlying223
  a232 := Tryz.isAgg223
  z232 := Tryz.sizeOf223
  v232 := Tryz.zeroValue223
  t233 := Tryz.underlying224
  a233 := Tryz.isAgg224
  z233 := Tryz.sizeOf224
  v233 := Tryz.zeroValue224
  g17 := by kernel_rfl
  g18 := by kernel_rfl
  g19 := by kernel_rfl
  i0 := by kernel_rfl
  i2 := by kernel_rfl
  i3 := by kernel_rfl
  i4 := by kernel_rfl
  i5 := by kernel_rfl
  i9 := by kernel_rfl
  i20 := by kernel_rfl
  i37 := by kernel_rfl
  i46 := by kernel_rfl
  i51 := by kernel_rfl
  i53 := by kernel_rfl
  i171 := by kernel_rfl
  i173 := by kernel_rfl
  i212 := by kernel_rfl
  i232 := by kernel_rfl
  i233 := by kernel_rfl
  m17 := by kernel_rfl
  m18 := by kernel_rfl
  m19 := by kernel_rfl }
open Go.RowKit Go.Sort Go.Lib in
theorem Tryz.strconv_FormatInt_10 (n : Int) (h0 : -9223372036854775808 ≤ n) (h1 : n ≤ 9223372036854775807) (w : World) (htab : Lib.TabIs Tryz.prog w "internal/strconv.uint64pow10" .u64 Lib.pow10Tab) :
    Calls Tryz.prog 107 #[.int .i64 n, .int .i64 10] w fun e w' => e = .returned (.string ⟨(Lib.itoa n).toArray⟩) ∧ ∃ k os, w' = grow (w.drewN k) os := Any.strconv_FormatInt_10 I4 n h0 h1 w htab
def F4 : Go.Shelf.Ren := ⟨fun | 219 => 182 | 217 => 140 | 225 => 193 | 224 => 194 | 267 => 195 | 266 => 162 | 314 => 201 | n => n, fun | 9 => 9 | 3 => 3 | 4 => 4 | 5 => 5 | 46 => 160 | 146 => 220 | 51 => 50 | n => n, fun | 1 => 0 | n => n⟩
theorem Ks : Go.Proofs.Lays.n219 Tryz.prog F4 := {
  mixed := by kernel_rfl
  f217 := Tryz.func140.trans (congrArg some (by kernel_rfl))
  f219 := Tryz.func182.trans (congrArg some (by kernel_rfl))
  f224 := Tryz.func194.trans (congrArg some (by kernel_rfl))
  f225 := Tryz.func193.trans (congrArg some (by kernel_rfl))
  f266 := Tryz.func162.trans (congrArg some (by kernel_rfl))
  f267 := Tryz.func195.trans (congrArg some (by kernel_rfl))
  f314 := Tryz.func201.trans (congrArg some (by kernel_rfl))
  t3 := Tryz.underlying3
  a3 := Tryz.isAgg3
  z3 := Tryz.sizeOf3
  v3 := Tryz.zeroValue3
  t4 := Tryz.underlying4
  a4 := Tryz.isAgg4
  z4 := Tryz.sizeOf4
  v4 := Tryz.zeroValue4
  t5 := Tryz.underlying5
  a5 := Tryz.isAgg5
  z5 := Tryz.sizeOf5
  v5 := Tryz.zeroValue5
  t9 := Tryz.underlying9
  a9 := Tryz.isAgg9
  z9 := Tryz.sizeOf9
  v9 := Tryz.zeroValue9
  t46 := Tryz.underlying160
  a46 := Tryz.isAgg160
  z46 := Tryz.sizeOf160
  v46 := Tryz.zeroValue160
  t51 := Tryz.underlying50
  a51 := Tryz.isAgg50
  z51 := Tryz.sizeOf50
  v51 := Tryz.zeroValue50
  t146 := Tryz.underlying220
  a146 := Tryz.isAgg220
  z146 := Tryz.sizeOf220
  v146 := Tryz.zeroValue220
  g1 := by kernel_rfl }
open Go.RowKit Go.Lib in
theorem Tryz.stringslite_Index_one (s : ByteArray) (c : UInt8) (w : World) :
    Calls Tryz.prog 182 #[.string s, .string ⟨#[c]⟩] w fun e w' => e = .returned (.int .i64 (Lib.indexByte s.data.toList c)) ∧ w' = w := Any.stringslite_Index_one Ks s c w
def F5 : Go.Shelf.Ren := ⟨fun | 143 => 156 | 219 => 182 | 217 => 140 | 225 => 193 | 224 => 194 | 267 => 195 | 266 => 162 | 314 => 201 | n => n, fun | 9 => 9 | 3 => 3 | 4 => 4 | 5 => 5 | 46 => 160 | 146 => 220 | 51 => 50 | n => n, fun | 1 => 0 | n => n⟩
theorem Kt : Go.Proofs.Lays.n143 Tryz.prog F5 := {
  mixed := by kernel_rfl
  f143 := Tryz.func156.trans (congrArg some (by kernel_rfl))
  f217 := Tryz.func140.trans (congrArg some (by kernel_rfl))
  f219 := Tryz.func182.trans (congrArg some (by kernel_rfl))
  f224 := Tryz.func194.trans (congrArg some (by kernel_rfl))
  f225 := Tryz.func193.trans (congrArg some (by kernel_rfl))
  f266 := Tryz.func162.trans (congrArg some (by kernel_rfl))
  f267 := Tryz.func195.trans (congrArg some (by kernel_rfl))
  f314 := Tryz.func201.trans (congrArg some (by kernel_rfl))
  t3 := Tryz.underlying3
  a3 := Tryz.isAgg3
  z3 := Tryz.sizeOf3
  v3 := Tryz.zeroValue3
  t4 := Tryz.underlying4
  a4 := Tryz.isAgg4
  z4 := Tryz.sizeOf4
  v4 := Tryz.zeroValue4
  t5 := Tryz.underlying5
  a5 := Tryz.isAgg5
  z5 := Tryz.sizeOf5
  v5 := Tryz.zeroValue5
  t9 := Tryz.underlying9
  a9 := Tryz.isAgg9
  z9 := Tryz.sizeOf9
  v9 := Tryz.zeroValue9
  t46 := Tryz.underlying160
  a46 := Tryz.isAgg160
  z46 := Tryz.sizeOf160
  v46 := Tryz.zeroValue160
  t51 := Tryz.underlying50
  a51 := Tryz.isAgg50
  z51 := Tryz.sizeOf50
  v51 := Tryz.zeroValue50
  t146 := Tryz.underlying220
  a146 := Tryz.isAgg220
  z146 := Tryz.sizeOf220
  v146 := Tryz.zeroValue220
  g1 := by kernel_rfl }
open Go.RowKit Go.Lib in
theorem Tryz.strings_Index_one (s : ByteArray) (c : UInt8) (w : World) :
    Calls Tryz.prog 156 #[.string s, .string ⟨#[c]⟩] w fun e w' => e = .returned (.int .i64 (Lib.indexByte s.data.toList c)) ∧ w' = w := Any.strings_Index_one Kt s c w
def F6 : Go.Shelf.Ren := ⟨fun | 138 => 155 | 195 => 179 | 218 => 181 | 143 => 156 | 219 => 182 | 217 => 140 | 225 => 193 | 224 => 194 | 267 => 195 | 266 => 162 | 314 => 201 | n => n, fun | 9 => 9 | 3 => 3 | 4 => 4 | 5 => 5 | 0 => 0 | 46 => 160 | 146 => 220 | 51 => 50 | n => n, fun | 1 => 0 | n => n⟩
theorem Ku : Go.Proofs.Lays.n138 Tryz.prog F6 := {
  mixed := by kernel_rfl
  f138 := Tryz.func155.trans (congrArg some (by kernel_rfl))
  f143 := Tryz.func156.trans (congrArg some (by kernel_rfl))
  f195 := Tryz.func179.trans (congrArg some (by kernel_rfl))
  f217 := Tryz.func140.trans (congrArg some (by kernel_rfl))
  f218 := Tryz.func181.trans (congrArg some (by kernel_rfl))
  f219 := Tryz.func182.trans (congrArg some (by kernel_rfl))
  f224 := Tryz.func194.trans (congrArg some (by kernel_rfl))
  f225 := Tryz.func193.trans (congrArg some (by kernel_rfl))
  f266 := Tryz.func162.trans (congrArg some (by kernel_rfl))
  f267 := Tryz.func195.trans (congrArg some (by kernel_rfl))
  f314 := Tryz.func201.trans (congrArg some (by kernel_rfl))
  t0 := Tryz.underlying0
  a0 := Tryz.isAgg0
  z0 := Tryz.sizeOf0
  v0 := Tryz.zeroValue0
  t3 := Tryz.underlying3
  a3 := Tryz.isAgg3
  z3 := Tryz.sizeOf3
  v3 := Tryz.zeroValue3
  t4 := Tryz.underlying4
  a4 := Tryz.isAgg4
  z4 := Tryz.sizeOf4
  v4 := Tryz.zeroValue4
  t5 := Tryz.underlying5
  a5 := Tryz.isAgg5
  z5 := Tryz.sizeOf5
  v5 := Tryz.zeroValue5
  t9 := Tryz.underlying9
  a9 := Tryz.isAgg9
  z9 := Tryz.sizeOf9
  v9 := Tryz.zeroValue9
  t46 := Tryz.underlying160
  a46 := Tryz.isAgg160
  z46 := Tryz.sizeOf160
  v46 := Tryz.zeroValue160
  t51 := Tryz.underlying50
  a51 := Tryz.isAgg50
  z51 := Tryz.sizeOf50
  v51 := Tryz.zeroValue50
  t146 := Tryz.underlying220
  a146 := Tryz.isAgg220
  z146 := Tryz.sizeOf220
  v146 := Tryz.zeroValue220
  g1 := by kernel_rfl }
open Go.RowKit Go.Lib in
theorem Tryz.strings_Count_one (s : ByteArray) (c : UInt8) (w : World) :
    Calls Tryz.prog 155 #[.string s, .string ⟨#[c]⟩] w fun e w' => e = .returned (.int .i64 (Lib.countByte s.data.toList c)) ∧ w' = w := Any.strings_Count_one Ku s c w
end Go.Proofs
namespace Go.Proofs.YtoflbpmbkmephaaGreatDoor
open Go.RowKit
def J4 (s : List UInt8) (c : UInt8) : Option Int := some (Lib.indexByte s c)
theorem Ba (s : List UInt8) (c : UInt8) (w0 : World) (r : Int) (H : J4 s c = some r) :
    Calls Tryz.prog 89 #[(.string ⟨List.toArray s⟩), (.int .u8 ((c).toNat : Int))] w0 (fun e w' => e = .returned (.int .i64 r) ∧ SP [] w0 w' []) := by
  unfold J4 at H
  injection H with H
  subst H
  refine (Tryz.strings_IndexByte ⟨s.toArray⟩ ((c.toNat : Nat) : Int) w0).mono ?_
  rintro e w' ⟨rfl, rfl⟩
  refine ⟨?_, Qy [] w'⟩
  rw [show ((c.toNat : Nat) : Int).toNat.toUInt8 = c by simp]
def Rf (s sep : List UInt8) : Option Int := match sep with | [c] => some ((Lib.countByte s c : Nat) : Int) | _ => none
theorem Ed (s sep : List UInt8) (w0 : World) (r : Int) (H : Rf s sep = some r) :
    Calls Tryz.prog 155 #[(.string ⟨List.toArray s⟩), (.string ⟨List.toArray sep⟩)] w0 (fun e w' => e = .returned (.int .i64 r) ∧ SP [] w0 w' []) := by
  unfold Rf at H
  match sep, H with
  | [c], H =>
    injection H with H
    subst H
    refine (Tryz.strings_Count_one ⟨s.toArray⟩ c w0).mono ?_
    rintro e w' ⟨rfl, rfl⟩
    exact ⟨rfl, Qy [] w'⟩
def Bb (s : List UInt8) (n : Int) : Option (List (List UInt8)) := none
theorem B8 (s : List UInt8) (n : Int) (w0 : World) (r : List (List UInt8)) (H : Bb s n = some r) :
    Calls Tryz.prog 154 #[(.string ⟨List.toArray s⟩), (.int .i64 n)] w0 (fun e w' => ∃ (A : Option Addr) (c : Nat), e = .returned (.slice A (List.length r) c) ∧ SP [] w0 w' [Vu 9 Qn A c r]) := by
  cases H
end Go.Proofs.YtoflbpmbkmephaaGreatDoor
namespace Go.Proofs.YtoflbpmbkmephaaGreatDoor
def Va (c : UInt8) : List UInt8 → List (List UInt8)
  | [] => [[]]
  | x :: r => if x = c then [] :: Va c r else match Va c r with | [] => [[x]] | p :: ps => (x :: p) :: ps
theorem Nx (c : UInt8) (s : List UInt8) : Va c s ≠ [] := by
  cases s with
  | nil => simp [Va]
  | cons x r =>
    unfold Va
    split
    · simp
    · split <;> simp
theorem Gn (c : UInt8) : ∀ (s : List UInt8), ∀ p ∈ Va c s, p.length ≤ s.length
  | [], p, hp => by simp [Va] at hp; simp [hp]
  | x :: r, p, hp => by
    unfold Va at hp
    by_cases h : x = c
    · rw [if_pos h] at hp
      rcases List.mem_cons.1 hp with rfl | hp
      · simp
      · have := Gn c r p hp
        simp only [List.length_cons]
        omega
    · rw [if_neg h] at hp
      cases hs : Va c r with
      | nil => exact absurd hs (Nx c r)
      | cons q qs =>
        rw [hs] at hp
        simp only at hp
        rcases List.mem_cons.1 hp with rfl | hp
        · have := Gn c r q (by rw [hs]; simp)
          simp only [List.length_cons]
          omega
        · have := Gn c r p (by rw [hs]; simp [hp])
          simp only [List.length_cons]
          omega
theorem Yj (c : UInt8) (s : List UInt8) : (Lib.indexByte s c = -1 ∧ Va c s = [s] ∧ c ∉ s) ∨ ∃ i : Nat, Lib.indexByte s c = (i : Int) ∧ i < s.length ∧ s[i]? = some c ∧ c ∉ s.take i ∧ Va c s = s.take i :: Va c (s.drop (i + 1)) := by
  induction s with
  | nil => exact .inl ⟨rfl, rfl, by simp⟩
  | cons x r ih =>
    by_cases h : x = c
    · subst h
      refine .inr ⟨0, ?_, by simp, rfl, by simp, ?_⟩
      · simp [Lib.indexByte]
      · simp [Va]
    · have hb : (x == c) = false := by simpa using h
      rcases ih with ⟨h1, h2, h3⟩ | ⟨i, h1, h2, h3, h4, h5⟩
      · refine .inl ⟨?_, ?_, ?_⟩
        · simp [Lib.indexByte, hb, h1]
        · unfold Va; rw [if_neg h, h2]
        · simp [h3]; exact fun e => h e.symm
      · refine .inr ⟨i + 1, ?_, by simpa using h2, by simpa using h3, ?_, ?_⟩
        · have h0 : (Lib.indexByte r c == -1) = false := by rw [h1, beq_eq_false_iff_ne]; omega
          simp only [Lib.indexByte, hb, h0, h1]
          simp
        · simp [h4]; exact fun e => h e.symm
        · rw [List.take_succ_cons, List.drop_succ_cons]
          conv => lhs; unfold Va
          rw [if_neg h, h5]
end Go.Proofs.YtoflbpmbkmephaaGreatDoor
namespace Go.Proofs.YtoflbpmbkmephaaGreatDoor
open Go.RowKit Go.Shelf
attribute [local go_sem] Oper.semAt_some
structure Gz (W : World) (bsep bs bv : Nat) (c : UInt8) (r : List UInt8) : Prop where
  sep : W.heap[bsep]? = some (.cells #[.string ⟨#[c]⟩] 9 (0, 0))
  left : W.heap[bs]? = some (.cells #[.string ⟨r.toArray⟩] 9 (0, 0))
  save : W.heap[bv]? = some (.cells #[.int .i64 0] 3 (0, 0))
theorem Gz.same {W W' : World} {bsep bs bv : Nat} {c : UInt8} {r : List UInt8} (h : Gz W bsep bs bv c r) (h1 : W'.heap[bsep]? = W.heap[bsep]?) (h2 : W'.heap[bs]? = W.heap[bs]?) (h3 : W'.heap[bv]? = W.heap[bv]?) : Gz W' bsep bs bv c r :=
  ⟨h1.trans h.sep, h2.trans h.left, h3.trans h.save⟩
theorem Bo {W : World} {b : Nat} {v : Value} {t : TypeId} (h : W.heap[b]? = some (.cells #[v] t (0, 0))) : W.cell? ⟨b, 0, none⟩ = some v := by
  rw [cell_of_row W b 0 _ t _ h]
  rfl
theorem Bp {W : World} {b : Nat} {v : Value} {t : TypeId} (h : W.heap[b]? = some (.cells #[v] t (0, 0))) : W.frozen? ⟨b, 0, none⟩ = false := by
  simp [World.frozen?, h]
def Lo (W : World) (bs : Nat) : Nat := match W.cell? ⟨bs, 0, none⟩ with | some (.string b) => b.size | _ => 0
theorem Im {W : World} {bsep bs bv : Nat} {c : UInt8} {r : List UInt8} (h : Gz W bsep bs bv c r) : Lo W bs = r.length := by
  unfold Lo
  rw [Bo h.left]
  exact Rc r
theorem G6 {W : World} {b : Nat} {u v : Value} {t : TypeId} (h : W.heap[b]? = some (.cells #[u] t (0, 0))) : (W.setCell ⟨b, 0, none⟩ v).heap[b]? = some (.cells #[v] t (0, 0)) := by
  simp [World.setCell, h, Array.getElem?_modify]
theorem Np {W : World} {b k : Nat} {v : Value} (h : k ≠ b) : (W.setCell ⟨b, 0, none⟩ v).heap[k]? = W.heap[k]? := by
  simp [World.setCell, Array.getElem?_modify, Ne.symm h]
theorem Gz.turn {W : World} {bsep bs bv : Nat} {c : UInt8} {r : List UInt8} (h : Gz W bsep bs bv c r) (h1 : bs ≠ bsep) (h2 : bs ≠ bv) (q : List UInt8) : Gz (W.setCell ⟨bs, 0, none⟩ (.string ⟨q.toArray⟩)) bsep bs bv c q :=
  ⟨(Np h1.symm).trans h.sep, G6 h.left, (Np h2.symm).trans h.save⟩
theorem M1 (m : Nat) (l bsep bs bv : Nat) (c : UInt8) (hne1 : bs ≠ bsep) (hne2 : bs ≠ bv) (s : List UInt8) (hs : s.length ≤ maxLen) (J Jx : List (List UInt8) → World → Prop)
    (hJ : ∀ pre W1 (v : Value), J pre W1 → J pre (W1.setCell ⟨bs, 0, none⟩ v))
    (hY : ∀ pre x r W1, J pre W1 → Gz W1 bsep bs bv c r → (∃ q, pre ++ x :: q = Va c s) → YieldAt Fence.wide (m - 1) Tryz.prog l #[.string ⟨x.toArray⟩] W1 fun e W' =>
      (e = .returned (.bool true) ∧ J (pre ++ [x]) W' ∧ W'.heap[bsep]? = W1.heap[bsep]? ∧ W'.heap[bs]? = W1.heap[bs]? ∧ W'.heap[bv]? = W1.heap[bv]?) ∨ (e = .returned (.bool false) ∧ Jx (pre ++ [x]) W'))
    (W : World) (hB : Gz W bsep bs bv c s) (h0 : J [] W) :
    CallsIn Fence.wide m Tryz.prog 202 #[.func (.yield l) #[] #[], .pointer (some ⟨bsep, 0, none⟩), .pointer (some ⟨bs, 0, none⟩), .pointer (some ⟨bv, 0, none⟩)] W fun e W' => (∃ v, e = .returned v) ∧
      (J (Va c s) W' ∨ (∃ pre, pre <+: Va c s ∧ Jx pre W')) := by
  have hsz1 : ((⟨#[c]⟩ : ByteArray).size == 0) = false := rfl
  have c1 := Bo hB.sep
  refine callsIn_of_wp Tryz.func202 rfl trivial ?_ rfl
  simp only [Tryz.ntmps202, List.size_toArray, List.length_cons, List.length_nil, Nat.reduceAdd, Nat.reduceSub, Array.replicate_succ, Array.replicate_zero, List.push_toArray, List.append_toArray, List.nil_append, List.cons_append]
  gi_wp2
  gi_loopw [7] (fun p wr => ∃ (pre : List (List UInt8)) (r : List UInt8), Gz wr bsep bs bv c r ∧ pre ++ Va c r = Va c s ∧ r.length ≤ maxLen ∧ J pre wr) (fun p wr => Lo wr bs)
  case atStart => exact ⟨[], s, hB, rfl, hs, h0⟩
  case round =>
    obtain ⟨pre, r, hb, hp, hr, hj⟩ := hrel
    have c1 := Bo hb.sep
    have c2 := Bo hb.left
    have c3 := Bo hb.save
    have hrs := Rc r
    have hsep1 : (⟨#[c]⟩ : ByteArray).size = 1 := rfl
    unfold maxLen at hr
    rcases Yj c r with ⟨h1, h2, h3⟩ | ⟨i, h1, h2, h3, h4, h5⟩
    · have h1' : Lib.indexByte (⟨r.toArray⟩ : ByteArray).data.toList c = -1 := h1
      obtain ⟨fn, tmps, assign, body, hy, hR⟩ := hY pre r r wr hj hb ⟨[], by rw [← hp, h2]⟩
      gi_wp2_with (refine ⟨trivial, fun hh => (by cases hh), ?_⟩; gi_at_call 156; refine (callsIn_wide.2 (Tryz.strings_Index_one (⟨r.toArray⟩ : ByteArray) c wr)).mono ?_; rintro e W3 ⟨rfl, rfl⟩; rw [h1'])
      refine ⟨fun hh => (by cases hh), ?_⟩
      refine hR.mono ?_
      rintro e W3 (⟨rfl, hJ3, hk⟩ | ⟨rfl, hJx3⟩)
      · gi_wp2
        go_end0
        exact ⟨⟨_, rfl⟩, .inl (by rw [← hp, h2]; exact hJ3)⟩
      · gi_wp2
        go_end0
        exact ⟨⟨_, rfl⟩, .inr ⟨pre ++ [r], by rw [← hp, h2]; exact List.prefix_refl _, hJx3⟩⟩
    · have h1' : Lib.indexByte (⟨r.toArray⟩ : ByteArray).data.toList c = (i : Int) := h1
      have hex := Eo r 0 i (by omega)
      rw [List.drop_zero] at hex
      have hex2 := Eo r (i + 1) r.length (Nat.le_refl _)
      rw [List.take_length] at hex2
      obtain ⟨fn, tmps, assign, body, hy, hR⟩ := hY pre (r.take i) r wr hj hb ⟨Va c (r.drop (i + 1)), by rw [← hp, h5]⟩
      have hi0 : ¬ ((i : Int) < 0) := by omega
      gi_wp2_with (refine ⟨trivial, fun hh => (by cases hh), ?_⟩; gi_at_call 156; refine (callsIn_wide.2 (Tryz.strings_Index_one (⟨r.toArray⟩ : ByteArray) c wr)).mono ?_; rintro e W3 ⟨rfl, rfl⟩; rw [h1'])
      refine ⟨fun hh => (by cases hh), ?_⟩
      refine hR.mono ?_
      rintro e W3 (⟨rfl, hJ3, k1, k2, k3⟩ | ⟨rfl, hJx3⟩)
      · have hb3 := hb.same k1 k2 k3
        have d1 := Bo hb3.sep
        have d2 := Bo hb3.left
        have d3 := Bo hb3.save
        have f2 := Bp hb3.left
        gi_wp2
        have hb4 := hb3.turn hne1 hne2 (r.drop (i + 1))
        refine ⟨⟨pre ++ [r.take i], r.drop (i + 1), hb4, by rw [← hp, h5]; simp, by unfold maxLen; rw [List.length_drop]; omega, hJ _ _ _ hJ3⟩, ?_⟩
        rw [Im hb4, Im hb, List.length_drop]
        omega
      · gi_wp2
        refine bodyPost_ret (results_none rfl _ _ _) rfl ?_
        exact ⟨⟨_, rfl⟩, .inr ⟨pre ++ [r.take i], ⟨Va c (r.drop (i + 1)), by rw [← hp, h5]; simp⟩, hJx3⟩⟩
end Go.Proofs.YtoflbpmbkmephaaGreatDoor
namespace Go.Proofs.YtoflbpmbkmephaaGreatDoor
open Go.RowKit Go.Shelf
attribute [local go_sem] Oper.semAt_some
def bodyOwn {α : Type} (M : List Nat) (I : List α → World → Prop) (Ix : Code → List α → World → Prop) (xs : List α) (W : World) : Exit → Act → World → Prop
  | .normal, _, W' => Mod M W W' ∧ I xs W'
  | .ret, _, W' => Mod M W W' ∧ Ix .ret xs W'
  | .exit id, _, W' => Mod M W W' ∧ Ix (.exit id) xs W'
  | .goto t, _, W' => Mod M W W' ∧ Ix (.goto t) xs W'
  | _, _, _ => False
theorem C9 (W : World) (r : Nat) (o : Obj) : Mod [r] W (W.putObj r o) := ⟨rfl, rfl, rfl, by simp, fun k _ hk => World.putObj_heap_other (by simpa using hk)⟩
theorem Lp (W : World) (b : Nat) (v : Value) : Mod [b] W (W.setCell ⟨b, 0, none⟩ v) := (Mod.refl [b] W).setCell (p := ⟨b, 0, none⟩) (.inl (by simp)) v
def SeqOwn {α : Type} (P : Program) (m gf : Nat) (lb : Array Value) (encs : α → Array Value) (T : List Nat) (S : List α) (w : World) : Prop :=
  ∀ (l : Nat) (J Jx : List α → World → Prop) (W : World),
    (∀ pre W1 k (v : Value), k ∈ T → J pre W1 → J pre (W1.setCell ⟨k, 0, none⟩ v)) →
    (∀ pre x W1, J pre W1 → (∃ q, pre ++ x :: q = S) → YieldAt Fence.wide (m - 1) P l (encs x) W1 fun e W' =>
      (e = .returned (.bool true) ∧ J (pre ++ [x]) W' ∧ ∀ k ∈ T, W'.heap[k]? = W1.heap[k]?) ∨ (e = .returned (.bool false) ∧ Jx (pre ++ [x]) W')) →
    (∀ k ∈ T, W.heap[k]? = w.heap[k]?) → J [] W →
    CallsIn Fence.wide m P gf (#[.func (.yield l) #[] #[]] ++ lb) W fun e W' => (∃ v, e = .returned v) ∧ (J S W' ∨ ∃ pre, pre <+: S ∧ Jx pre W')
theorem range_own {α : Type} {P : Program} {g : Operand} {ps : Array Tmp} {assign body : Code} {Q : Exit → Act → World → Prop} {a : Act} {w : World} {m gf : Nat} {lb : Array Value}
    (hg : a.eval g = .func (.func gf) #[] lb) (eg : ∀ args w, (callFunc gf args).run P w = .ok (.enter gf args) w) {encs : α → Array Value} (hps : ∀ x, (encs x).size = ps.size)
    (T M : List Nat) (hT : ∀ k ∈ T, k < w.heap.size) (hM : ∀ k ∈ M, k < w.heap.size ∧ k ∉ T) {S : List α} (iter : SeqOwn P (m - 1) gf lb encs T S w)
    (I : List α → World → Prop) (Ix : Code → List α → World → Prop) (hI : ∀ xs W W', I xs W → Mod (T ++ [w.heap.size, w.heap.size + 1]) W W' → I xs W') (hIx : ∀ c xs W W', Ix c xs W → Mod (T ++ [w.heap.size, w.heap.size + 1]) W W' → Ix c xs W')
    (h0 : I [] w) (a₁ : α → Act)
    (hassign : ∀ (l : Nat) (x : α) (W : World) (K : Act → World → Prop), K (a₁ x) W →
      assign.wpIn (Fence.wide.inRound l) (m - 1 - 1) P (Exit.then K (fun _ _ _ => False)) { tmps := (ps.zip (encs x)).foldl (fun t (p, v) => t.setIfInBounds p v) a.tmps, defers := [] } W)
    (hbody : ∀ (l : Nat) (pre : List α) (x : α) (W : World), I pre W → w.heap.size ≤ W.heap.size → (∃ q, pre ++ x :: q = S) → body.wpIn (Fence.wide.inRound l) (m - 1 - 1) P (bodyOwn M I Ix (pre ++ [x]) W) (a₁ x) W)
    (hdone : ∀ (W : World), I S W → W.heap[w.heap.size]? = some (.deferred (some [])) → Q .normal { a with defers := { target := .collected w.heap.size, args := #[] } :: a.defers } W)
    (hstop : ∀ (c : Code) (pre : List α) (W : World), pre <+: S → Ix c pre W → W.heap[w.heap.size]? = some (.deferred (some [])) → c.wpIn Fence.wide m P Q { a with defers := { target := .collected w.heap.size, args := #[] } :: a.defers } W) :
    (Code.rangeFunc g ps assign body).wpIn Fence.wide m P Q a w := by
  refine wpIn_rangeFunc fun fn _ => ?_
  have hnT : ∀ j, w.heap.size ≤ j → j ∉ T := fun j hj hm => by have := hT j hm; omega
  have hnM : ∀ j, w.heap.size ≤ j → j ∉ M := fun j hj hm => by have := (hM j hm).1; omega
  generalize hrec : (fun st pe => ({ state := st, pending := pe, fn, tmps := a.tmps, params := ps, assign, body, defers := w.heap.size } : Loop)) = rec
  have hr1 : ∀ st pe, (rec st pe).state = st := fun st pe => by rw [← hrec]
  generalize hW1 : (w.alloc (.deferred (some []))).alloc (.loop (rec .ready none)) = W1
  have hmod1 : Mod (T ++ [w.heap.size, w.heap.size + 1]) w W1 := by rw [← hW1]; exact ((Mod.refl _ w).alloc _).alloc _
  have hL1 : W1.heap[w.heap.size + 1]? = some (.loop (rec .ready none)) := by
    rw [← hW1]
    have := World.alloc_heap_new (w.alloc (.deferred (some []))) (.loop (rec .ready none))
    rwa [World.size_alloc] at this
  have hK1 : W1.heap[w.heap.size]? = some (.deferred (some [])) := by
    rw [← hW1]
    exact (Below.heap_alloc _ _ _ (by simp)).trans (World.alloc_heap_new w _)
  have pb : ∀ (W : World) (o : Obj), Mod (T ++ [w.heap.size, w.heap.size + 1]) W (W.putObj (w.heap.size + 1) o) := fun W o => (C9 W _ o).more (by simp)
  refine ⟨w.heap.size + 1, [{ target := .collected w.heap.size, args := #[] }], W1, { target := .fn (.func gf) lb, args := #[.func (.yield (w.heap.size + 1)) #[] #[]] }, W1, gf, #[.func (.yield (w.heap.size + 1)) #[] #[]] ++ lb, W1, ?_, ?_, fun _ _ => trivial, ?_, fun h => (by cases h), ?_⟩
  · rw [← hW1, ← hrec]
    exact run_enterLoop_outer _ _ _ _ _
  · simp only [resolve, hg]
    simp [go_sem]
  · simp [invoke, go_sem, eg]
  · refine (iter (w.heap.size + 1) (fun pre W => I pre W ∧ W.heap[w.heap.size + 1]? = some (.loop (rec .ready none)) ∧ W.heap[w.heap.size]? = some (.deferred (some [])))
      (fun pre W => ∃ c, Ix c pre W ∧ W.heap[w.heap.size + 1]? = some (.loop (rec .done (some c))) ∧ W.heap[w.heap.size]? = some (.deferred (some []))) W1 ?_ ?_ ?_ ⟨hI _ _ _ h0 hmod1, hL1, hK1⟩).mono ?_
    · rintro pre W k v hk ⟨h1, h2, h3⟩
      have hlt := hT k hk
      exact ⟨hI _ _ _ h1 ((Lp W k v).more fun j hj => by
        have : j = k := by simpa using hj
        subst this
        simp [hk]), (Np (by omega)).trans h2, (Np (by omega)).trans h3⟩
    · rintro pre x W ⟨hi, hl, hk⟩ hq
      have hlt : w.heap.size + 1 < W.heap.size := (Array.getElem?_eq_some_iff.1 hl).1
      have hy := run_yield (P := P) (args := encs x) hl (by rw [← hrec]; exact hps x)
      rw [← hrec] at hy
      dsimp only at hy
      refine ⟨fn, _, assign, body, hy, ?_⟩
      refine roundIn_of_wpIn trivial ?_
      refine hassign _ x W _ ?_
      refine ⟨_, run_beginRound hl (hr1 _ _), ?_⟩
      generalize hW2 : W.putObj (w.heap.size + 1) (.loop { rec .ready none with state := .busy }) = W2
      have hm2 : Mod (T ++ [w.heap.size, w.heap.size + 1]) W W2 := by rw [← hW2]; exact pb W _
      have hs2 : W2.heap.size = W.heap.size := by rw [← hW2]; simp
      have hl2 : W2.heap[w.heap.size + 1]? = some (.loop { rec .ready none with state := .busy }) := by rw [← hW2]; exact World.putObj_heap_same hlt
      have hk2 : W2.heap[w.heap.size]? = some (.deferred (some [])) := by rw [← hW2]; exact (World.putObj_heap_other (by omega)).trans hk
      have hT2 : ∀ k ∈ T, W2.heap[k]? = W.heap[k]? := fun k hkT => by rw [← hW2]; exact World.putObj_heap_other (by have := hT k hkT; omega)
      refine wpIn_mono (hbody _ pre x W2 (hI _ _ _ hi hm2) (by omega) hq) ?_
      have fin : ∀ (jump : Option Code) (W3 : World), Mod M W2 W3 → ∃ W4, (Instr.endRound (w.heap.size + 1) jump).run P W3 = .ok (.bool jump.isNone) W4 ∧ Mod (T ++ [w.heap.size, w.heap.size + 1]) W3 W4 ∧
          W4.heap[w.heap.size + 1]? = some (.loop (rec (if jump.isNone then .ready else .done) jump)) ∧ W4.heap[w.heap.size]? = some (.deferred (some [])) ∧ ∀ k ∈ T, W4.heap[k]? = W.heap[k]? := fun jump W3 hk3 => by
        have hl3 : W3.heap[w.heap.size + 1]? = some (.loop { rec .ready none with state := .busy }) := (hk3.block _ (by omega) (hnM _ (by omega))).trans hl2
        have hd3 : W3.heap[w.heap.size]? = some (.deferred (some [])) := (hk3.block _ (by omega) (hnM _ (by omega))).trans hk2
        have hrun := run_endRound (P := P) jump hl3
        refine ⟨_, hrun, pb W3 _, ?_, (World.putObj_heap_other (by omega)).trans hd3, fun k hkT => ?_⟩
        · rw [World.putObj_heap_same (Array.getElem?_eq_some_iff.1 hl3).1, ← hrec]
        · have := hT k hkT
          exact (World.putObj_heap_other (by omega)).trans ((hk3.block _ (by omega) fun hm => (hM k hm).2 hkT).trans (hT2 k hkT))
      rintro e a3 W3 hp
      cases e with
      | normal =>
        obtain ⟨W4, h1, h2, h3, h4, h5⟩ := fin none W3 hp.1
        exact ⟨_, _, h1, .inl ⟨rfl, ⟨hI _ _ _ hp.2 h2, h3, h4⟩, h5⟩⟩
      | ret =>
        obtain ⟨W4, h1, h2, h3, h4, h5⟩ := fin (some .ret) W3 hp.1
        exact ⟨_, _, h1, .inr ⟨rfl, .ret, hIx _ _ _ _ hp.2 h2, h3, h4⟩⟩
      | exit id =>
        obtain ⟨W4, h1, h2, h3, h4, h5⟩ := fin (some (.exit id)) W3 hp.1
        exact ⟨_, _, h1, .inr ⟨rfl, .exit id, hIx _ _ _ _ hp.2 h2, h3, h4⟩⟩
      | goto t =>
        obtain ⟨W4, h1, h2, h3, h4, h5⟩ := fin (some (.goto t)) W3 hp.1
        exact ⟨_, _, h1, .inr ⟨rfl, .goto t, hIx _ _ _ _ hp.2 h2, h3, h4⟩⟩
      | panic ch => exact hp.elim
      | outgrown => exact hp.elim
    · intro k hk
      have := hT k hk
      rw [← hW1]
      exact (Below.heap_alloc _ _ _ (by simp; omega)).trans (Below.heap_alloc _ _ _ this)
    · rintro e W2 ⟨⟨v, rfl⟩, (⟨hi, hl, hk⟩ | ⟨pre, hpre, c, hi, hl, hk⟩)⟩
      · have hend := run_endLoop (P := P) hl (by rw [hr1]; simp)
        rw [show (rec .ready none).pending = none by rw [← hrec]] at hend
        exact ⟨none, _, hend, hdone _ (hI _ _ _ hi (pb W2 _)) ((World.putObj_heap_other (by omega)).trans hk)⟩
      · have hend := run_endLoop (P := P) hl (by rw [hr1]; simp)
        rw [show (rec .done (some c)).pending = some c by rw [← hrec]] at hend
        exact ⟨some c, _, hend, hstop c pre _ hpre (hIx _ _ _ _ hi (pb W2 _)) ((World.putObj_heap_other (by omega)).trans hk)⟩
end Go.Proofs.YtoflbpmbkmephaaGreatDoor
namespace Go.Proofs.YtoflbpmbkmephaaGreatDoor
open Go.RowKit
def Cr : String := "internal/strconv.uint64pow10"
theorem M2 : ∃ g, Tryz.prog.globalNamed Cr = some g := Option.isSome_iff_exists.mp (by kernel_rfl)
structure Gu (w : World) : Prop where
  tab : Lib.TabIs Tryz.prog w Cr .u64 Lib.pow10Tab
  here : ∀ g, Tryz.prog.globalNamed Cr = some g → g < w.heap.size
theorem Qt {w w' : World} (h : Gu w) (hb : Below w.heap.size w w') : Gu w' := by
  obtain ⟨g, hg⟩ := M2
  refine ⟨?_, fun k hk => Nat.lt_of_lt_of_le (h.here k hk) hb.size⟩
  exact Go.var?_below hb hg (h.here g hg) h.tab
def Nq (n base : Int) : Option (List UInt8) := cond (base == 10 && (decide (-9223372036854775808 ≤ n) && decide (n ≤ 9223372036854775807))) (some (Lib.itoa n)) none
theorem Bc (n base : Int) (w0 : World) (hL : Gu w0) (r : List UInt8) (H : Nq n base = some r) :
    Calls Tryz.prog 107 #[(.int .i64 n), (.int .i64 base)] w0 (fun e w' => e = .returned (.string ⟨List.toArray r⟩) ∧ SP [] w0 w' []) := by
  unfold Nq at H
  cases hc : (base == 10 && (decide (-9223372036854775808 ≤ n) && decide (n ≤ 9223372036854775807))) <;> rw [hc] at H
  · cases H
  injection H with H
  subst H
  simp only [Bool.and_eq_true, beq_iff_eq, decide_eq_true_eq] at hc
  obtain ⟨rfl, h0, h1⟩ := hc
  refine (Tryz.strconv_FormatInt_10 n h0 h1 w0 hL.tab).mono ?_
  rintro e w' ⟨rfl, k, os, rfl⟩
  exact ⟨rfl, Yn (Go.Lib.below_grow w0.heap.size w0 (Nat.le_refl _) k os) [], trivial⟩
end Go.Proofs.YtoflbpmbkmephaaGreatDoor
namespace Go.Proofs.YtoflbpmbkmephaaGreatDoor
open Go.RowKit
def Ny (p1 : Int) (v3 : Bool) : Option ((List UInt8)) :=
  (cond v3 (some (([] : List UInt8))) ((Nq p1 10).bind fun z7 => (some (z7))))
def Up (p1 : Int) : Option ((List UInt8)) :=
  (cond (decide (p1 < 0)) (Ny p1 true) (Ny p1 (decide (p1 > 1099511627776))))
theorem Gg  (p1 : Int) (w0 : World) (hL : Gu w0)  (r : ((List UInt8))) (H : Up p1 = some r) :
  Calls Tryz.prog 59 #[(.int .i64 p1)] w0 (fun e w' => e = .returned (.string ⟨List.toArray r⟩) ∧ SP [] w0 w' []) := by
 unfold Up at H
 refine Ql (n := 11) Tryz.func59 K K K ?_
 have f := Qy [] w0
 refine aQ ?_
 refine aR ?_
 refine iR 1 1 [(2, (.string ⟨List.toArray ([] : List UInt8)⟩))] ?_
 refine iF ?_
 refine aQ ?_
 refine aQ ?_
 refine At.join (fun ρ w => ∃ (v3 : Bool), Q7 ρ [(0, (.int .i64 p1)), (8, (.bool v3))] ∧ SP [] w0 w [] ∧ Ny p1 v3 = some r) ?_ ?_
 ·refine aR ?_
  refine iR 3 3 [(3, (.int .i64 p1)), (4, (.bool (decide (p1 < 0)))), (5, (.bool (decide (p1 < 0))))] ?_
  refine In.guard (t := 5) (b := (decide (p1 < 0))) K (fun a => ?_) (fun a => ?_)
  ·have H := ct H a
   refine iR 3 6 [(6, undef), (7, undef), (8, (.bool true))] ?_
   refine iF ?_
   exact ⟨true, ⟨K, K, trivial⟩, SP.sel f [] rfl rfl, H⟩
  ·have H := cf H a
   refine iR 3 6 [(6, (.int .i64 p1)), (7, (.bool (decide (p1 > 1099511627776)))), (8, (.bool (decide (p1 > 1099511627776))))] ?_
   refine iF ?_
   exact ⟨(decide (p1 > 1099511627776)), ⟨K, K, trivial⟩, SP.sel f [] rfl rfl, H⟩
 ·rintro ρ w4 ⟨v3, hk, c, H⟩
  unfold Ny at H
  first | refine At.known [(0, (.int .i64 p1)), (8, (.bool v3))] hk ?_ | rw [← Qc (l := [(0, (.int .i64 p1)), (8, (.bool v3))]) hk]
  refine Vm K (o := (.tmp 8)) K (b := v3) K (fun d => ?_) (fun d => ?_)
  ·have H := ct H d
   refine aQ ?_
   refine aR ?_
   refine iR 1 1 [(2, (.string ⟨List.toArray ([] : List UInt8)⟩))] ?_
   refine iF ?_
   refine At.ret K ?_
   refine ⟨(.string ⟨List.toArray ([] : List UInt8)⟩), K, ?_⟩
   obtain rfl := Qb H
   exact ⟨rfl, SP.sel c [] rfl rfl⟩
  ·have H := cf H d
   refine At.skip K ?_
   refine aQ ?_
   refine aR ?_
   refine iR 1 1 [(9, (.int .i64 p1))] ?_
   obtain ⟨z7, h, H⟩ := Qa H
   refine iS 2 ?_
   refine cF 107 #[(.tmp 9), (.const (.int .i64 (10)))] #[2, 3] 10 Tryz.call107 (Bc  p1 10 w4 (Qt hL (SP.keeps c)) z7 h) ?_
   rintro e w9 ⟨rfl, g⟩
   refine ⟨_, rfl, ?_⟩
   have i := SP.call c g
   clear g
   refine iR 1 3 [(2, (.string ⟨List.toArray z7⟩))] ?_
   refine iF ?_
   refine At.ret K ?_
   refine ⟨(.string ⟨List.toArray z7⟩), K, ?_⟩
   obtain rfl := Qb H
   exact ⟨rfl, SP.sel i [] rfl rfl⟩
def Ga (a : Int → Int → Option (Int × Bool)) (b : Int) (c : Int) (d : UInt8) (e : Bool) : Option (Int × Bool) :=
  (cond e (some (0, false)) (a (IntKind.wrap .i64 ((IntKind.wrap .i64 (10 * b)) + (IntKind.wrap .i64 (IntKind.wrap .u8 (((d).toNat : Int) - 48))))) (IntKind.wrap .i64 (c + 1))))
def U0 (d : Int → Int → Option (Int × Bool)) (p1 : (List UInt8)) (a : Int) (b : Int) : Option (Int × Bool) :=
  (cond (decide (b < ((List.length p1 : Nat) : Int))) ((idx p1 b).bind fun c => (cond (decide (((c).toNat : Int) < 48)) (Ga d a b c true) (cond (decide (((c).toNat : Int) > 57)) (Ga d a b c true) (Ga d a b c (decide (a > 1099511627776)))))) ((Up a).bind fun e => (cond (!(e == p1)) (some (0, false)) (some (a, true)))))
def Jy (p1 : (List UInt8)) : Nat → Int → Int → Option (Int × Bool)
  | 0, _, _ => none
  | f + 1, a, b => U0  (Jy p1 f) p1 a b
def Rw (p1 : (List UInt8)) : Option (Int × Bool) :=
  ((chk (Nat.ble (List.length p1) 281474976710656)).bind fun _ => (Jy p1 Y1 0 0))
theorem Ul  (p1 : (List UInt8)) (w0 : World) (hL : Gu w0)  (r : (Int × Bool)) (H : Rw p1 = some r) :
  Calls Tryz.prog 135 #[(.string ⟨List.toArray p1⟩)] w0 (fun e w' => e = .returned (.tuple #[(.int .i64 r.1), (.bool r.2)]) ∧ SP [] w0 w' []) := by
 unfold Rw at H
 refine Ql (n := 36) Tryz.func135 K K K ?_
 have a7 := Qy [] w0
 refine aQ ?_
 refine aR ?_
 refine iR 2 2 [(2, (.int .i64 0)), (3, (.bool false))] ?_
 refine iF ?_
 refine aQ ?_
 refine aR ?_
 refine iR 1 1 [(4, (.int .i64 0))] ?_
 refine iF ?_
 refine aQ ?_
 refine aQ ?_
 refine aR ?_
 refine iR 1 1 [(7, (.string ⟨List.toArray p1⟩))] ?_
 obtain ⟨a8, H⟩ := Dx H
 refine iS 2 ?_
 refine Co (S' := 9) (T := 48) (E := 5) (x := (.tmp 7)) (l := p1) (d := (some 8)) (k := 1) K rfl K K K K (Cp a8) a7 ?_
 intro g3 c4 w5 a1 _
 have a9 : SP [] w0 w5 [rdE eU8 (some ⟨g3, 0, none⟩) c4 p1] := a1
 clear a1
 refine iR 2 4 [(9, (.int .i64 ((List.length p1 : Nat) : Int))), (10, (.int .i64 0))] ?_
 refine iF ?_
 refine J2 K (id := 0) K ?_
 refine Du K (fun f3 ρ w => ∃ (f : Int) (h : Int), Q7 ρ [(0, (.string ⟨List.toArray p1⟩)), (4, (.int .i64 f)), (8, (.slice (some ⟨g3, 0, none⟩) (List.length p1) c4)), (9, (.int .i64 ((List.length p1 : Nat) : Int))), (10, (.int .i64 h))] ∧ SP [] w0 w [rdE eU8 (some ⟨g3, 0, none⟩) c4 p1] ∧ Jy p1 f3 f h = some r) (by rintro ρ w ⟨f, h, hk, hs, H⟩; cases H) ?_ Y1 ?_
 ·rintro f3 ρ b0 ⟨f, h, hk, m, H⟩
  refine At.known [(0, (.string ⟨List.toArray p1⟩)), (4, (.int .i64 f)), (8, (.slice (some ⟨g3, 0, none⟩) (List.length p1) c4)), (9, (.int .i64 ((List.length p1 : Nat) : Int))), (10, (.int .i64 h))] hk ?_
  replace H := (show U0 (Jy p1 f3) p1 f h = some r from H)
  unfold U0 at H
  refine aQ ?_
  refine aR ?_
  refine iR 1 1 [(11, (.bool (decide (h < ((List.length p1 : Nat) : Int)))))] ?_
  refine iF ?_
  refine aQ ?_
  refine Vm K (o := (.tmp 11)) K (b := (decide (h < ((List.length p1 : Nat) : Int)))) K (fun s => ?_) (fun s => ?_)
  ·have H := ct H s
   refine At.skip K ?_
   refine aQ ?_
   refine J2 K (id := 1) K ?_
   refine aQ ?_
   refine aR ?_
   obtain ⟨g, a2, a3, b1, H⟩ := Vf H
   refine iS 1 ?_
   refine Z6 (e := eU8) (l := p1) (A := (some ⟨g3, 0, none⟩)) (c := c4) (T := 48) (E := 5) (x := (.tmp 8)) (ix := (.tmp 10)) (ki := .i64) (iz := h) (d := (some 12)) (k := 0) K rfl K K K K (Hm (SP.get m (i := 0) rfl)) a2 a3 ?_
   intro b2 b3 b4 b6 hc71
   refine iS 2 ?_
   refine sC 5 12 b2 (b3 + Int.toNat h * eU8.sz) (.int .u8 ((g).toNat : Int)) 13 (J3 (e := eU8) (Yr (Hm (SP.get m (i := 0) rfl)) b4 a2 a3) b1 (j := 0) rfl) ?_
   refine iR 1 3 [(6, (.int .u8 ((g).toNat : Int)))] ?_
   refine iF ?_
   refine aQ ?_
   refine aQ ?_
   refine At.join (fun ρ w => ∃ (p : Bool), Q7 ρ [(0, (.string ⟨List.toArray p1⟩)), (4, (.int .i64 f)), (6, (.int .u8 ((g).toNat : Int))), (8, (.slice (some ⟨g3, 0, none⟩) (List.length p1) c4)), (9, (.int .i64 ((List.length p1 : Nat) : Int))), (10, (.int .i64 h)), (23, (.bool p))] ∧ SP [] w0 w [rdE eU8 (some ⟨g3, 0, none⟩) c4 p1] ∧ Ga (Jy p1 f3) f h g p = some r) ?_ ?_
   ·refine aR ?_
    refine iR 3 3 [(14, (.int .u8 ((g).toNat : Int))), (15, (.bool (decide (((g).toNat : Int) < 48)))), (16, (.bool (decide (((g).toNat : Int) < 48))))] ?_
    refine In.guard (t := 16) (b := (decide (((g).toNat : Int) < 48))) K (fun u => ?_) (fun u => ?_)
    ·have H := ct H u
     refine iR 7 10 [(17, undef), (18, undef), (19, (.bool true)), (20, (.bool true)), (21, undef), (22, undef), (23, (.bool true))] ?_
     refine iF ?_
     exact ⟨true, ⟨K, K, K, K, K, K, K, trivial⟩, SP.sel m [0] rfl rfl, H⟩
    ·have H := cf H u
     refine iR 4 7 [(17, (.int .u8 ((g).toNat : Int))), (18, (.bool (decide (((g).toNat : Int) > 57)))), (19, (.bool (decide (((g).toNat : Int) > 57)))), (20, (.bool (decide (((g).toNat : Int) > 57))))] ?_
     refine In.guard (t := 20) (b := (decide (((g).toNat : Int) > 57))) K (fun v => ?_) (fun v => ?_)
     ·have H := ct H v
      refine iR 3 10 [(21, undef), (22, undef), (23, (.bool true))] ?_
      refine iF ?_
      exact ⟨true, ⟨K, K, K, K, K, K, K, trivial⟩, SP.sel m [0] rfl rfl, H⟩
     ·have H := cf H v
      refine iR 3 10 [(21, (.int .i64 f)), (22, (.bool (decide (f > 1099511627776)))), (23, (.bool (decide (f > 1099511627776))))] ?_
      refine iF ?_
      exact ⟨(decide (f > 1099511627776)), ⟨K, K, K, K, K, K, K, trivial⟩, SP.sel m [0] rfl rfl, H⟩
   ·rintro ρ b7 ⟨p, hk, a4, H⟩
    unfold Ga at H
    first | refine At.known [(0, (.string ⟨List.toArray p1⟩)), (4, (.int .i64 f)), (6, (.int .u8 ((g).toNat : Int))), (8, (.slice (some ⟨g3, 0, none⟩) (List.length p1) c4)), (9, (.int .i64 ((List.length p1 : Nat) : Int))), (10, (.int .i64 h)), (23, (.bool p))] hk ?_ | rw [← Qc (l := [(0, (.string ⟨List.toArray p1⟩)), (4, (.int .i64 f)), (6, (.int .u8 ((g).toNat : Int))), (8, (.slice (some ⟨g3, 0, none⟩) (List.length p1) c4)), (9, (.int .i64 ((List.length p1 : Nat) : Int))), (10, (.int .i64 h)), (23, (.bool p))]) hk]
    refine Vm K (o := (.tmp 23)) K (b := p) K (fun z => ?_) (fun z => ?_)
    ·have H := ct H z
     refine aQ ?_
     refine aR ?_
     refine iR 2 2 [(2, (.int .i64 0)), (3, (.bool false))] ?_
     refine iF ?_
     refine At.ret K ?_
     refine ⟨(.tuple #[(.int .i64 0), (.bool false)]), K, ?_⟩
     obtain rfl := Qb H
     exact ⟨rfl, SP.sel a4 [] rfl rfl⟩
    ·have H := cf H z
     refine At.skip K ?_
     refine aR ?_
     refine iR 7 7 [(24, (.int .i64 f)), (25, (.int .i64 (IntKind.wrap .i64 (10 * f)))), (26, (.int .u8 ((g).toNat : Int))), (27, (.int .u8 (IntKind.wrap .u8 (((g).toNat : Int) - 48)))), (28, (.int .i64 (IntKind.wrap .i64 (IntKind.wrap .u8 (((g).toNat : Int) - 48))))), (29, (.int .i64 (IntKind.wrap .i64 ((IntKind.wrap .i64 (10 * f)) + (IntKind.wrap .i64 (IntKind.wrap .u8 (((g).toNat : Int) - 48))))))), (4, (.int .i64 (IntKind.wrap .i64 ((IntKind.wrap .i64 (10 * f)) + (IntKind.wrap .i64 (IntKind.wrap .u8 (((g).toNat : Int) - 48)))))))] ?_
     refine iF ?_
     refine aR ?_
     refine iR 2 2 [(30, (.int .i64 (IntKind.wrap .i64 (h + 1)))), (10, (.int .i64 (IntKind.wrap .i64 (h + 1))))] ?_
     refine iF ?_
     exact ⟨(IntKind.wrap .i64 ((IntKind.wrap .i64 (10 * f)) + (IntKind.wrap .i64 (IntKind.wrap .u8 (((g).toNat : Int) - 48))))), (IntKind.wrap .i64 (h + 1)), ⟨K, K, K, K, K, trivial⟩, SP.sel a4 [0] rfl rfl, H⟩
  ·have H := cf H s
   refine At.exit K (id := 0) K ?_
   refine aQ ?_
   refine aQ ?_
   refine aR ?_
   refine iR 1 1 [(31, (.int .i64 f))] ?_
   obtain ⟨q, b5, H⟩ := Qa H
   refine iS 2 ?_
   refine cF 59 #[(.tmp 31)] #[2] 32 Tryz.call59 (Gg  f b0 (Qt hL (SP.keeps m)) q b5) ?_
   rintro e b8 ⟨rfl, a5⟩
   refine ⟨_, rfl, ?_⟩
   have a6 := SP.call m a5
   clear a5
   refine iR 1 3 [(33, (.string ⟨List.toArray p1⟩))] ?_
   refine iS 4 ?_
   refine Qu (op := .neq) (T := 9) (T' := 9) (x := (.tmp 32)) (y := (.tmp 33)) (a := q) (b := p1) (r := (.bool (!(q == p1)))) (d := (some 34)) (k := 3) K rfl K K rfl ?_
   refine iF ?_
   refine Vm K (o := (.tmp 34)) K (b := (!(q == p1))) K (fun a0 => ?_) (fun a0 => ?_)
   ·have H := ct H a0
    refine aQ ?_
    refine aR ?_
    refine iR 2 2 [(2, (.int .i64 0)), (3, (.bool false))] ?_
    refine iF ?_
    refine At.ret K ?_
    refine ⟨(.tuple #[(.int .i64 0), (.bool false)]), K, ?_⟩
    obtain rfl := Qb H
    exact ⟨rfl, SP.sel a6 [] rfl rfl⟩
   ·have H := cf H a0
    refine At.skip K ?_
    refine aQ ?_
    refine aR ?_
    refine iR 3 3 [(35, (.int .i64 f)), (2, (.int .i64 f)), (3, (.bool true))] ?_
    refine iF ?_
    refine At.ret K ?_
    refine ⟨(.tuple #[(.int .i64 f), (.bool true)]), K, ?_⟩
    obtain rfl := Qb H
    exact ⟨rfl, SP.sel a6 [] rfl rfl⟩
 ·exact ⟨0, 0, ⟨K, K, K, K, K, trivial⟩, SP.sel a9 [0] rfl rfl, H⟩
end Go.Proofs.YtoflbpmbkmephaaGreatDoor
namespace Go.Proofs.YtoflbpmbkmephaaGreatDoor
theorem Z2 {x : Int} (h : -9223372036854775808 ≤ x ∧ x < 9223372036854775808) : IntKind.wrap .i64 x = x := IntWalk.i64_in _ (by omega)
theorem wrap8 (x : Int) : IntKind.wrap .u8 x = x % 256 := by
  unfold IntKind.wrap
  simp only [IntKind.bits, IntKind.signed]
  simp
theorem toU8_nat (n : Nat) : B6 (n : Int) = UInt8.ofNat n := by simp [B6]
theorem toU8_wrap (n : Nat) : B6 (IntKind.wrap .u8 (n : Int)) = UInt8.ofNat n := by
  rw [wrap8, show ((n : Int) % 256) = ((n % 256 : Nat) : Int) by omega, toU8_nat]
  apply UInt8.toNat_inj.1
  simp [UInt8.toNat_ofNat']
theorem Lq {x : Int} (h : 0 ≤ x ∧ x < 256) : IntKind.wrap .u8 x = x := by rw [wrap8]; omega
theorem Ey (a b : Nat) : Int.tdiv (a : Int) (b : Int) = ((a / b : Nat) : Int) := by
  rw [Int.tdiv_eq_ediv_of_nonneg (by omega)]; rfl
theorem Ez (a b : Nat) : Int.tmod (a : Int) (b : Int) = ((a % b : Nat) : Int) := by
  rw [Int.tmod_eq_emod_of_nonneg (by omega)]; rfl
theorem Er {α : Type} (l : List α) (i : Nat) : idx l (i : Int) = l[i]? := by unfold idx; rw [if_pos (by omega)]; simp
theorem U6 {α : Type} {l : List α} {i : Nat} (h : i < l.length) : idx l (i : Int) = some l[i] := by rw [Er, List.getElem?_eq_getElem h]
theorem G5 {α : Type} (l : List α) {i j : Nat} (h : i ≤ j) (hj : j ≤ l.length) : sub l (i : Int) (j : Int) = some ((l.take j).drop i) := by
  unfold sub
  rw [if_pos ⟨by omega, by omega, by omega⟩]
  simp
theorem Z7 {α : Type} {l m : List α} (h : l.length + m.length ≤ 2147483648) : app l m = some (l ++ m) := by unfold app; rw [if_pos h]
theorem Cs : Y1 = 18446744073709551616 := rfl
theorem u8_lt (c : UInt8) : c.toNat < 256 := c.toNat_lt
theorem E0 {n : Nat} (h : n < 4611686018427387904) : IntKind.wrap .i64 (n : Int) = (n : Int) := Z2 (by omega)
end Go.Proofs.YtoflbpmbkmephaaGreatDoor
namespace Go.Proofs.YtoflbpmbkmephaaGreatDoor
def G7 : Nat := 1099511627776
def hi (d : Nat) : UInt8 := UInt8.ofNat (d + 128)
def val (l : List UInt8) : Nat := l.foldl (fun a c => 128 * a + c.toNat % 128) 0
end Go.Proofs.YtoflbpmbkmephaaGreatDoor
namespace Go.Proofs.YtoflbpmbkmephaaGreatDoor
open Go.Lib (decDigits)
def Ds (n : Int) : List UInt8 := if 0 ≤ n ∧ n ≤ 1099511627776 then decDigits n.toNat else []
def R7 (c : UInt8) : Bool := decide (48 ≤ c.toNat) && decide (c.toNat ≤ 57)
def R8 (l : List UInt8) : Nat := l.foldl (fun a c => 10 * a + (c.toNat - 48)) 0
def Qj (s : List UInt8) : Option Nat := if s.all R7 = true ∧ R8 s ≤ G7 ∧ decDigits (R8 s) = s then some (R8 s) else none
def Qq (x : Option Nat) : Int × Bool := match x with | none => (0, false) | some n => ((n : Int), true)
theorem Rg {u : Nat} (h : u < 10) : decDigits u = [UInt8.ofNat (48 + u)] := by rw [decDigits, dif_pos h]
theorem Ct {u : Nat} (h : ¬ u < 10) : decDigits u = decDigits (u / 10) ++ [UInt8.ofNat (48 + u % 10)] := by rw [decDigits, dif_neg h]
theorem Hr (l : List UInt8) (c : UInt8) : R8 (l ++ [c]) = 10 * R8 l + (c.toNat - 48) := by simp [R8]
theorem Cu {d : Nat} (h : d < 10) : (UInt8.ofNat (48 + d)).toNat = 48 + d := by simp; omega
theorem dval_dec (n : Nat) : R8 (decDigits n) = n := by
  induction n using Nat.strongRecOn with
  | _ n ih =>
    by_cases h : n < 10
    · rw [Rg h]
      show 10 * 0 + ((UInt8.ofNat (48 + n)).toNat - 48) = n
      rw [Cu h]
      omega
    · rw [Ct h, Hr, ih (n / 10) (by omega), Cu (by omega)]
      omega
theorem Md {d : Nat} (h : d < 10) : R7 (UInt8.ofNat (48 + d)) = true := by
  unfold R7
  rw [Cu h]
  simp
  omega
theorem dec_all (n : Nat) : (decDigits n).all R7 = true := by
  induction n using Nat.strongRecOn with
  | _ n ih =>
    by_cases h : n < 10
    · rw [Rg h, List.all_cons, Md h]
      rfl
    · rw [Ct h, List.all_append, ih (n / 10) (by omega)]
      rw [List.all_cons, Md (show n % 10 < 10 by omega)]
      rfl
theorem dec_ne (n : Nat) : decDigits n ≠ [] := by
  by_cases h : n < 10
  · rw [Rg h]; simp
  · rw [Ct h]; simp
theorem dec_head {n : Nat} (h0 : n ≠ 0) : (decDigits n).headD 0 ≠ 48 := by
  induction n using Nat.strongRecOn with
  | _ n ih =>
    by_cases h : n < 10
    · rw [Rg h]
      intro e
      have := congrArg UInt8.toNat e
      simp only [List.headD_cons] at this
      rw [Cu h] at this
      have h48 : (48 : UInt8).toNat = 48 := rfl
      omega
    · rw [Ct h]
      have := ih (n / 10) (by omega) (by omega)
      cases hd : decDigits (n / 10) with
      | nil => exact absurd hd (dec_ne _)
      | cons c r => rw [hd] at this; simpa using this
theorem dec_len {n k : Nat} (hk : 1 ≤ k) (h : n < 10 ^ k) : (decDigits n).length ≤ k := by
  induction k generalizing n with
  | zero => omega
  | succ k ih =>
    by_cases hs : n < 10
    · rw [Rg hs]; simp
    · rw [Ct hs, List.length_append, List.length_singleton]
      have hk1 : 1 ≤ k := by
        rcases Nat.eq_zero_or_pos k with rfl | h1
        · exact absurd (by simpa using h) hs
        · exact h1
      have := ih hk1 (n := n / 10) (by rw [Nat.pow_succ] at h; omega)
      omega
theorem Kv {n : Nat} (h : n ≤ G7) : (decDigits n).length ≤ 13 := dec_len (by omega) (by
  have : (10 : Nat) ^ 13 = 10000000000000 := by decide
  unfold G7 at h
  omega)
theorem Me (l m : List UInt8) : R8 l ≤ R8 (l ++ m) := by
  unfold R8
  rw [List.foldl_append]
  suffices h : ∀ (m : List UInt8) (a : Nat), a ≤ m.foldl (fun a c => 10 * a + (c.toNat - 48)) a by exact h m _
  intro m
  induction m with
  | nil => intro a; exact Nat.le_refl _
  | cons c m ih => intro a; rw [List.foldl_cons]; exact Nat.le_trans (by omega) (ih _)
theorem dval_pos {c : UInt8} (xs : List UInt8) (h : 48 < c.toNat) : 0 < R8 (c :: xs) := by
  have := Me [c] xs
  have e : R8 [c] = 10 * 0 + (c.toNat - 48) := rfl
  rw [List.singleton_append] at this
  omega
theorem Mf (s : List UInt8) (hd : s.all R7 = true) (hne : s ≠ []) (hh : s.headD 0 ≠ 48 ∨ s.length = 1) : decDigits (R8 s) = s := by
  suffices H : ∀ (k : Nat) (s : List UInt8), s.length = k → s.all R7 = true → s ≠ [] → (s.headD 0 ≠ 48 ∨ s.length = 1) → decDigits (R8 s) = s by exact H _ s rfl hd hne hh
  intro k
  induction k with
  | zero => intro s h _ hne; exact absurd (List.length_eq_zero_iff.1 h) hne
  | succ k ih =>
    intro s hk hd hne hh
    rcases List.eq_nil_or_concat s with rfl | ⟨ys, c, rfl⟩
    · exact absurd rfl hne
    · simp only [List.concat_eq_append] at hk hd hh ⊢
      rw [List.all_append, Bool.and_eq_true] at hd
      have hc : 48 ≤ c.toNat ∧ c.toNat ≤ 57 := by
        have := hd.2
        simpa [R7] using this
      have ec : UInt8.ofNat (48 + (c.toNat - 48)) = c := UInt8.toNat_inj.1 (by rw [Cu (by omega)]; omega)
      rw [Hr]
      cases ys with
      | nil =>
        have e0 : R8 [] = 0 := rfl
        rw [e0, Rg (by omega), show 10 * 0 + (c.toNat - 48) = c.toNat - 48 by omega, ec]
        rfl
      | cons y ys =>
        have hy : y ≠ 48 := by
          rcases hh with h | h
          · simpa using h
          · simp at h
        have hy2 : 48 ≤ y.toNat := by
          have := hd.1
          simp [R7] at this
          exact this.1.1
        have hy3 : 48 < y.toNat := by
          rcases Nat.lt_or_ge 48 y.toNat with h | h
          · exact h
          · exact absurd (UInt8.toNat_inj.1 (show y.toNat = (48 : UInt8).toNat from by have h48 : (48 : UInt8).toNat = 48 := rfl; omega)) hy
        have hp := dval_pos ys hy3
        have hi := ih (y :: ys) (by simpa using hk) hd.1 (by simp) (.inl (by simpa using hy))
        rw [Ct (by omega), show (10 * R8 (y :: ys) + (c.toNat - 48)) / 10 = R8 (y :: ys) by omega, show (10 * R8 (y :: ys) + (c.toNat - 48)) % 10 = c.toNat - 48 by omega, hi, ec]
theorem Kw {n : Nat} (h : n ≤ G7) : Qj (decDigits n) = some n := by
  unfold Qj
  rw [dval_dec, if_pos ⟨dec_all n, h, rfl⟩]
theorem dec_parse {s : List UInt8} {n : Nat} (h : Qj s = some n) : decDigits n = s ∧ n ≤ G7 := by
  unfold Qj at h
  split at h
  · rename_i hc
    injection h with h
    subst h
    exact ⟨hc.2.2, hc.2.1⟩
  · cases h
theorem Kx {l : List UInt8} {k : Nat} (hk : k < l.length) : R8 (l.take (k + 1)) = 10 * R8 (l.take k) + (l[k].toNat - 48) := by
  rw [List.take_succ_eq_append_getElem hk, Hr]
theorem Mg {l : List UInt8} {k : Nat} (hk : k < l.length) (h : (l.take k).all R7 = true) (hx : R7 l[k] = true) : (l.take (k + 1)).all R7 = true := by
  rw [List.take_succ_eq_append_getElem hk, List.all_append, h]
  simp [hx]
theorem E1 {l : List UInt8} {k : Nat} (hk : k < l.length) (hx : R7 l[k] = false) : Qj l = none := by
  unfold Qj
  rw [if_neg]
  rintro ⟨h, _⟩
  rw [List.all_eq_true] at h
  rw [h _ (List.getElem_mem hk)] at hx
  cases hx
theorem Lr {l : List UInt8} {k : Nat} (h : G7 < R8 (l.take k)) : Qj l = none := by
  unfold Qj
  rw [if_neg]
  rintro ⟨_, h2, _⟩
  have := Me (l.take k) (l.drop k)
  rw [List.take_append_drop] at this
  omega
end Go.Proofs.YtoflbpmbkmephaaGreatDoor
namespace Go.Proofs.YtoflbpmbkmephaaGreatDoor
open Go.Lib (decDigits)
structure Digits (B K : Nat) (E : Nat → UInt8) (H : Nat → List UInt8) : Prop where
  base : 1 < B
  zero : H 0 = []
  step : ∀ m, m ≠ 0 → m ≤ K → H m = H (m / B) ++ [E (m % B)]
  mono : ∀ a b, a < B → b < B → ((E a).toNat < (E b).toNat ↔ a < b)
section
variable {B K : Nat} {E : Nat → UInt8} {H : Nat → List UInt8}
theorem Digits.same (D : Digits B K E H) : ∀ m, m ≤ K → ∀ m', m' ≤ K → (H m = H m' ↔ m = m') := by
  intro m
  induction m using Nat.strongRecOn with
  | _ m ih =>
    intro hm m' hm'
    refine ⟨fun h => ?_, fun h => by rw [h]⟩
    have hB := D.base
    by_cases h0 : m = 0
    · subst h0
      by_cases h1 : m' = 0
      · exact h1.symm
      · rw [D.zero, D.step m' h1 hm'] at h
        simp at h
    · by_cases h1 : m' = 0
      · subst h1
        rw [D.zero, D.step m h0 hm] at h
        simp at h
      · rw [D.step m h0 hm, D.step m' h1 hm'] at h
        obtain ⟨e1, e2⟩ := List.append_inj' h rfl
        have hd := Nat.div_lt_self (by omega : 0 < m) hB
        have hdm := Nat.div_le_self m' B
        have hq := (ih (m / B) hd (by omega) (m' / B) (by omega)).1 e1
        have hE : E (m % B) = E (m' % B) := by simpa using e2
        have l1 := D.mono (m % B) (m' % B) (Nat.mod_lt _ (by omega)) (Nat.mod_lt _ (by omega))
        have l2 := D.mono (m' % B) (m % B) (Nat.mod_lt _ (by omega)) (Nat.mod_lt _ (by omega))
        rw [hE] at l1 l2
        have hr : m % B = m' % B := by omega
        have := Nat.div_add_mod m B
        have := Nat.div_add_mod m' B
        rw [hq, hr] at *
        omega
end
def I5 (v : Nat) : List UInt8 := if v = 0 then [] else decDigits v
end Go.Proofs.YtoflbpmbkmephaaGreatDoor
namespace Go.Proofs.YtoflbpmbkmephaaGreatDoor
open Go.Lib (decDigits)
theorem Ha (n : Int) : Up n = some (Ds n) := by
  unfold Up Ds
  by_cases h : 0 ≤ n ∧ n ≤ 1099511627776
  · rw [if_pos h, show decide (n < 0) = false by simp; omega, show decide (n > 1099511627776) = false by simp; omega]
    obtain ⟨m, rfl⟩ := Int.eq_ofNat_of_zero_le h.1
    simp only [cond_false, Ny, Nq]
    rw [show (((10 : Int) == 10) && (decide (-9223372036854775808 ≤ (m : Int)) && decide ((m : Int) ≤ 9223372036854775807))) = true by simp; omega]
    simp only [cond_true, Option.bind_some, Go.Lib.itoa_nonneg]
    rfl
  · rw [if_neg h]
    by_cases h0 : n < 0
    · rw [show decide (n < 0) = true by simp; omega]
      rfl
    · rw [show decide (n < 0) = false by simp; omega, show decide (n > 1099511627776) = true by simp; omega]
      rfl
end Go.Proofs.YtoflbpmbkmephaaGreatDoor
namespace Go.Proofs.YtoflbpmbkmephaaGreatDoor
open Go.RowKit
def X7 (c : Int → (List UInt8) → Option ((List UInt8))) (a : Int) (b : (List UInt8)) : Option ((List UInt8)) :=
  (cond (decide (a > 0)) ((app ([(B6 (IntKind.wrap .u8 (IntKind.wrap .i64 (48 + (Int.tmod a 10)))))] : List UInt8) b).bind fun d => (c (IntKind.wrap .i64 (Int.tdiv a 10)) d)) (some (b)))
def Z3  : Nat → Int → (List UInt8) → Option ((List UInt8))
  | 0, _, _ => none
  | f + 1, a, b => X7  (Z3  f) a b
def X8 (p1 : Int) (v3 : Bool) : Option ((List UInt8)) :=
  (cond v3 (some (([] : List UInt8))) (Z3  Y1 (IntKind.wrap .i64 (Int.tdiv p1 10)) ([(B6 (IntKind.wrap .u8 (IntKind.wrap .i64 (48 + (Int.tmod p1 10)))))] : List UInt8)))
def X9 (p1 : Int) : Option ((List UInt8)) :=
  (cond (decide (p1 < 0)) (X8 p1 true) (X8 p1 (decide (p1 > 1099511627776))))
theorem Gr  (p1 : Int) (w0 : World)  (r : ((List UInt8))) (H : X9 p1 = some r) :
  Calls Tryz.prog 110 #[(.int .i64 p1)] w0 (fun e w' => e = .returned (.string ⟨List.toArray r⟩) ∧ SP [] w0 w' []) := by
 unfold X9 at H
 refine Ql (n := 31) Tryz.func110 K K K ?_
 have p := Qy [] w0
 refine aQ ?_
 refine aR ?_
 refine iR 1 1 [(2, (.string ⟨List.toArray ([] : List UInt8)⟩))] ?_
 refine iF ?_
 refine aQ ?_
 refine aQ ?_
 refine At.join (fun ρ w => ∃ (v3 : Bool), Q7 ρ [(0, (.int .i64 p1)), (9, (.bool v3))] ∧ SP [] w0 w [] ∧ X8 p1 v3 = some r) ?_ ?_
 ·refine aR ?_
  refine iR 3 3 [(4, (.int .i64 p1)), (5, (.bool (decide (p1 < 0)))), (6, (.bool (decide (p1 < 0))))] ?_
  refine In.guard (t := 6) (b := (decide (p1 < 0))) K (fun h => ?_) (fun h => ?_)
  ·have H := ct H h
   refine iR 3 6 [(7, undef), (8, undef), (9, (.bool true))] ?_
   refine iF ?_
   exact ⟨true, ⟨K, K, trivial⟩, SP.sel p [] rfl rfl, H⟩
  ·have H := cf H h
   refine iR 3 6 [(7, (.int .i64 p1)), (8, (.bool (decide (p1 > 1099511627776)))), (9, (.bool (decide (p1 > 1099511627776))))] ?_
   refine iF ?_
   exact ⟨(decide (p1 > 1099511627776)), ⟨K, K, trivial⟩, SP.sel p [] rfl rfl, H⟩
 ·rintro ρ w4 ⟨v3, hk, q, H⟩
  unfold X8 at H
  first | refine At.known [(0, (.int .i64 p1)), (9, (.bool v3))] hk ?_ | rw [← Qc (l := [(0, (.int .i64 p1)), (9, (.bool v3))]) hk]
  refine Vm K (o := (.tmp 9)) K (b := v3) K (fun j => ?_) (fun j => ?_)
  ·have H := ct H j
   refine aQ ?_
   refine aR ?_
   refine iR 1 1 [(2, (.string ⟨List.toArray ([] : List UInt8)⟩))] ?_
   refine iF ?_
   refine At.ret K ?_
   refine ⟨(.string ⟨List.toArray ([] : List UInt8)⟩), K, ?_⟩
   obtain rfl := Qb H
   exact ⟨rfl, SP.sel q [] rfl rfl⟩
  ·have H := cf H j
   refine At.skip K ?_
   refine aQ ?_
   refine aR ?_
   refine iR 4 4 [(10, (.int .i64 p1)), (11, (.int .i64 (Int.tmod p1 10))), (12, (.int .i64 (IntKind.wrap .i64 (48 + (Int.tmod p1 10))))), (13, (.int .u8 (IntKind.wrap .u8 (IntKind.wrap .i64 (48 + (Int.tmod p1 10))))))] ?_
   refine iS 5 ?_
   refine Vy (e := eU8) (T := 48) (E := 5) (len := 1) (parts := #[(0, (.tmp 13))]) (cs := #[(.int .u8 (IntKind.wrap .u8 (IntKind.wrap .i64 (48 + (Int.tmod p1 10)))))]) ([(B6 (IntKind.wrap .u8 (IntKind.wrap .i64 (48 + (Int.tmod p1 10)))))] : List UInt8) (d := (some 14)) (k := 4) K rfl (fun _ => K) q (Dk (Or.inr ⟨rfl, (Fh _)⟩) rfl) rfl rfl rfl ?_
   intro g7 w8 s
   refine iS 6 ?_
   refine Dh (T := 48) (S' := 9) (E := 5) (x := (.tmp 14)) (A := (some ⟨g7, 0, none⟩)) (c := (List.length ([(B6 (IntKind.wrap .u8 (IntKind.wrap .i64 (48 + (Int.tmod p1 10)))))] : List UInt8))) (l := ([(B6 (IntKind.wrap .u8 (IntKind.wrap .i64 (48 + (Int.tmod p1 10)))))] : List UInt8)) (d := (some 15)) (k := 5) K rfl K K K K (Q9 (SP.get s (i := 0) rfl)) ?_
   refine iR 1 7 [(3, (.string ⟨List.toArray ([(B6 (IntKind.wrap .u8 (IntKind.wrap .i64 (48 + (Int.tmod p1 10)))))] : List UInt8)⟩))] ?_
   refine iF ?_
   refine aQ ?_
   refine aQ ?_
   refine aR ?_
   refine iR 3 3 [(16, (.int .i64 p1)), (17, (.int .i64 (IntKind.wrap .i64 (Int.tdiv p1 10)))), (0, (.int .i64 (IntKind.wrap .i64 (Int.tdiv p1 10))))] ?_
   refine iF ?_
   refine J2 K (id := 0) K ?_
   refine Du K (fun f2 ρ w => ∃ (f : Int) (g : (List UInt8)), Q7 ρ [(0, (.int .i64 f)), (3, (.string ⟨List.toArray g⟩))] ∧ SP [] w0 w [] ∧ Z3  f2 f g = some r) (by rintro ρ w ⟨f, g, hk, hs, H⟩; cases H) ?_ Y1 ?_
   ·rintro f2 ρ a1 ⟨f, g, hk, u, H⟩
    refine At.known [(0, (.int .i64 f)), (3, (.string ⟨List.toArray g⟩))] hk ?_
    replace H := (show X7 (Z3 f2) f g = some r from H)
    unfold X7 at H
    refine aQ ?_
    refine aQ ?_
    refine aR ?_
    refine iR 2 2 [(18, (.int .i64 f)), (19, (.bool (decide (f > 0))))] ?_
    refine iF ?_
    refine Vm K (o := (.tmp 19)) K (b := (decide (f > 0))) K (fun m => ?_) (fun m => ?_)
    ·have H := ct H m
     refine At.skip K ?_
     refine aQ ?_
     refine J2 K (id := 1) K ?_
     refine aR ?_
     refine iR 4 4 [(22, (.int .i64 f)), (23, (.int .i64 (Int.tmod f 10))), (24, (.int .i64 (IntKind.wrap .i64 (48 + (Int.tmod f 10))))), (25, (.int .u8 (IntKind.wrap .u8 (IntKind.wrap .i64 (48 + (Int.tmod f 10))))))] ?_
     refine iS 5 ?_
     refine Vy (e := eU8) (T := 48) (E := 5) (len := 1) (parts := #[(0, (.tmp 25))]) (cs := #[(.int .u8 (IntKind.wrap .u8 (IntKind.wrap .i64 (48 + (Int.tmod f 10)))))]) ([(B6 (IntKind.wrap .u8 (IntKind.wrap .i64 (48 + (Int.tmod f 10)))))] : List UInt8) (d := (some 26)) (k := 4) K rfl (fun _ => K) u (Dk (Or.inr ⟨rfl, (Fh _)⟩) rfl) rfl rfl rfl ?_
     intro a0 a2 v
     refine iS 6 ?_
     refine Dh (T := 48) (S' := 9) (E := 5) (x := (.tmp 26)) (A := (some ⟨a0, 0, none⟩)) (c := (List.length ([(B6 (IntKind.wrap .u8 (IntKind.wrap .i64 (48 + (Int.tmod f 10)))))] : List UInt8))) (l := ([(B6 (IntKind.wrap .u8 (IntKind.wrap .i64 (48 + (Int.tmod f 10)))))] : List UInt8)) (d := (some 27)) (k := 5) K rfl K K K K (Q9 (SP.get v (i := 0) rfl)) ?_
     refine iR 1 7 [(28, (.string ⟨List.toArray g⟩))] ?_
     obtain ⟨hl37, H⟩ := Vb H
     obtain ⟨z, hyl36⟩ : ∃ y, ([(B6 (IntKind.wrap .u8 (IntKind.wrap .i64 (48 + (Int.tmod f 10)))))] : List UInt8) ++ g = y := ⟨_, rfl⟩
     rw [hyl36] at H
     refine iS 8 ?_
     refine Qi (T := 9) (T' := 9) (x := (.tmp 27)) (y := (.tmp 28)) (a := ([(B6 (IntKind.wrap .u8 (IntKind.wrap .i64 (48 + (Int.tmod f 10)))))] : List UInt8)) (b := g) (d := (some 29)) (k := 7) K rfl K K hl37 ?_
     rw [hyl36]
     refine iR 1 9 [(3, (.string ⟨List.toArray z⟩))] ?_
     refine iF ?_
     refine aR ?_
     refine iR 3 3 [(20, (.int .i64 f)), (21, (.int .i64 (IntKind.wrap .i64 (Int.tdiv f 10)))), (0, (.int .i64 (IntKind.wrap .i64 (Int.tdiv f 10))))] ?_
     refine iF ?_
     exact ⟨(IntKind.wrap .i64 (Int.tdiv f 10)), z, ⟨K, K, trivial⟩, SP.sel v [] rfl rfl, H⟩
    ·have H := cf H m
     refine At.exit K (id := 0) K ?_
     refine aQ ?_
     refine aR ?_
     refine iR 2 2 [(30, (.string ⟨List.toArray g⟩)), (2, (.string ⟨List.toArray g⟩))] ?_
     refine iF ?_
     refine At.ret K ?_
     refine ⟨(.string ⟨List.toArray g⟩), K, ?_⟩
     obtain rfl := Qb H
     exact ⟨rfl, SP.sel u [] rfl rfl⟩
   ·exact ⟨(IntKind.wrap .i64 (Int.tdiv p1 10)), ([(B6 (IntKind.wrap .u8 (IntKind.wrap .i64 (48 + (Int.tmod p1 10)))))] : List UInt8), ⟨K, K, trivial⟩, SP.sel s [] rfl rfl, H⟩
def Xu (b : Int → Int → Option (Int × Bool)) (p1 : (List UInt8)) (c : Int) (a : Int) (d : Bool) : Option (Int × Bool) :=
  (cond d (some (0, false)) ((idx p1 a).bind fun e => (b (IntKind.wrap .i64 ((IntKind.wrap .i64 (10 * c)) + (IntKind.wrap .i64 (IntKind.wrap .u8 (((e).toNat : Int) - 48))))) (IntKind.wrap .i64 (a + 1)))))
def Zr (c : Int → Int → Option (Int × Bool)) (a : Int) (b : Bool) : Option (Int × Bool) :=
  (cond b (some (0, false)) (some (a, true)))
def Zs (b : Int → Int → Option (Int × Bool)) (p1 : (List UInt8)) (a : Int) (c : Int) : Option (Int × Bool) :=
  (cond (decide (c < ((List.length p1 : Nat) : Int))) ((idx p1 c).bind fun d => (cond (decide (((d).toNat : Int) < 48)) (Xu b p1 a c true) ((idx p1 c).bind fun e => (cond (decide (((e).toNat : Int) > 57)) (Xu b p1 a c true) (Xu b p1 a c (decide (c ≥ 13))))))) (cond (((List.length p1 : Nat) : Int) == 0) (Zr b a true) ((idx p1 0).bind fun f => (cond (((f).toNat : Int) == 48) (cond (decide (((List.length p1 : Nat) : Int) > 1)) (Zr b a true) (Zr b a (decide (a > 1099511627776)))) (Zr b a (decide (a > 1099511627776)))))))
def Vj (p1 : (List UInt8)) : Nat → Int → Int → Option (Int × Bool)
  | 0, _, _ => none
  | f + 1, a, b => Zs  (Vj p1 f) p1 a b
def Zo (p1 : (List UInt8)) : Option (Int × Bool) :=
  (Vj p1 Y1 0 0)
theorem Z4  (p1 : (List UInt8)) (w0 : World)  (r : (Int × Bool)) (H : Zo p1 = some r) :
  Calls Tryz.prog 71 #[(.string ⟨List.toArray p1⟩)] w0 (fun e w' => e = .returned (.tuple #[(.int .i64 r.1), (.bool r.2)]) ∧ SP [] w0 w' []) := by
 unfold Zo at H
 refine Ql (n := 52) Tryz.func71 K K K ?_
 have a6 := Qy [] w0
 refine aQ ?_
 refine aR ?_
 refine iR 2 2 [(2, (.int .i64 0)), (3, (.bool false))] ?_
 refine iF ?_
 refine aQ ?_
 refine aR ?_
 refine iR 1 1 [(4, (.int .i64 0))] ?_
 refine iF ?_
 refine aQ ?_
 refine aQ ?_
 refine aR ?_
 refine iR 1 1 [(5, (.int .i64 0))] ?_
 refine iF ?_
 refine J2 K (id := 0) K ?_
 refine Du K (fun f5 ρ w => ∃ (c : Int) (f : Int), Q7 ρ [(0, (.string ⟨List.toArray p1⟩)), (4, (.int .i64 c)), (5, (.int .i64 f))] ∧ SP [] w0 w [] ∧ Vj p1 f5 c f = some r) (by rintro ρ w ⟨c, f, hk, hs, H⟩; cases H) ?_ Y1 ?_
 ·rintro f5 ρ b5 ⟨c, f, hk, g, H⟩
  refine At.known [(0, (.string ⟨List.toArray p1⟩)), (4, (.int .i64 c)), (5, (.int .i64 f))] hk ?_
  replace H := (show Zs (Vj p1 f5) p1 c f = some r from H)
  unfold Zs at H
  refine aQ ?_
  refine aQ ?_
  refine aR ?_
  refine iR 4 4 [(6, (.int .i64 f)), (7, (.string ⟨List.toArray p1⟩)), (8, (.int .i64 ((List.length p1 : Nat) : Int))), (9, (.bool (decide (f < ((List.length p1 : Nat) : Int)))))] ?_
  refine iF ?_
  refine Vm K (o := (.tmp 9)) K (b := (decide (f < ((List.length p1 : Nat) : Int)))) K (fun s => ?_) (fun s => ?_)
  ·have H := ct H s
   refine At.skip K ?_
   refine aQ ?_
   refine J2 K (id := 1) K ?_
   refine aQ ?_
   refine aQ ?_
   refine At.join (fun ρ w => ∃ (h : Bool), Q7 ρ [(0, (.string ⟨List.toArray p1⟩)), (4, (.int .i64 c)), (5, (.int .i64 f)), (25, (.bool h))] ∧ SP [] w0 w [] ∧ Xu (Vj p1 f5) p1 c f h = some r) ?_ ?_
   ·refine aR ?_
    refine iR 2 2 [(12, (.string ⟨List.toArray p1⟩)), (13, (.int .i64 f))] ?_
    obtain ⟨p, a7, b6, a8, H⟩ := Vf H
    refine iS 3 ?_
    refine Zd (a := p1) (u := p) (T := 9) (x := (.tmp 12)) (ix := (.tmp 13)) (ki := .i64) (iz := f) (d := (some 14)) (k := 2) K rfl K K K a7 a8 ?_
    refine iR 2 5 [(15, (.bool (decide (((p).toNat : Int) < 48)))), (16, (.bool (decide (((p).toNat : Int) < 48))))] ?_
    refine In.guard (t := 16) (b := (decide (((p).toNat : Int) < 48))) K (fun v => ?_) (fun v => ?_)
    ·have H := ct H v
     refine iR 9 14 [(17, undef), (18, undef), (19, undef), (20, undef), (21, (.bool true)), (22, (.bool true)), (23, undef), (24, undef), (25, (.bool true))] ?_
     refine iF ?_
     exact ⟨true, ⟨K, K, K, K, trivial⟩, SP.sel g [] rfl rfl, H⟩
    ·have H := cf H v
     refine iR 2 7 [(17, (.string ⟨List.toArray p1⟩)), (18, (.int .i64 f))] ?_
     obtain ⟨m, a9, b7, b0, H⟩ := Vf H
     refine iS 8 ?_
     refine Zd (a := p1) (u := m) (T := 9) (x := (.tmp 17)) (ix := (.tmp 18)) (ki := .i64) (iz := f) (d := (some 19)) (k := 7) K rfl K K K a9 b0 ?_
     refine iR 3 11 [(20, (.bool (decide (((m).toNat : Int) > 57)))), (21, (.bool (decide (((m).toNat : Int) > 57)))), (22, (.bool (decide (((m).toNat : Int) > 57))))] ?_
     refine In.guard (t := 22) (b := (decide (((m).toNat : Int) > 57))) K (fun y => ?_) (fun y => ?_)
     ·have H := ct H y
      refine iR 3 14 [(23, undef), (24, undef), (25, (.bool true))] ?_
      refine iF ?_
      exact ⟨true, ⟨K, K, K, K, trivial⟩, SP.sel g [] rfl rfl, H⟩
     ·have H := cf H y
      refine iR 3 14 [(23, (.int .i64 f)), (24, (.bool (decide (f ≥ 13)))), (25, (.bool (decide (f ≥ 13))))] ?_
      refine iF ?_
      exact ⟨(decide (f ≥ 13)), ⟨K, K, K, K, trivial⟩, SP.sel g [] rfl rfl, H⟩
   ·rintro ρ b8 ⟨h, hk, a4, H⟩
    unfold Xu at H
    first | refine At.known [(0, (.string ⟨List.toArray p1⟩)), (4, (.int .i64 c)), (5, (.int .i64 f)), (25, (.bool h))] hk ?_ | rw [← Qc (l := [(0, (.string ⟨List.toArray p1⟩)), (4, (.int .i64 c)), (5, (.int .i64 f)), (25, (.bool h))]) hk]
    refine Vm K (o := (.tmp 25)) K (b := h) K (fun z => ?_) (fun z => ?_)
    ·have H := ct H z
     refine aQ ?_
     refine aR ?_
     refine iR 2 2 [(2, (.int .i64 0)), (3, (.bool false))] ?_
     refine iF ?_
     refine At.ret K ?_
     refine ⟨(.tuple #[(.int .i64 0), (.bool false)]), K, ?_⟩
     obtain rfl := Qb H
     exact ⟨rfl, SP.sel a4 [] rfl rfl⟩
    ·have H := cf H z
     refine At.skip K ?_
     refine aR ?_
     refine iR 4 4 [(26, (.int .i64 c)), (27, (.int .i64 (IntKind.wrap .i64 (10 * c)))), (28, (.string ⟨List.toArray p1⟩)), (29, (.int .i64 f))] ?_
     obtain ⟨i, b1, b9, b2, H⟩ := Vf H
     refine iS 5 ?_
     refine Zd (a := p1) (u := i) (T := 9) (x := (.tmp 28)) (ix := (.tmp 29)) (ki := .i64) (iz := f) (d := (some 30)) (k := 4) K rfl K K K b1 b2 ?_
     refine iR 4 9 [(31, (.int .u8 (IntKind.wrap .u8 (((i).toNat : Int) - 48)))), (32, (.int .i64 (IntKind.wrap .i64 (IntKind.wrap .u8 (((i).toNat : Int) - 48))))), (33, (.int .i64 (IntKind.wrap .i64 ((IntKind.wrap .i64 (10 * c)) + (IntKind.wrap .i64 (IntKind.wrap .u8 (((i).toNat : Int) - 48))))))), (4, (.int .i64 (IntKind.wrap .i64 ((IntKind.wrap .i64 (10 * c)) + (IntKind.wrap .i64 (IntKind.wrap .u8 (((i).toNat : Int) - 48)))))))] ?_
     refine iF ?_
     refine aR ?_
     refine iR 3 3 [(10, (.int .i64 f)), (11, (.int .i64 (IntKind.wrap .i64 (f + 1)))), (5, (.int .i64 (IntKind.wrap .i64 (f + 1))))] ?_
     refine iF ?_
     exact ⟨(IntKind.wrap .i64 ((IntKind.wrap .i64 (10 * c)) + (IntKind.wrap .i64 (IntKind.wrap .u8 (((i).toNat : Int) - 48))))), (IntKind.wrap .i64 (f + 1)), ⟨K, K, K, trivial⟩, SP.sel a4 [] rfl rfl, H⟩
  ·have H := cf H s
   refine At.exit K (id := 0) K ?_
   refine aQ ?_
   refine aQ ?_
   refine At.join (fun ρ w => ∃ (j : Bool), Q7 ρ [(4, (.int .i64 c)), (50, (.bool j))] ∧ SP [] w0 w [] ∧ Zr (Vj p1 f5) c j = some r) ?_ ?_
   ·refine aR ?_
    refine iR 4 4 [(34, (.string ⟨List.toArray p1⟩)), (35, (.int .i64 ((List.length p1 : Nat) : Int))), (36, (.bool (((List.length p1 : Nat) : Int) == 0))), (37, (.bool (((List.length p1 : Nat) : Int) == 0)))] ?_
    refine In.guard (t := 37) (b := (((List.length p1 : Nat) : Int) == 0)) K (fun a0 => ?_) (fun a0 => ?_)
    ·have H := ct H a0
     refine iR 13 17 [(38, undef), (39, undef), (40, undef), (41, undef), (42, undef), (43, undef), (44, undef), (45, undef), (46, (.bool true)), (47, (.bool true)), (48, undef), (49, undef), (50, (.bool true))] ?_
     refine iF ?_
     exact ⟨true, ⟨K, K, trivial⟩, SP.sel g [] rfl rfl, H⟩
    ·have H := cf H a0
     refine iR 1 5 [(38, (.string ⟨List.toArray p1⟩))] ?_
     obtain ⟨q, b3, c0, b4, H⟩ := Vf H
     refine iS 6 ?_
     refine Zd (a := p1) (u := q) (T := 9) (x := (.tmp 38)) (ix := (.const (.int .i64 (0)))) (ki := .i64) (iz := 0) (d := (some 39)) (k := 5) K rfl K K K b3 b4 ?_
     refine iR 2 8 [(40, (.bool (((q).toNat : Int) == 48))), (41, (.bool (((q).toNat : Int) == 48)))] ?_
     refine In.guard (t := 41) (b := (((q).toNat : Int) == 48)) K (fun a1 => ?_) (fun a1 => ?_)
     ·have H := ct H a1
      refine iR 6 14 [(42, (.string ⟨List.toArray p1⟩)), (43, (.int .i64 ((List.length p1 : Nat) : Int))), (44, (.bool (decide (((List.length p1 : Nat) : Int) > 1)))), (45, (.bool (decide (((List.length p1 : Nat) : Int) > 1)))), (46, (.bool (decide (((List.length p1 : Nat) : Int) > 1)))), (47, (.bool (decide (((List.length p1 : Nat) : Int) > 1))))] ?_
      refine In.guard (t := 47) (b := (decide (((List.length p1 : Nat) : Int) > 1))) K (fun a2 => ?_) (fun a2 => ?_)
      ·have H := ct H a2
       refine iR 3 17 [(48, undef), (49, undef), (50, (.bool true))] ?_
       refine iF ?_
       exact ⟨true, ⟨K, K, trivial⟩, SP.sel g [] rfl rfl, H⟩
      ·have H := cf H a2
       refine iR 3 17 [(48, (.int .i64 c)), (49, (.bool (decide (c > 1099511627776)))), (50, (.bool (decide (c > 1099511627776))))] ?_
       refine iF ?_
       exact ⟨(decide (c > 1099511627776)), ⟨K, K, trivial⟩, SP.sel g [] rfl rfl, H⟩
     ·have H := cf H a1
      refine iR 9 17 [(42, undef), (43, undef), (44, undef), (45, (.bool false)), (46, (.bool false)), (47, (.bool false)), (48, (.int .i64 c)), (49, (.bool (decide (c > 1099511627776)))), (50, (.bool (decide (c > 1099511627776))))] ?_
      refine iF ?_
      exact ⟨(decide (c > 1099511627776)), ⟨K, K, trivial⟩, SP.sel g [] rfl rfl, H⟩
   ·rintro ρ c1 ⟨j, hk, a5, H⟩
    unfold Zr at H
    first | refine At.known [(4, (.int .i64 c)), (50, (.bool j))] hk ?_ | rw [← Qc (l := [(4, (.int .i64 c)), (50, (.bool j))]) hk]
    refine Vm K (o := (.tmp 50)) K (b := j) K (fun a3 => ?_) (fun a3 => ?_)
    ·have H := ct H a3
     refine aQ ?_
     refine aR ?_
     refine iR 2 2 [(2, (.int .i64 0)), (3, (.bool false))] ?_
     refine iF ?_
     refine At.ret K ?_
     refine ⟨(.tuple #[(.int .i64 0), (.bool false)]), K, ?_⟩
     obtain rfl := Qb H
     exact ⟨rfl, SP.sel a5 [] rfl rfl⟩
    ·have H := cf H a3
     refine At.skip K ?_
     refine aQ ?_
     refine aR ?_
     refine iR 3 3 [(51, (.int .i64 c)), (2, (.int .i64 c)), (3, (.bool true))] ?_
     refine iF ?_
     refine At.ret K ?_
     refine ⟨(.tuple #[(.int .i64 c), (.bool true)]), K, ?_⟩
     obtain rfl := Qb H
     exact ⟨rfl, SP.sel a5 [] rfl rfl⟩
 ·exact ⟨0, 0, ⟨K, K, K, trivial⟩, SP.sel a6 [] rfl rfl, H⟩
end Go.Proofs.YtoflbpmbkmephaaGreatDoor
namespace Go.Proofs.YtoflbpmbkmephaaGreatDoor
open Go.Lib (decDigits)
theorem rDigit (m : Nat) : B6 (IntKind.wrap .u8 (IntKind.wrap .i64 (48 + Int.tmod (m : Int) 10))) = UInt8.ofNat (48 + m % 10) := by
  have := Ez m 10
  rw [show ((10 : Nat) : Int) = 10 from rfl] at this
  rw [this, Z2 (by omega), show (48 + ((m % 10 : Nat) : Int)) = ((48 + m % 10 : Nat) : Int) by omega, toU8_wrap]
theorem rDiv (m : Nat) (h : m ≤ 1099511627776) : IntKind.wrap .i64 (Int.tdiv (m : Int) 10) = ((m / 10 : Nat) : Int) := by
  have := Ey m 10
  rw [show ((10 : Nat) : Int) = 10 from rfl] at this
  rw [this]
  exact Z2 (by omega)
theorem I6 : ∀ (j : Nat) (v : Nat) (out : List UInt8) (f : Nat), v < 10 ^ j → v ≤ 1099511627776 → j < f → out.length + j ≤ 100 → Z3 f (v : Int) out = some (I5 v ++ out) := by
  intro j
  induction j with
  | zero =>
    intro v out f hv _ hf _
    have : v = 0 := by simpa using hv
    subst this
    obtain ⟨f, rfl⟩ : ∃ g, f = g + 1 := ⟨f - 1, by omega⟩
    rfl
  | succ j ih =>
    intro v out f hv hm hf ho
    obtain ⟨f, rfl⟩ : ∃ g, f = g + 1 := ⟨f - 1, by omega⟩
    show X7 (Z3 f) (v : Int) out = _
    unfold X7
    by_cases h0 : v = 0
    · subst h0
      rfl
    · rw [show decide ((v : Int) > 0) = true by simp; omega, rDigit, rDiv v hm, Z7 (by simp only [List.length_cons, List.length_nil]; omega)]
      simp only [cond_true, Option.bind_some]
      rw [ih (v / 10) _ f (by rw [Nat.pow_succ] at hv; omega) (by omega) (by omega) (by simp only [List.length_append, List.length_cons, List.length_nil]; omega)]
      unfold I5
      rw [if_neg h0]
      by_cases hs : v < 10
      · rw [if_pos (by omega), Rg hs, Nat.mod_eq_of_lt hs]
        rfl
      · rw [if_neg (by omega), Ct hs]
        simp
theorem Mh (n : Int) : X9 n = some (Ds n) := by
  unfold X9 Ds
  by_cases h : 0 ≤ n ∧ n ≤ 1099511627776
  · rw [if_pos h, show decide (n < 0) = false by simp; omega, show decide (n > 1099511627776) = false by simp; omega]
    obtain ⟨m, rfl⟩ := Int.eq_ofNat_of_zero_le h.1
    have hm : m ≤ 1099511627776 := by omega
    simp only [cond_false, X8, rDigit, rDiv m hm]
    rw [I6 13 (m / 10) _ Y1 (by have h6 : (10 : Nat) ^ 13 = 10000000000000 := (by decide); omega) (by omega) (by rw [Cs]; omega) (by simp)]
    show some (I5 (m / 10) ++ [UInt8.ofNat (48 + m % 10)]) = some (decDigits m)
    unfold I5
    by_cases hs : m < 10
    · rw [if_pos (by omega), Rg hs, Nat.mod_eq_of_lt hs]
      rfl
    · rw [if_neg (by omega), Ct hs]
  · rw [if_neg h]
    by_cases h0 : n < 0
    · rw [show decide (n < 0) = true by simp; omega]
      rfl
    · rw [show decide (n < 0) = false by simp; omega, show decide (n > 1099511627776) = true by simp; omega]
      rfl
end Go.Proofs.YtoflbpmbkmephaaGreatDoor
namespace Go.Proofs.YtoflbpmbkmephaaGreatDoor
open Go.Lib (decDigits)
theorem digWrap {x : UInt8} (h : 48 ≤ x.toNat) : IntKind.wrap .i64 (IntKind.wrap .u8 (((x).toNat : Int) - 48)) = ((x.toNat - 48 : Nat) : Int) := by
  have := u8_lt x
  rw [Lq (by omega), Z2 (by omega)]
  omega
theorem Bq {x : UInt8} (h : x.toNat < 48 ∨ 57 < x.toNat) : R7 x = false := by
  unfold R7
  rcases h with h | h
  · rw [show decide (48 ≤ x.toNat) = false by simp; omega]; rfl
  · rw [show decide (x.toNat ≤ 57) = false by simp; omega]; simp
theorem Io {x : UInt8} (h : 48 ≤ x.toNat) (h2 : x.toNat ≤ 57) : R7 x = true := by unfold R7; simp [h, h2]
theorem Ls (l : List UInt8) (hl : l.length ≤ maxLen) : ∀ (d k f : Nat), d = l.length - k → k ≤ l.length → d < f → (l.take k).all R7 = true → R8 (l.take k) ≤ 10995116277769 →
    Jy l f ((R8 (l.take k) : Nat) : Int) (k : Int) = some (Qq (Qj l)) := by
  unfold maxLen at hl
  intro d
  induction d with
  | zero =>
    intro k f hd hk hf hall hv
    obtain ⟨f, rfl⟩ : ∃ g, f = g + 1 := ⟨f - 1, by omega⟩
    show U0 (Jy l f) l _ _ = _
    unfold U0
    rw [show decide ((k : Int) < ((List.length l : Nat) : Int)) = false by simp; omega, Ha]
    have e : l.take k = l := List.take_of_length_le (by omega)
    rw [e] at hall hv ⊢
    simp only [cond_false, Option.bind_some, Ds]
    by_cases hm : R8 l ≤ G7
    · have hm' := hm
      unfold G7 at hm'
      rw [if_pos (by omega), Int.toNat_natCast]
      by_cases he : decDigits (R8 l) = l
      · have hp : Qj l = some (R8 l) := by unfold Qj; rw [if_pos ⟨hall, hm, he⟩]
        rw [hp, he, beq_self_eq_true]
        rfl
      · have hp : Qj l = none := by unfold Qj; rw [if_neg fun h => he h.2.2]
        rw [hp, show (decDigits (R8 l) == l) = false by simpa using he]
        rfl
    · have hm' := hm
      unfold G7 at hm'
      have hp : Qj l = none := by unfold Qj; rw [if_neg fun h => hm h.2.1]
      rw [if_neg (by omega), hp]
      cases l with
      | nil => exact absurd (show R8 [] ≤ G7 by decide) hm
      | cons c r => rfl
  | succ d ih =>
    intro k f hd hk hf hall hv
    obtain ⟨f, rfl⟩ : ∃ g, f = g + 1 := ⟨f - 1, by omega⟩
    have hlt : k < l.length := by omega
    show U0 (Jy l f) l _ _ = _
    unfold U0
    have hx : idx l (k : Int) = some l[k] := U6 hlt
    rw [show decide ((k : Int) < ((List.length l : Nat) : Int)) = true by simp; omega, hx]
    simp only [cond_true, Option.bind_some]
    by_cases h1 : l[k].toNat < 48
    · rw [show decide (((l[k].toNat : Nat) : Int) < 48) = true by simp; omega, E1 hlt (Bq (.inl h1))]
      rfl
    · rw [show decide (((l[k].toNat : Nat) : Int) < 48) = false by simp; omega]
      simp only [cond_false]
      by_cases h2 : 57 < l[k].toNat
      · rw [show decide (((l[k].toNat : Nat) : Int) > 57) = true by simp; omega, E1 hlt (Bq (.inr h2))]
        rfl
      · rw [show decide (((l[k].toNat : Nat) : Int) > 57) = false by simp; omega]
        simp only [cond_false]
        by_cases h3 : G7 < R8 (l.take k)
        · rw [Lr h3]
          unfold G7 at h3
          rw [show decide (((R8 (l.take k) : Nat) : Int) > 1099511627776) = true by simp; omega]
          rfl
        · unfold G7 at h3
          rw [show decide (((R8 (l.take k) : Nat) : Int) > 1099511627776) = false by simp; omega]
          have hst := Kx hlt
          have w1 : IntKind.wrap .i64 (10 * ((R8 (l.take k) : Nat) : Int)) = ((10 * R8 (l.take k) : Nat) : Int) := by rw [Z2 (by omega)]; omega
          have w2 := digWrap (x := l[k]) (by omega)
          have w3 : IntKind.wrap .i64 (((10 * R8 (l.take k) : Nat) : Int) + ((l[k].toNat - 48 : Nat) : Int)) = ((R8 (l.take (k + 1)) : Nat) : Int) := by rw [hst, Z2 (by omega)]; omega
          have w4 : IntKind.wrap .i64 ((k : Int) + 1) = ((k + 1 : Nat) : Int) := by rw [Z2 (by omega)]; omega
          simp only [Ga, cond_false, w1, w2, w3, w4]
          exact ih (k + 1) f (by omega) (by omega) (by omega) (Mg hlt hall (Io (by omega) (by omega))) (by omega)
theorem lParse (l : List UInt8) (hl : l.length ≤ 2147483648) : Rw l = some (Qq (Qj l)) := by
  unfold Rw
  rw [Nat.ble_eq_true_of_le (Nat.le_trans hl (by decide))]
  exact Ls l (by unfold maxLen; omega) l.length 0 Y1 (by omega) (by omega) (by rw [Cs]; omega) rfl (show 0 ≤ 10995116277769 by decide)
theorem dval_lt {l : List UInt8} (h : l.all R7 = true) : R8 l < 10 ^ l.length := by
  suffices H : ∀ (l : List UInt8) (a k : Nat), l.all R7 = true → a < 10 ^ k → l.foldl (fun a c => 10 * a + (c.toNat - 48)) a < 10 ^ (k + l.length) by
    have := H l 0 0 h (by simp)
    simpa [R8] using this
  intro l
  induction l with
  | nil => intro a k _ h; simpa using h
  | cons c r ih =>
    intro a k hd h
    rw [List.all_cons, Bool.and_eq_true] at hd
    have hc : c.toNat ≤ 57 := by have := hd.1; simp [R7] at this; exact this.2
    have := ih (10 * a + (c.toNat - 48)) (k + 1) hd.2 (by rw [Nat.pow_succ]; omega)
    simp only [List.foldl_cons, List.length_cons]
    rw [show k + (r.length + 1) = k + 1 + r.length by omega]
    exact this
theorem Hs {l : List UInt8} {k : Nat} (h : (l.take k).all R7 = true) (hk : k ≤ 13) : R8 (l.take k) < 10000000000000 := by
  have h1 := dval_lt h
  have h2 : (l.take k).length ≤ 13 := by rw [List.length_take]; omega
  have h3 := Nat.pow_le_pow_right (show 0 < 10 by omega) h2
  have h6 : (10 : Nat) ^ 13 = 10000000000000 := by decide
  omega
theorem Lt (l : List UInt8) (hl : l.length ≤ maxLen) : ∀ (d k f : Nat), d = l.length - k → k ≤ l.length → k ≤ 13 → d < f → (l.take k).all R7 = true →
    Vj l f ((R8 (l.take k) : Nat) : Int) (k : Int) = some (Qq (Qj l)) := by
  unfold maxLen at hl
  intro d
  induction d with
  | zero =>
    intro k f hd hk hk13 hf hall
    obtain ⟨f, rfl⟩ : ∃ g, f = g + 1 := ⟨f - 1, by omega⟩
    have hv := Hs hall hk13
    show Zs (Vj l f) l _ _ = _
    unfold Zs
    rw [show decide ((k : Int) < ((List.length l : Nat) : Int)) = false by simp; omega]
    have e : l.take k = l := List.take_of_length_le (by omega)
    rw [e] at hall hv ⊢
    simp only [cond_false]
    cases hll : l with
    | nil =>
      have hp : Qj [] = none := by unfold Qj; rw [if_neg]; rintro ⟨_, _, h⟩; exact dec_ne _ h
      rw [hp]
      rfl
    | cons c r =>
      rw [← hll]
      have hlen : l.length = r.length + 1 := by rw [hll]; rfl
      rw [show (((List.length l : Nat) : Int) == 0) = false by rw [beq_eq_false_iff_ne]; omega, show idx l 0 = some c by rw [hll]; rfl]
      simp only [cond_false, Option.bind_some]
      have main : decDigits (R8 l) = l → Zr (Vj l f) ((R8 l : Nat) : Int) (decide (((R8 l : Nat) : Int) > 1099511627776)) = some (Qq (Qj l)) := by
        intro he
        by_cases hm : R8 l ≤ G7
        · have hp : Qj l = some (R8 l) := by unfold Qj; rw [if_pos ⟨hall, hm, he⟩]
          unfold G7 at hm
          rw [hp, show decide (((R8 l : Nat) : Int) > 1099511627776) = false by simp; omega]
          rfl
        · have hp : Qj l = none := by unfold Qj; rw [if_neg fun h => hm h.2.1]
          unfold G7 at hm
          rw [hp, show decide (((R8 l : Nat) : Int) > 1099511627776) = true by simp; omega]
          rfl
      have hhead : l.headD 0 = c := by rw [hll]; rfl
      by_cases h48 : c = 48
      · rw [show (((c.toNat : Nat) : Int) == 48) = true by rw [h48]; rfl]
        simp only [cond_true]
        by_cases h1 : 1 < l.length
        · rw [show decide (((List.length l : Nat) : Int) > 1) = true by simp; omega]
          have hp : Qj l = none := by
            unfold Qj
            rw [if_neg]
            rintro ⟨_, _, he⟩
            by_cases h0 : R8 l = 0
            · rw [h0, Rg (by omega)] at he
              have := congrArg List.length he
              simp at this
              omega
            · exact dec_head h0 (by rw [he, hhead, h48])
          rw [hp]
          rfl
        · rw [show decide (((List.length l : Nat) : Int) > 1) = false by simp; omega]
          exact main (Mf l hall (by rw [hll]; simp) (.inr (by omega)))
      · rw [show (((c.toNat : Nat) : Int) == 48) = false by
          rw [beq_eq_false_iff_ne]
          intro h
          exact h48 (UInt8.toNat_inj.1 (show c.toNat = (48 : UInt8).toNat from by have h9 : (48 : UInt8).toNat = 48 := rfl; omega))]
        exact main (Mf l hall (by rw [hll]; simp) (.inl (by rw [hhead]; exact h48)))
  | succ d ih =>
    intro k f hd hk hk13 hf hall
    obtain ⟨f, rfl⟩ : ∃ g, f = g + 1 := ⟨f - 1, by omega⟩
    have hlt : k < l.length := by omega
    have hv := Hs hall hk13
    show Zs (Vj l f) l _ _ = _
    unfold Zs
    have hx : idx l (k : Int) = some l[k] := U6 hlt
    rw [show decide ((k : Int) < ((List.length l : Nat) : Int)) = true by simp; omega, hx]
    simp only [cond_true, Option.bind_some]
    by_cases h1 : l[k].toNat < 48
    · rw [show decide (((l[k].toNat : Nat) : Int) < 48) = true by simp; omega, E1 hlt (Bq (.inl h1))]
      rfl
    · rw [show decide (((l[k].toNat : Nat) : Int) < 48) = false by simp; omega]
      simp only [cond_false]
      by_cases h2 : 57 < l[k].toNat
      · rw [show decide (((l[k].toNat : Nat) : Int) > 57) = true by simp; omega, E1 hlt (Bq (.inr h2))]
        rfl
      · rw [show decide (((l[k].toNat : Nat) : Int) > 57) = false by simp; omega]
        simp only [cond_false]
        by_cases h3 : 13 ≤ k
        · have hp : Qj l = none := by
            unfold Qj
            rw [if_neg]
            rintro ⟨_, hm, he⟩
            have := Kv hm
            rw [he] at this
            omega
          rw [hp, show decide ((k : Int) ≥ 13) = true by simp; omega]
          rfl
        · rw [show decide ((k : Int) ≥ 13) = false by simp; omega]
          have hst := Kx hlt
          have w1 : IntKind.wrap .i64 (10 * ((R8 (l.take k) : Nat) : Int)) = ((10 * R8 (l.take k) : Nat) : Int) := by rw [Z2 (by omega)]; omega
          have w2 := digWrap (x := l[k]) (by omega)
          have w3 : IntKind.wrap .i64 (((10 * R8 (l.take k) : Nat) : Int) + ((l[k].toNat - 48 : Nat) : Int)) = ((R8 (l.take (k + 1)) : Nat) : Int) := by rw [hst, Z2 (by omega)]; omega
          have w4 : IntKind.wrap .i64 ((k : Int) + 1) = ((k + 1 : Nat) : Int) := by rw [Z2 (by omega)]; omega
          simp only [Xu, cond_false, hx, Option.bind_some, w1, w2, w3, w4]
          exact ih (k + 1) f (by omega) (by omega) (by omega) (by omega) (Mg hlt hall (Io (by omega) (by omega)))
theorem Ht (l : List UInt8) (hl : l.length ≤ maxLen) : Zo l = some (Qq (Qj l)) := by
  have hl' := hl
  unfold maxLen at hl'
  exact Lt l hl l.length 0 Y1 (by omega) (by omega) (by omega) (by rw [Cs]; omega) rfl
end Go.Proofs.YtoflbpmbkmephaaGreatDoor
