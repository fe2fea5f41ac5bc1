import Derived.WalkKit
import Derived.WalkSpells
import Derived.WalkLawsBesides
import Derived.BigQuiet
import Derived.Deep.QuietTactic
import Derived.Deep.RegionWith
import Derived.Deep.RegionHeld3
import Derived.Deep.RegionLaw
import Derived.Deep.LoopGhost
import Derived.Deep.DeepCutAuto
import Derived.Deep.DeepFit
import Derived.StillTailTactics
import Derived.Laws.EntriesVeiled
import Derived.Laws.BytesString
import Derived.Lib.Hide
import Derived.Orders
import Derived.Deep.AppendSrc
import Derived.Laws.BytesArg
import Derived.Laws.CopyRow
import Derived.Lib.SmallJoins
import Derived.Laws.IdiomStrings
import Derived.Shelf.Strings.Builder1
import Derived.Shelf.Strings.Builder2
import Derived.Shelf.Strings.OnBuilder
import Derived.Shelf.Strings.Trim
import Derived.Shelf.Small.Utf8
import Derived.Shelf.Small.Strs
import Derived.Shelf.Strings.BuilderF
import Derived.Shelf.Strings.BuilderK
import Derived.Shelf.Strings.Builder2Cap
import Derived.Shelf.Strconv.Itoa0
import Derived.Shelf.Strconv.Itoa1
import Derived.Shelf.LaysM
import Derived.Shelf.Strconv.Itoa2
import Derived.Shelf.Strconv.Itoa3
import Derived.Shelf.Strconv.Itoa4
import Derived.Shelf.Strings.Search1
import Derived.Shelf.Strings.Search2
import Derived.Shelf.Strings.Search3
import Derived.Shelf.Strings.Cut
import Derived.Shelf.Strings.Count
import Derived.Shelf.Strings.Shaped
import Derived.Shelf.Strings.Split
import Derived.Shelf.Strings.Runes
import Derived.Shelf.Strings.AsciiSet
import Derived.Shelf.Unicode.DecodeSlow
import Derived.Shelf.Strings.BuilderCap
import Derived.Shelf.Strings.SlTrimAscii
import Derived.WalkSmall
import Derived.Lib.AppendIntMem
import Derived.Lib.ItoaNum
import Derived.Lib.ItoaMem
import GoSem.Op.String
import Derived.Lib.SlTrimSet
import Derived.Laws.OwnMore
import Derived.RangeFuncNested
import Derived.RangeFuncBound
import Derived.RangeFuncCalls
import Derived.RangeFuncLeaves
import Derived.Shelf.Abstract
import Derived.Shelf.RegionOpen
import Derived.OwnWalkIn
import Derived.TacticsInMore
import Derived.LoopNIn
import Derived.LoopIn
import Derived.Lib.Bytealg
import Derived.Scope
import Derived.IntWalk
import Derived.Laws.BitsAllLaws
import Derived.Laws.BitsLemmas
import Derived.MapKept
import Derived.Maps.RangeRun
import Derived.RegionIn
import Derived.ProofKit
import Derived.OpenShut
import Derived.ShutString
import Derived.ChangeOld
import Derived.Below
import Derived.Deep.Strs
import Derived.DataReads
import Derived.SizedLaws
import Derived.Deep.DeepHandedRow
import Derived.Lib.LaidTab
import Derived.LaidSub
import Derived.SevenTiedAt
import Derived.Test.YtoflbpmbkmephaaGreatDoorRows
import Derived.Test.YtoflbpmbkmephaaGreatDoorProg
import Derived.Test.YtoflbpmbkmephaaGreatDoorCards
import Derived.Test.YtoflbpmbkmephaaGreatDoorTie
set_option linter.unusedSimpArgs false
set_option linter.unusedVariables false
set_option linter.unusedSectionVars false
set_option maxRecDepth 100000
set_option maxHeartbeats 40000000
namespace Go.Proofs.YtoflbpmbkmephaaGreatDoor
open Go.RowKit
def Rd (w : World) (A : Option Addr) (n c : Nat) (l : List UInt8) : Prop :=
  l.length = n ∧ n ≤ c ∧ c ≤ maxLen ∧
    (0 < n → ∃ b off, A = some ⟨b, off, none⟩ ∧ b < w.heap.size ∧ ∀ i, i < n → w.cell? ⟨b, off + i, none⟩ = some (.int .u8 ((l.getD i 0).toNat : Int)))
section
variable {w w' : World} {A : Option Addr} {n c : Nat} {l : List UInt8}
theorem Rd.keep (h : Rd w A n c l) (hs : w.heap.size ≤ w'.heap.size) (hk : ∀ b o, b < w.heap.size → w'.cell? ⟨b, o, none⟩ = w.cell? ⟨b, o, none⟩) : Rd w' A n c l := by
  obtain ⟨h1, h2, h3, h4⟩ := h
  refine ⟨h1, h2, h3, fun hn => ?_⟩
  obtain ⟨b, off, hA, hb, hc⟩ := h4 hn
  exact ⟨b, off, hA, by omega, fun i hi => (hk _ _ hb).trans (hc i hi)⟩
theorem Rd.below (h : Rd w A n c l) (hb : Below w.heap.size w w') : Rd w' A n c l :=
  h.keep hb.size fun _ _ hlt => hb.cell hlt
theorem Rd.alloc (h : Rd w A n c l) (o : Obj) : Rd (w.alloc o) A n c l :=
  h.below ((Below.refl _ _).alloc (Nat.le_refl _) o)
theorem Rd.drew (h : Rd w A n c l) : Rd w.drew A n c l := h
theorem Rd.drewN (h : Rd w A n c l) (k : Nat) : Rd (w.drewN k) A n c l := h
theorem Rd.nil (w : World) : Rd w none 0 0 [] := ⟨rfl, Nat.le_refl _, Nat.zero_le _, fun h => absurd h (by omega)⟩
theorem Rd.len (h : Rd w A n c l) : l.length = n := h.1
theorem Rd.le (h : Rd w A n c l) : n ≤ c := h.2.1
end
structure Mod (S : List Nat) (w w' : World) : Prop where
  os : w'.os = w.os
  tape : w'.tape = w.tape
  output : w'.output = w.output
  size : w.heap.size ≤ w'.heap.size
  block : ∀ k, k < w.heap.size → k ∉ S → w'.heap[k]? = w.heap[k]?
section
variable {S S' : List Nat} {a w w' : World}
theorem Mod.refl (S : List Nat) (w : World) : Mod S w w := ⟨rfl, rfl, rfl, Nat.le_refl _, fun _ _ _ => rfl⟩
theorem Mod.trans (h : Mod S a w) (k : Mod S w w') : Mod S a w' :=
  ⟨k.os.trans h.os, k.tape.trans h.tape, k.output.trans h.output, Nat.le_trans h.size k.size, fun i hi hn => (k.block i (Nat.lt_of_lt_of_le hi h.size) hn).trans (h.block i hi hn)⟩
theorem Mod.more (h : Mod S w w') (hS : ∀ k ∈ S, k ∈ S') : Mod S' w w' := ⟨h.os, h.tape, h.output, h.size, fun i hi hn => h.block i hi (fun hm => hn (hS i hm))⟩
theorem Mod.drew (h : Mod S a w) : Mod S a w.drew := ⟨h.os, h.tape, h.output, h.size, h.block⟩
theorem Mod.drewN (h : Mod S a w) (n : Nat) : Mod S a (w.drewN n) := ⟨h.os, h.tape, h.output, h.size, h.block⟩
theorem Mod.alloc (h : Mod S a w) (o : Obj) : Mod S a (w.alloc o) :=
  ⟨h.os, h.tape, h.output, Nat.le_trans h.size (by simp), fun i hi hn => (Below.heap_alloc w o i (Nat.lt_of_lt_of_le hi h.size)).trans (h.block i hi hn)⟩
theorem Mod.setCell (h : Mod S a w) {p : Addr} (hp : p.block ∈ S ∨ a.heap.size ≤ p.block) (u : Value) : Mod S a (w.setCell p u) :=
  ⟨h.os, h.tape, h.output, by simpa [World.setCell] using h.size, fun i hi hn => (Below.heap_setCell w p u i (by
    rintro rfl
    rcases hp with hp | hp
    · exact hn hp
    · omega)).trans (h.block i hi hn)⟩
theorem J3 (h : Below w.heap.size w w') (S : List Nat) : Mod S w w' := ⟨h.os, h.tape, h.output, h.size, fun i hi _ => h.block i hi⟩
theorem Mod.below {B : Nat} (h : Mod S w w') (hB : B ≤ w.heap.size) (hS : ∀ k ∈ S, B ≤ k) : Below B w w' :=
  ⟨h.os, h.tape, h.output, h.size, fun i hi => h.block i (by omega) (fun hm => by have := hS i hm; omega)⟩
theorem E9 {row : Option Nat} (h : w.grownBy w' row) (hr : ∀ k, row = some k → k ∈ S) : Mod S w w' :=
  ⟨h.os, h.tape, h.output, h.size, fun i hi hn => h.block i hi (fun e => hn (hr i e.symm))⟩
theorem Mod.cell (h : Mod S w w') {b o : Nat} (hb : b < w.heap.size) (hn : b ∉ S) : w'.cell? ⟨b, o, none⟩ = w.cell? ⟨b, o, none⟩ := World.cell?_of_block (h.block b hb hn)
theorem Rd.mod {A : Option Addr} {n c : Nat} {l : List UInt8} (h : Rd w A n c l) (hm : Mod S w w') (hS : ∀ b o, A = some ⟨b, o, none⟩ → b ∉ S) : Rd w' A n c l := by
  obtain ⟨h1, h2, h3, h4⟩ := h
  refine ⟨h1, h2, h3, fun hn => ?_⟩
  obtain ⟨b, off, hA, hb, hc⟩ := h4 hn
  exact ⟨b, off, hA, Nat.lt_of_lt_of_le hb hm.size, fun i hi => (hm.cell hb (hS _ _ hA)).trans (hc i hi)⟩
end
theorem Rd.take {w : World} {A : Option Addr} {n c k : Nat} {l : List UInt8} (h : Rd w A n c l) (hk : k ≤ n) : Rd w A k c (l.take k) := by
  obtain ⟨h1, h2, h3, h4⟩ := h
  refine ⟨by rw [List.length_take, h1]; omega, by omega, h3, fun hn => ?_⟩
  obtain ⟨b, off, rfl, hb, hc⟩ := h4 (by omega)
  refine ⟨b, off, rfl, hb, fun i hi => ?_⟩
  rw [hc i (by omega)]
  simp [List.getD, List.getElem?_take, hi]
end Go.Proofs.YtoflbpmbkmephaaGreatDoor
namespace Go.Proofs.YtoflbpmbkmephaaGreatDoor
abbrev Fr := Nat → Value
def upd (ρ : Fr) (d : Nat) (v : Value) : Fr := fun t => match Nat.beq t d with | true => v | false => ρ t
def Rh (ρ : Fr) (d : Option Nat) (v : Value) : Fr := match d with | some d => upd ρ d v | none => ρ
def opv (ρ : Fr) : Operand → Value
  | .tmp t => ρ t
  | .const v => v
  | .global g => .pointer (some ⟨g, 0, none⟩)
  | .func f => .func (.func f) #[] #[]
theorem L5 (ρ : Fr) (d : Nat) (v : Value) : upd ρ d v d = v := by simp [upd]
theorem Ka {ρ : Fr} {d t : Nat} {v : Value} (h : t ≠ d) : upd ρ d v t = ρ t := by
  unfold upd
  have : Nat.beq t d = false := by
    cases hb : Nat.beq t d with
    | false => rfl
    | true => exact absurd (Nat.eq_of_beq_eq_true hb) h
  rw [this]
theorem L6 {ρ : Fr} {d : Nat} {v : Value} (h : ρ d = v) : upd ρ d v = ρ := by
  funext t
  by_cases ht : t = d
  · subst ht; rw [L5, h]
  · exact Ka ht
structure FA (n : Nat) (ρ : Fr) (a : Act) : Prop where
  defers : a.defers = []
  size : a.tmps.size = n
  get : ∀ t, a.tmps.getD t undef = ρ t
theorem FA.eval {n : Nat} {ρ : Fr} {a : Act} (h : FA n ρ a) : a.eval = opv ρ := by
  funext x
  cases x with
  | tmp t => exact h.get t
  | _ => rfl
theorem FA.put {n : Nat} {ρ : Fr} {a : Act} (h : FA n ρ a) {d : Nat} (hd : d < n) (v : Value) : FA n (upd ρ d v) (a.put (some d) v) := by
  refine ⟨h.defers, by simpa [Act.put] using h.size, fun t => ?_⟩
  have hs := h.size
  by_cases ht : t = d
  · subst ht
    rw [L5]
    simp [Act.put, hs, hd]
  · rw [Ka ht, ← h.get t]
    simp [Act.put, Array.getElem?_setIfInBounds_ne (fun e => ht e.symm)]
def Jn (n : Nat) (d : Option Nat) : Bool := match d with | some d => Nat.blt d n | none => true
theorem FA.putO {n : Nat} {ρ : Fr} {a : Act} (h : FA n ρ a) {d : Option Nat} (hd : Jn n d = true) (v : Value) : FA n (Rh ρ d v) (a.put d v) := by
  cases d with
  | none => exact h
  | some d => exact h.put (by simp only [Jn] at hd; exact Nat.le_of_ble_eq_true hd) v
abbrev Im := Exit → Fr → World → Prop
def Pf (n : Nat) (Q : Im) : Exit → Act → World → Prop := fun e a w => ∃ ρ, FA n ρ a ∧ Q e ρ w
def W (P : Program) (n : Nat) (c : Code) (Q : Im) (ρ : Fr) (w : World) : Prop := ∀ a, FA n ρ a → c.wp P (Pf n Q) a w
def K7 (K : Fr → World → Prop) (Q : Im) : Im
  | .normal, ρ, w => K ρ w
  | e, ρ, w => Q e ρ w
def Mv (id : Nat) (Q : Im) : Im
  | .exit k, ρ, w => match Nat.beq k id with | true => Q .normal ρ w | false => Q (.exit k) ρ w
  | e, ρ, w => Q e ρ w
section
variable {P : Program} {n : Nat} {Q : Im} {ρ : Fr} {w : World}
theorem W.mono {c : Code} {Q' : Im} (h : W P n c Q' ρ w) (hq : ∀ e ρ w, Q' e ρ w → Q e ρ w) : W P n c Q ρ w :=
  fun a ha => Code.wp_mono (fun e a' w' ⟨ρ', h1, h2⟩ => ⟨ρ', h1, hq _ _ _ h2⟩) (h a ha)
theorem W.seq {x y : Code} (h : W P n x (K7 (W P n y Q) Q) ρ w) : W P n (.seq x y) Q ρ w := by
  intro a ha
  refine wp_seq (Code.wp_mono ?_ (h a ha))
  rintro e a' w' ⟨ρ', ha', hq⟩
  cases e with
  | normal => exact hq a' ha'
  | _ => exact ⟨ρ', ha', hq⟩
theorem W.skip (h : Q .normal ρ w) : W P n .skip Q ρ w := fun _ ha => wp_skip ⟨ρ, ha, h⟩
theorem W.ret (h : Q .ret ρ w) : W P n .ret Q ρ w := fun _ ha => wp_ret ⟨ρ, ha, h⟩
theorem W.exit {id : Nat} (h : Q (.exit id) ρ w) : W P n (.exit id) Q ρ w := fun _ ha => wp_exit ⟨ρ, ha, h⟩
theorem W.block {id : Nat} {c : Code} (h : W P n c (Mv id Q) ρ w) : W P n (.block id c) Q ρ w := by
  intro a ha
  refine wp_block (Code.wp_mono ?_ (h a ha))
  rintro e a' w' ⟨ρ', ha', hq⟩
  cases e with
  | exit k =>
    by_cases hk : k = id
    · subst hk
      simp only [Exit.inBlock, if_true]
      simp only [Mv, Nat.beq_refl] at hq
      exact ⟨ρ', ha', hq⟩
    · simp only [Exit.inBlock, if_neg hk]
      have : Nat.beq k id = false := by
        cases hb : Nat.beq k id with
        | false => rfl
        | true => exact absurd (Nat.eq_of_beq_eq_true hb) hk
      simp only [Mv, this] at hq
      exact ⟨ρ', ha', hq⟩
  | _ => exact ⟨ρ', ha', hq⟩
theorem W.cond {c : Operand} {x y : Code} {b : Bool} (hc : opv ρ c = .bool b) (h1 : b = true → W P n x Q ρ w) (h2 : b = false → W P n y Q ρ w) : W P n (.cond c x y) Q ρ w := by
  intro a ha
  exact wp_cond_split (by rw [ha.eval]; exact hc) (fun h => h1 h a ha) (fun h => h2 h a ha)
theorem W.join {c : Code} (Mid : Fr → World → Prop) (h : W P n c (K7 Mid Q) ρ w) (hm : ∀ ρ w, Mid ρ w → Q .normal ρ w) : W P n c Q ρ w :=
  h.mono fun e ρ w hq => by cases e <;> first | exact hm _ _ hq | exact hq
theorem Mw {c : Code} {Q : Exit → Act → World → Prop} (I : Nat → Act → World → Prop)
    (round : ∀ f a w, I f a w → c.wp P (Exit.then (fun a' w' => ∃ f', f' < f ∧ I f' a' w') Q) a w) : ∀ (f : Nat) (a : Act) (w : World), I f a w → (Code.loop c).wp P Q a w := by
  intro f a w h₀ b k cs
  have key : ∀ f a w, I f a w → ∃ e a' w', Q e a' w' ∧ Arrives P (lone (b.at a (.code c :: .inLoop c :: k)) cs w) b k cs e a' w' := by
    intro f
    induction f using Nat.strongRecOn with
    | _ f ih =>
      intro a w hI
      obtain ⟨e, a₁, w₁, hq, harr⟩ := round f a w hI b (.inLoop c :: k) cs
      cases e with
      | normal =>
        obtain ⟨f', hlt, hI₁⟩ := hq
        obtain ⟨e₂, a₂, w₂, hq₂, harr₂⟩ := ih f' hlt a₁ w₁ hI₁
        exact ⟨e₂, a₂, w₂, hq₂, .of_steps (Steps.trans harr (.one step_inLoop)) harr₂⟩
      | exit id => exact ⟨_, a₁, w₁, hq, .pass (x := .inLoop c) rfl (fun _ _ => .inl (by simp)) harr⟩
      | goto l => exact ⟨_, a₁, w₁, hq, .pass (x := .inLoop c) rfl (fun _ _ => .inl (by simp)) harr⟩
      | ret => exact ⟨_, a₁, w₁, hq, .pass (x := .inLoop c) rfl (fun _ _ => .inl (by simp)) harr⟩
      | panic ch => exact ⟨_, a₁, w₁, hq, .pass (x := .inLoop c) rfl (fun _ _ => .inl (by simp)) harr⟩
      | outgrown => exact ⟨_, a₁, w₁, hq, .pass (x := .inLoop c) rfl (fun _ _ => .inl (by simp)) harr⟩
  obtain ⟨e, a', w', hq, harr⟩ := key f a w h₀
  exact ⟨e, a', w', hq, .of_steps (.one step_loop) harr⟩
theorem W.loop {c : Code} (I : Nat → Fr → World → Prop) (h0 : ∀ ρ w, ¬ I 0 ρ w) (hr : ∀ f ρ w, I (f + 1) ρ w → W P n c (K7 (I f) Q) ρ w) (f : Nat) (h : I f ρ w) : W P n (.loop c) Q ρ w := by
  intro a ha
  refine Mw (fun f a w => ∃ ρ, FA n ρ a ∧ I f ρ w) ?_ f a w ⟨ρ, ha, h⟩
  rintro f a w ⟨ρ, ha, hI⟩
  cases f with
  | zero => exact absurd hI (h0 _ _)
  | succ f =>
    refine Code.wp_mono ?_ (hr f ρ w hI a ha)
    rintro e a' w' ⟨ρ', ha', hq⟩
    cases e with
    | normal => exact ⟨f, Nat.lt_succ_self f, ρ', ha', hq⟩
    | _ => exact ⟨ρ', ha', hq⟩
end
def Qi : Code → List Bool → Code
  | c, [] => c
  | .seq a _, false :: p => Qi a p
  | .seq _ b, true :: p => Qi b p
  | .cond _ a _, false :: p => Qi a p
  | .cond _ _ b, true :: p => Qi b p
  | .block _ c, _ :: p => Qi c p
  | .loop c, _ :: p => Qi c p
  | .scope c, _ :: p => Qi c p
  | _, _ :: _ => .skip
theorem Pg (q : List Bool) : Qi .skip q = .skip := by
  cases q with
  | nil => rfl
  | cons b q => cases b <;> rfl
theorem Gp : ∀ (p : List Bool) (c : Code) (q : List Bool), Qi c (p ++ q) = Qi (Qi c p) q
  | [], c, q => by cases c <;> rfl
  | b :: p, c, q => by
    cases c <;> cases b <;> first
      | exact Gp p _ q
      | (simp only [List.cons_append, Qi]; exact (Pg q).symm)
def Dy : Code → Nat × Nat × Operand
  | .seq _ _ => (1, 0, .const undef)
  | .cond c _ _ => (2, 0, c)
  | .block id _ => (3, id, .const undef)
  | .loop _ => (4, 0, .const undef)
  | .region id _ d => (5, id, .const (.bool d))
  | .exit id => (6, id, .const undef)
  | .ret => (7, 0, .const undef)
  | .skip => (8, 0, .const undef)
  | .scope _ => (9, 0, .const undef)
  | _ => (0, 0, .const undef)
def Ri (k : Nat) (c : Code) : Bool := Nat.beq (Dy c).1 k
def Ph (c : Code) : Nat := (Dy c).2.1
def Mx (c : Code) : Operand := (Dy c).2.2
def Q2 : Code → Array Oper
  | .region _ ops _ => ops
  | _ => #[]
def Fn : Code → Bool
  | .region _ _ d => d
  | _ => true
section
variable {P : Program} {n : Nat} {Q : Im} {ρ : Fr} {w : World} {B : Code} {p : List Bool}
theorem seq_of {c : Code} (h : Ri 1 c = true) : c = .seq (Qi c [false]) (Qi c [true]) := by
  cases c <;> first | exact absurd h (by decide) | (simp [Ri, Dy] at h; done) | skip
  rename_i a b
  show Code.seq a b = Code.seq (Qi a []) (Qi b [])
  cases a <;> cases b <;> rfl
theorem Fo (c : Code) : Qi c [] = c := by cases c <;> rfl
theorem cond_of {c : Code} (h : Ri 2 c = true) : c = .cond (Mx c) (Qi c [false]) (Qi c [true]) := by
  cases c <;> first | (simp [Ri, Dy] at h; done) | skip
  simp [Mx, Dy, Qi, Fo]
theorem block_of {c : Code} (h : Ri 3 c = true) : c = .block (Ph c) (Qi c [false]) := by
  cases c <;> first | (simp [Ri, Dy] at h; done) | skip
  simp [Ph, Dy, Qi, Fo]
theorem loop_of {c : Code} (h : Ri 4 c = true) : c = .loop (Qi c [false]) := by
  cases c <;> first | (simp [Ri, Dy] at h; done) | skip
  simp [Qi, Fo]
theorem My {c : Code} (h : Ri 5 c = true) : c = .region (Ph c) (Q2 c) (Fn c) := by
  cases c <;> first | (simp [Ri, Dy] at h; done) | skip
  rfl
theorem exit_of {c : Code} (h : Ri 6 c = true) : c = .exit (Ph c) := by
  cases c <;> first | (simp [Ri, Dy] at h; done) | skip
  rfl
theorem ret_of {c : Code} (h : Ri 7 c = true) : c = .ret := by
  cases c <;> first | (simp [Ri, Dy] at h; done) | skip
  rfl
theorem skip_of {c : Code} (h : Ri 8 c = true) : c = .skip := by
  cases c <;> first | (simp [Ri, Dy] at h; done) | skip
  rfl
def At (P : Program) (n : Nat) (B : Code) (p : List Bool) (Q : Im) (ρ : Fr) (w : World) : Prop := W P n (Qi B p) Q ρ w
theorem At.seq (h : Ri 1 (Qi B p) = true) {p0 p1 : List Bool} (e0 : p0 = p ++ [false]) (e1 : p1 = p ++ [true]) (k : At P n B p0 (K7 (At P n B p1 Q) Q) ρ w) : At P n B p Q ρ w := by
  subst e0 e1
  unfold At
  rw [seq_of h]
  refine W.seq ?_
  rw [← Gp, ← Gp]
  exact k
theorem At.cond (h : Ri 2 (Qi B p) = true) {o : Operand} (ho : Mx (Qi B p) = o) {b : Bool} (hb : opv ρ o = .bool b) {p0 p1 : List Bool} (e0 : p0 = p ++ [false]) (e1 : p1 = p ++ [true])
    (k0 : b = true → At P n B p0 Q ρ w) (k1 : b = false → At P n B p1 Q ρ w) : At P n B p Q ρ w := by
  subst e0 e1
  unfold At at *
  rw [cond_of h, ho]
  refine W.cond hb ?_ ?_
  · rw [← Gp]; exact k0
  · rw [← Gp]; exact k1
theorem At.block (h : Ri 3 (Qi B p) = true) {id : Nat} (hid : Ph (Qi B p) = id) {p0 : List Bool} (e0 : p0 = p ++ [false]) (k : At P n B p0 (Mv id Q) ρ w) : At P n B p Q ρ w := by
  subst e0
  unfold At at *
  rw [block_of h, hid]
  refine W.block ?_
  rw [← Gp]
  exact k
theorem At.loop (h : Ri 4 (Qi B p) = true) {p0 : List Bool} (e0 : p0 = p ++ [false]) (I : Nat → Fr → World → Prop) (h0 : ∀ ρ w, ¬ I 0 ρ w)
    (hr : ∀ f ρ w, I (f + 1) ρ w → At P n B p0 (K7 (I f) Q) ρ w) (f : Nat) (k : I f ρ w) : At P n B p Q ρ w := by
  subst e0
  unfold At at *
  rw [loop_of h]
  refine W.loop I h0 ?_ f k
  rw [← Gp]
  exact hr
theorem At.exit (h : Ri 6 (Qi B p) = true) {id : Nat} (hid : Ph (Qi B p) = id) (k : Q (.exit id) ρ w) : At P n B p Q ρ w := by
  unfold At
  rw [exit_of h, hid]
  exact W.exit k
theorem At.ret (h : Ri 7 (Qi B p) = true) (k : Q .ret ρ w) : At P n B p Q ρ w := by
  unfold At
  rw [ret_of h]
  exact W.ret k
theorem At.skip (h : Ri 8 (Qi B p) = true) (k : Q .normal ρ w) : At P n B p Q ρ w := by
  unfold At
  rw [skip_of h]
  exact W.skip k
theorem At.join (Mid : Fr → World → Prop) (h : At P n B p (K7 Mid Q) ρ w) (hm : ∀ ρ w, Mid ρ w → Q .normal ρ w) : At P n B p Q ρ w := W.join Mid h hm
theorem At.frame {ρ' : Fr} (h : ρ = ρ') (k : At P n B p Q ρ' w) : At P n B p Q ρ w := by subst h; exact k
def Bm (ops : Array Oper) (ρ : Fr) (o : Oper) : Bool :=
  match o.guard with
  | none => true
  | some (j, want) => match (ops[j]?).bind (·.dst) with
    | none => false
    | some d => match ρ d with
      | .bool b => match b, want with | true, true => true | false, false => true | _, _ => false
      | _ => false
theorem Cr {ops : Array Oper} {ρ : Fr} {a : Act} {n : Nat} (ha : FA n ρ a) (o : Oper) : Region.wanted o (yielded ops a.tmps) = Bm ops ρ o := by
  unfold Region.wanted Bm
  cases hg : o.guard with
  | none => rfl
  | some gw =>
    obtain ⟨j, want⟩ := gw
    simp only [yielded]
    cases hd : (ops[j]?).bind (·.dst) with
    | none => cases want <;> rfl
    | some d =>
      have hget := ha.get d
      simp only [Option.bind_some]
      cases hx : a.tmps[d]? with
      | none =>
        have : ρ d = undef := by rw [← hget]; simp [Array.getD_eq_getD_getElem?, hx]
        rw [this]
        cases want <;> rfl
      | some v =>
        have : ρ d = v := by rw [← hget]; simp [Array.getD_eq_getD_getElem?, hx]
        rw [this]
        cases v <;> cases want <;> first | rfl | (rename_i b; cases b <;> rfl)
def Dz (P : Program) (n : Nat) (ops : Array Oper) : List Oper → Fr → World → Option (Fr × World)
  | [], ρ, w => some (ρ, w)
  | o :: l, ρ, w =>
    match Jn n o.dst with
    | false => none
    | true =>
      match Bm ops ρ o with
      | false => Dz P n ops l (Rh ρ o.dst undef) w
      | true =>
        match (execOp (opv ρ) o).run P w with
        | .ok (.value v) w' => Dz P n ops l (Rh ρ o.dst v) w'
        | .ok .skip w' => Dz P n ops l (Rh ρ o.dst undef) w'
        | _ => none
def In (P : Program) (n : Nat) (B : Code) (p : List Bool) (k : Nat) (Q : Im) (ρ : Fr) (w : World) : Prop :=
  ∀ a, FA n ρ a → wpList P (Q2 (Qi B p)) (Pf n Q) ((Q2 (Qi B p)).toList.drop k) a w
theorem At.region (h : Ri 5 (Qi B p) = true) (hd : Fn (Qi B p) = false) (k : In P n B p 0 Q ρ w) : At P n B p Q ρ w := by
  intro a ha
  have := My h
  rw [this, hd]
  exact wp_region_list (k a ha)
theorem In.fin {k : Nat} (hk : (Q2 (Qi B p)).size = k) (h : Q .normal ρ w) : In P n B p k Q ρ w := by
  intro a ha
  rw [List.drop_of_length_le (by rw [Array.length_toList]; omega)]
  exact ⟨ρ, ha, h⟩
theorem D7 {ops : Array Oper} {rest : List Oper} : ∀ (l : List Oper) (ρ : Fr) (w : World) (ρ' : Fr) (w' : World), Dz P n ops l ρ w = some (ρ', w') →
    (∀ a, FA n ρ' a → wpList P ops (Pf n Q) rest a w') → ∀ a, FA n ρ a → wpList P ops (Pf n Q) (l ++ rest) a w
  | [], ρ, w, ρ', w', h, hk, a, ha => by
    simp only [Dz, Option.some.injEq, Prod.mk.injEq] at h
    obtain ⟨rfl, rfl⟩ := h
    exact hk a ha
  | o :: l, ρ, w, ρ', w', h, hk, a, ha => by
    simp only [Dz] at h
    cases hdst : Jn n o.dst with
    | false => rw [hdst] at h; cases h
    | true =>
      rw [hdst] at h
      simp only at h
      show wpList P ops (Pf n Q) (o :: (l ++ rest)) a w
      unfold wpList
      rw [Cr ha o]
      cases hw : Bm ops ρ o with
      | false =>
        rw [hw] at h
        simp only [Bool.false_eq_true, if_false]
        exact D7 l _ _ _ _ h hk _ (ha.putO hdst _)
      | true =>
        rw [hw] at h
        simp only at h
        simp only [if_true]
        refine .inl ?_
        unfold Oper.wp
        rw [ha.eval]
        cases hr : (execOp (opv ρ) o).run P w with
        | halt x w1 => rw [hr] at h; cases h
        | ok nx w1 =>
          rw [hr] at h
          cases nx <;> first | (cases h; done) | skip
          · exact D7 l _ _ _ _ h hk _ (ha.putO hdst _)
          · exact D7 l _ _ _ _ h hk _ (ha.putO hdst _)
theorem In.run {k k' : Nat} (m : Nat) (hk : k' = k + m) (ρ' : Fr) (h : Dz P n (Q2 (Qi B p)) (((Q2 (Qi B p)).toList.drop k).take m) ρ w = some (ρ', w))
    (next : In P n B p k' Q ρ' w) : In P n B p k Q ρ w := by
  subst hk
  intro a ha
  have hl : (Q2 (Qi B p)).toList.drop k = ((Q2 (Qi B p)).toList.drop k).take m ++ (Q2 (Qi B p)).toList.drop (k + m) := by
    rw [← List.drop_drop, List.take_append_drop]
  rw [hl]
  exact D7 _ _ _ _ _ h next a ha
def Bl (c : Code) (k : Nat) (ρ : Fr) : Option (Op × Option Nat) :=
  match (Q2 c)[k]? with
  | some o => match Bm (Q2 c) ρ o with
    | true => some (o.op, o.dst)
    | false => none
  | none => none
theorem Hh {c : Code} {k : Nat} {ρ : Fr} {op : Op} {d : Option Nat} (h : Bl c k ρ = some (op, d)) : ∃ o, (Q2 c)[k]? = some o ∧ o.op = op ∧ o.dst = d ∧ Bm (Q2 c) ρ o = true := by
  unfold Bl at h
  cases ho : (Q2 c)[k]? with
  | none => rw [ho] at h; cases h
  | some o =>
    rw [ho] at h
    simp only at h
    split at h
    · rename_i hg
      simp only [Option.some.injEq, Prod.mk.injEq] at h
      exact ⟨o, rfl, h.1, h.2, hg⟩
    · cases h
theorem Mz {ops : Array Oper} {k : Nat} {o : Oper} (h : ops[k]? = some o) : ops.toList.drop k = o :: ops.toList.drop (k + 1) := by
  obtain ⟨hk, hv⟩ := Array.getElem?_eq_some_iff.1 h
  rw [List.drop_eq_getElem_cons (by simpa using hk)]
  simp [hv]
def Qx (P : Program) (n : Nat) (B : Code) (p : List Bool) (k : Nat) (K : Fr → World → Prop) (ρ : Fr) (w : World) : Prop :=
  ∀ a, FA n ρ a → ∀ Q' : Exit → Act → World → Prop, wpOp P (Q2 (Qi B p)) Q' k (fun a' w' => ∃ ρ', FA n ρ' a' ∧ K ρ' w') a w
theorem In.step {k k' : Nat} (hk : k' = k + 1) (hs : Nat.blt k (Q2 (Qi B p)).size = true) (h : Qx P n B p k (In P n B p k' Q) ρ w) : In P n B p k Q ρ w := by
  subst hk
  intro a ha
  have hlt : k < (Q2 (Qi B p)).size := Nat.le_of_ble_eq_true hs
  have ho : (Q2 (Qi B p))[k]? = some (Q2 (Qi B p))[k] := Array.getElem?_eq_getElem hlt
  have h1 := wpOp_mono (K' := fun a' w' => wpList P (Q2 (Qi B p)) (Pf n Q) ((Q2 (Qi B p)).toList.drop (k + 1)) a' w') (fun a' w' ⟨ρ', ha', hn⟩ => hn a' ha') (h a ha (Pf n Q))
  rw [Mz ho]
  unfold wpOp at h1
  rw [ho] at h1
  exact h1
section
variable {K : Fr → World → Prop}
theorem Qx.val {k : Nat} {op : Op} {d : Option Nat} (ho : Bl (Qi B p) k ρ = some (op, d)) (hd : Jn n d = true) {v : Value} {w' : World}
    (hrun : ∀ o : Oper, o.op = op → (execOp (opv ρ) o).run P w = .ok (.value v) w') (next : K (Rh ρ d v) w') : Qx P n B p k K ρ w := by
  intro a ha Q'
  obtain ⟨o, h1, h2, h3, h4⟩ := Hh ho
  unfold wpOp
  rw [h1]
  simp only [Cr ha o, h4, if_true]
  refine .inl ?_
  unfold Oper.wp
  rw [ha.eval, hrun o h2]
  refine ⟨_, ?_, next⟩
  rw [h3]
  exact ha.putO hd v
theorem I6 {k : Nat} {op : Op} {d : Option Nat} (ho : Bl (Qi B p) k ρ = some (op, d)) (hd : Jn n d = true) {w' : World}
    (hrun : ∀ o : Oper, o.op = op → (execOp (opv ρ) o).run P w = .ok .skip w') (next : K (Rh ρ d undef) w') : Qx P n B p k K ρ w := by
  intro a ha Q'
  obtain ⟨o, h1, h2, h3, h4⟩ := Hh ho
  unfold wpOp
  rw [h1]
  simp only [Cr ha o, h4, if_true]
  refine .inl ?_
  unfold Oper.wp
  rw [ha.eval, hrun o h2]
  refine ⟨_, ?_, next⟩
  rw [h3]
  exact ha.putO hd undef
theorem Qx.call {k : Nat} {op : Op} {d : Option Nat} (ho : Bl (Qi B p) k ρ = some (op, d)) (hd : Jn n d = true) {f : FuncId} {args : Array Value}
    (hrun : ∀ o : Oper, o.op = op → (execOp (opv ρ) o).run P w = .ok (.enter f args) w) {R : Ending → World → Prop} (hc : Calls P f args w R)
    (next : ∀ e w', R e w' → ∃ v, e = .returned v ∧ K (Rh ρ d v) w') : Qx P n B p k K ρ w := by
  intro a ha Q'
  obtain ⟨o, h1, h2, h3, h4⟩ := Hh ho
  unfold wpOp
  rw [h1]
  simp only [Cr ha o, h4, if_true]
  refine .inl ?_
  unfold Oper.wp
  rw [ha.eval, hrun o h2, Oper.upon_enter]
  refine hc.mono fun e w' hR => ?_
  obtain ⟨v, rfl, hn⟩ := next e w' hR
  refine ⟨_, ?_, hn⟩
  rw [h3]
  exact ha.putO hd v
theorem Sm {k : Nat} {d : Option Nat} (ho : (Q2 (Qi B p))[k]?.map (fun o => (Bm (Q2 (Qi B p)) ρ o, o.dst)) = some (false, d)) (hd : Jn n d = true) (next : K (Rh ρ d undef) w) : Qx P n B p k K ρ w := by
  intro a ha Q'
  cases hk : (Q2 (Qi B p))[k]? with
  | none => rw [hk] at ho; cases ho
  | some o =>
    rw [hk] at ho
    simp only [Option.map_some, Option.some.injEq, Prod.mk.injEq] at ho
    unfold wpOp
    rw [hk]
    simp only [Cr ha o, ho.1, Bool.false_eq_true, if_false]
    refine ⟨_, ?_, next⟩
    rw [ho.2]
    exact ha.putO hd undef
end
end
def M0 (f : Func) : Code := f.body.getD .skip
def R8 (fn : Func) (ρ : Fr) : Sem Value := do
  let vs ← fn.results.mapM fun
    | .tmp t => pure (ρ t)
    | .cell a t => do loadVar t (← asAddr (ρ a))
  pure (if h : vs.size = 1 then vs[0] else .tuple vs)
theorem Kb {fn : Func} {ρ : Fr} {a : Act} {n : Nat} (ha : FA n ρ a) : results fn a.tmps = R8 fn ρ := by
  unfold results R8
  congr 1
  congr 1
  funext x
  cases x with
  | tmp t => simp only [ha.get t]
  | cell b t => simp only [ha.get b]
def retF (P : Program) (fn : Func) (R : Ending → World → Prop) : Im
  | .normal, ρ, w | .ret, ρ, w => ∃ v, (R8 fn ρ).run P w = .ok v w ∧ R (.returned v) w
  | _, _, _ => False
theorem M1 {P : Program} {f : FuncId} {fn : Func} {args : Array Value} {w : World} {R : Ending → World → Prop} {n : Nat} {ρ : Fr}
    (hf : P.funcs[f]? = some fn) (hb : fn.body.isSome = true) (hn : fn.ntmps = n) (hle : args.size ≤ n) (hρ : ∀ t, (args ++ Array.replicate (n - args.size) undef).getD t undef = ρ t)
    (h : At P n (M0 fn) [] (retF P fn R) ρ w) : Calls P f args w R := by
  obtain ⟨c, hc⟩ := Option.isSome_iff_exists.1 hb
  refine calls_of_wp hf hc ?_
  have hbody : Qi (M0 fn) [] = c := by rw [Fo]; simp [M0, hc]
  unfold At at h
  rw [hbody] at h
  have ha : FA n ρ { tmps := args ++ Array.replicate (fn.ntmps - args.size) undef, defers := [] } := by
    rw [hn]
    exact ⟨rfl, by simp; omega, hρ⟩
  refine Code.wp_mono ?_ (h _ ha)
  rintro e a' w' ⟨ρ', ha', hq⟩
  cases e with
  | normal =>
    obtain ⟨v, h1, h2⟩ := hq
    exact ⟨ha'.defers, v, by rw [Kb ha']; exact h1, h2⟩
  | ret =>
    obtain ⟨v, h1, h2⟩ := hq
    exact ⟨ha'.defers, v, by rw [Kb ha']; exact h1, h2⟩
  | _ => exact hq.elim
def Kc : List Value → Nat → Fr
  | [], _ => fun _ => undef
  | v :: l, i => upd (Kc l (i + 1)) i v
theorem Lk : ∀ (l : List Value) (i t : Nat), Kc l i t = if i ≤ t then l.getD (t - i) undef else undef
  | [], i, t => by simp [Kc]
  | v :: l, i, t => by
    unfold Kc
    by_cases ht : t = i
    · subst ht; rw [L5]; simp
    · rw [Ka ht, Lk l (i + 1) t]
      by_cases hlt : i ≤ t
      · rw [if_pos (by omega), if_pos hlt, show t - i = (t - (i + 1)) + 1 by omega]
        rfl
      · rw [if_neg (by omega), if_neg hlt]
theorem Pi (l : List Value) (n : Nat) (h : l.length ≤ n) (t : Nat) : (l.toArray ++ Array.replicate (n - l.toArray.size) undef).getD t undef = Kc l 0 t := by
  rw [Lk, if_pos (Nat.zero_le _), Nat.sub_zero]
  simp only [Array.getD_eq_getD_getElem?, List.getD]
  by_cases ht : t < l.length
  · rw [Array.getElem?_append_left (by simpa using ht)]
    simp
  · rw [Array.getElem?_append_right (by simpa using ht), List.getElem?_eq_none (by omega)]
    simp only [Array.getElem?_replicate]
    split <;> rfl
theorem Pj {P : Program} {f : FuncId} {fn : Func} {l : List Value} {w : World} {R : Ending → World → Prop} {n : Nat}
    (hf : P.funcs[f]? = some fn) (hb : fn.body.isSome = true) (hn : fn.ntmps = n) (hle : Nat.ble l.length n = true)
    (h : At P n (M0 fn) [] (retF P fn R) (Kc l 0) w) : Calls P f l.toArray w R :=
  M1 hf hb hn (by simpa using Nat.le_of_ble_eq_true hle) (Pi l n (Nat.le_of_ble_eq_true hle)) h
theorem K {p : Prop} (h : p := by kernel_rfl) : p := h
abbrev pt (b o : Nat) : Value := .pointer (some ⟨b, o, none⟩)
section
variable {P : Program} {n : Nat} {B : Code} {q : List Bool} {Q : Im} {ρ : Fr} {w : World}
theorem At.sq (h : Ri 1 (Qi B q.reverse) = true) (k : At P n B (false :: q).reverse (K7 (At P n B (true :: q).reverse Q) Q) ρ w) : At P n B q.reverse Q ρ w :=
  At.seq h List.reverse_cons List.reverse_cons k
theorem At.cd (h : Ri 2 (Qi B q.reverse) = true) {o : Operand} (ho : Mx (Qi B q.reverse) = o) {b : Bool} (hb : opv ρ o = .bool b)
    (k0 : b = true → At P n B (false :: q).reverse Q ρ w) (k1 : b = false → At P n B (true :: q).reverse Q ρ w) : At P n B q.reverse Q ρ w :=
  At.cond h ho hb List.reverse_cons List.reverse_cons k0 k1
theorem Z3 (h : Ri 3 (Qi B q.reverse) = true) {id : Nat} (hid : Ph (Qi B q.reverse) = id) (k : At P n B (false :: q).reverse (Mv id Q) ρ w) : At P n B q.reverse Q ρ w :=
  At.block h hid List.reverse_cons k
theorem Gm (h : Ri 4 (Qi B q.reverse) = true) (I : Nat → Fr → World → Prop) (h0 : ∀ ρ w, ¬ I 0 ρ w)
    (hr : ∀ f ρ w, I (f + 1) ρ w → At P n B (false :: q).reverse (K7 (I f) Q) ρ w) (f : Nat) (k : I f ρ w) : At P n B q.reverse Q ρ w :=
  At.loop h List.reverse_cons I h0 hr f k
theorem Qt {P : Program} {f : FuncId} {fn : Func} {l : List Value} {w : World} {R : Ending → World → Prop} {n : Nat}
    (hf : P.funcs[f]? = some fn) (hb : fn.body.isSome = true) (hn : fn.ntmps = n) (hle : Nat.ble l.length n = true)
    (h : At P n (M0 fn) (List.reverse []) (retF P fn R) (Kc l 0) w) : Calls P f l.toArray w R := Pj hf hb hn hle h
end
end Go.Proofs.YtoflbpmbkmephaaGreatDoor
namespace Go.Proofs.YtoflbpmbkmephaaGreatDoor
open Go.RowKit
section
variable {P : Program} (w : World)
theorem K8 (base : Nat) (t tx ty e : TypeId) (i : TypeInfo) (z : Value) (size bytes : Nat) (ht : P.underlying t = some (.slice e)) (hi : P.info? e = some i) (hz : i.zero = some z)
    (hsize : i.size = size) (hby : i.bytes = bytes) (hzs : z.cells.size = size) (hsz : 0 < size)
    (v : Value) (n : Nat) (xs : List Value) (hown : w.ownsRow base e size v n xs) (x : Value) (m : Nat) (news : List Value) (hs : Src P size tx x m news w)
    (h63 : n + m ≤ maxLen) (hbytes : (n + m) * bytes ≤ 140737488355328) (hbase : base ≤ w.heap.size) :
    ∃ v' w', (Builtin.append_ #[t, tx] ty #[v, x]).run P w = .ok v' w' ∧ w'.ownsRow base e size v' (n + m) (xs ++ news) ∧ w.grownBy w' v.ownBlock ∧
      (v'.ownBlock = v.ownBlock ∨ v'.ownBlock = some w.heap.size) := by
  subst hsize
  subst hby
  have hl := hs.newsLen
  have hsmall : n + m ≤ 9223372036854775807 := by simp only [maxLen] at h63; omega
  have hlen : (xs ++ news).length = (n + m) * i.size := by rw [List.length_append, hown.1, hl, Nat.add_mul]
  have grown : ∀ (old : Nat), old < n + m → ∀ (row : Option Nat),
      (w.drew.alloc (.cells ((xs ++ news).toArray ++ Builtin.zeroCells z.cells (grownCap w (n + m) old e - (n + m))) e)).ownsRow base e i.size
        (.slice (some ⟨w.heap.size, 0, none⟩) (n + m) (grownCap w (n + m) old e)) (n + m) (xs ++ news) ∧
      w.grownBy (w.drew.alloc (.cells ((xs ++ news).toArray ++ Builtin.zeroCells z.cells (grownCap w (n + m) old e - (n + m))) e)) row := by
    intro old ho row
    have hge := grownCap_ge w (n + m) old e
    have hcm : grownCap w (n + m) old e ≤ maxLen := grownCap_le_maxLen w (n + m) old e h63
    refine ⟨⟨hlen, .inr ⟨w.heap.size, _, _, rfl, hbase, heap_alloc_new w.drew _, hge, hcm, ?_, ?_⟩⟩, ⟨rfl, rfl, rfl, by simp, fun k hk _ => Below.heap_alloc w.drew _ k hk⟩⟩
    · rw [Array.size_append, List.size_toArray, size_zeroCells, hzs, hlen, ← Nat.add_mul]
      congr 1
      omega
    · rw [Array.toList_append, ← hlen]
      exact List.take_left
  rcases hown.2 with ⟨rfl, rfl⟩ | ⟨g, cap, cur, rfl, hbg, hg, hnc, hcm, hcs, htake⟩
  · have hx : xs = [] := List.eq_nil_of_length_eq_zero (by simpa using hown.1)
    subst hx
    by_cases hm : m = 0
    · subst hm
      have hn : news = [] := List.eq_nil_of_length_eq_zero (by simpa using hl)
      subst hn
      refine ⟨.slice none 0 0, w, ?_, World.ownsRow_nil w base e i.size, World.grownBy.refl w _, .inl rfl⟩
      have h1 := hs.len w
      have h2 := hs.cells
      rcases hs.kind with ⟨e', hk⟩ | hk <;> simp [Builtin.append_, run_underlying ht, run_underlying hk, sizeOf, typeInfo, hi, h1, h2, storeCells]
    · have hr := run_append_grow_src (P := P) w t tx ty e i z ht hi hz none 0 0 [] (by simpa using run_firstCells_none w.drew i.size 0 0 0) x m news hs (by omega) (by omega)
        (growslice_fits (by omega) (by simpa using hbytes))
      have hgr := grown 0 (by omega) (Value.ownBlock (.slice none 0 0))
      simp only [Nat.zero_add, List.nil_append] at hgr hr ⊢
      exact ⟨_, _, hr, hgr.1, hgr.2, .inr rfl⟩
  · by_cases hroom : n + m ≤ cap
    · have hfit : n * i.size + news.length ≤ cur.size := by rw [hl, hcs, ← Nat.add_mul]; exact Nat.mul_le_mul_right _ hroom
      have hst := run_storeCells_at P g (n * i.size) e news 0 cur w hg (by simpa using hfit) hs.one
      simp only [Nat.add_zero] at hst
      have h2 := hs.len
      have h3 := hs.cells
      have hr : (Builtin.append_ #[t, tx] ty #[.slice (some ⟨g, 0, none⟩) n cap, x]).run P w =
          .ok (.slice (some ⟨g, 0, none⟩) (n + m) cap) (w.setRow g (cur.toList.take (n * i.size) ++ news ++ cur.toList.drop (n * i.size + news.length)).toArray) := by
        rcases hs.kind with ⟨e', hk⟩ | hk <;> simp [Builtin.append_, run_underlying ht, run_underlying hk, sizeOf, typeInfo, hi, h2, hroom, h3, Addr.add_lit, hst]
      refine ⟨_, _, hr, ⟨hlen, .inr ⟨g, cap, _, rfl, hbg, setRow_heap w g cur _ e _ hg, hroom, hcm, ?_, ?_⟩⟩, ⟨rfl, rfl, rfl, by simp, fun k _ hk => setRow_other w g k _ (fun e => hk (by simp [Value.ownBlock, e]))⟩, .inl rfl⟩
      · simp only [List.size_toArray, List.length_append, List.length_take, List.length_drop, Array.length_toList]
        omega
      · rw [htake, ← hlen]
        exact List.take_left
    · have holds : ∀ j u, xs[j]? = some u → w.drew.cell? ((⟨g, 0, none⟩ : Addr).add j) = some u := hown.drew.cells (g := g) rfl
      have hr := run_append_grow_src (P := P) w t tx ty e i z ht hi hz (some ⟨g, 0, none⟩) n cap xs (run_firstCells_some w.drew i.size n ⟨g, 0, none⟩ n cap xs hown.1 holds) x m news hs (by omega) (by omega)
        (growslice_fits (by omega) hbytes)
      have hgr := grown cap (by omega) (Value.ownBlock (.slice (some ⟨g, 0, none⟩) n cap))
      exact ⟨_, _, hr, hgr.1, hgr.2, .inr rfl⟩
theorem Kd {T E S : TypeId} (hT : P.underlying T = some (.slice E)) (hE : P.underlying E = some (.int .u8)) (hS : P.underlying S = some .string) {w : World} {A : Option Addr} {n c : Nat} {l : List UInt8} (h : Rd w A n c l) :
    (convert T S (.slice A n c)).run P w = .ok (.string ⟨l.toArray⟩) w := by
  obtain ⟨h1, h2, h3, h4⟩ := h
  rcases Nat.eq_zero_or_pos n with h0 | h0
  · subst h0
    have : l = [] := List.eq_nil_of_length_eq_zero h1
    subst this
    cases A with
    | none => exact run_convert_bytes_nil w _ _ hT hE 0 c _ hS
    | some a =>
      rw [run_convert_bytes_string w _ _ _ _ _ _ hT hE hS, run_bytesToString w a 0 c [] (by simpa using run_loadCells_list (P := P) w a [] (by simp))]
      rfl
  · obtain ⟨b, off, rfl, hb, hc⟩ := h4 h0
    have := run_convert_bytes_arg (P := P) w T E hT hE b off n c (l.map fun c => (c.toNat : Int)) (by simpa using h1)
      (fun i hi => by
        rw [hc i hi]
        simp [List.getD, List.getElem?_map, List.getElem?_eq_getElem (show i < l.length by omega)]) S hS
    rw [this]
    simp [strOfNums, Function.comp_def]
end
end Go.Proofs.YtoflbpmbkmephaaGreatDoor
namespace Go.Proofs.YtoflbpmbkmephaaGreatDoor
open Go.RowKit
structure Ent where
  fp : List Nat
  ok : World → Prop
  loc : ∀ w w' : World, (∀ k ∈ fp, w'.heap[k]? = w.heap[k]?) → ok w → ok w'
def HL (S : List Nat) (B : Nat) (w : World) : List Ent → Prop
  | [] => True
  | e :: es => e.ok w ∧ (∀ k ∈ e.fp, (B ≤ k ∨ k ∈ S) ∧ k < w.heap.size ∧ ∀ e' ∈ es, k ∉ e'.fp) ∧ HL S B w es
section
variable {S : List Nat} {B : Nat} {w w' : World}
theorem HL.get : ∀ {es : List Ent} {i : Nat} {e : Ent}, HL S B w es → es[i]? = some e → e.ok w ∧ ∀ k ∈ e.fp, (B ≤ k ∨ k ∈ S) ∧ k < w.heap.size
  | [], i, e, _, h => by simp at h
  | x :: es, 0, e, h, hi => by
    simp at hi; subst hi
    exact ⟨h.1, fun k hk => ⟨(h.2.1 k hk).1, (h.2.1 k hk).2.1⟩⟩
  | x :: es, i + 1, e, h, hi => HL.get (es := es) h.2.2 (by simpa using hi)
theorem HL.mem : ∀ {es : List Ent} {e : Ent}, HL S B w es → e ∈ es → e.ok w ∧ ∀ k ∈ e.fp, (B ≤ k ∨ k ∈ S) ∧ k < w.heap.size := by
  intro es e h he
  obtain ⟨i, hi⟩ := List.mem_iff_getElem?.1 he
  exact h.get hi
theorem HL.keep : ∀ {es : List Ent}, HL S B w es → w.heap.size ≤ w'.heap.size → (∀ e ∈ es, ∀ k ∈ e.fp, w'.heap[k]? = w.heap[k]?) → HL S B w' es
  | [], _, _, _ => trivial
  | e :: es, h, hs, hk => ⟨e.loc w w' (hk e (by simp)) h.1, fun k hm => ⟨(h.2.1 k hm).1, Nat.lt_of_lt_of_le (h.2.1 k hm).2.1 hs, (h.2.1 k hm).2.2⟩, HL.keep h.2.2 hs fun e' he' => hk e' (List.mem_cons_of_mem _ he')⟩
theorem HL.below {es : List Ent} (h : HL S B w es) (hb : Below w.heap.size w w') : HL S B w' es :=
  h.keep hb.size fun e he k hk => hb.block k (h.mem he |>.2 k hk).2
theorem HL.append : ∀ {es fs : List Ent}, HL S B w es → HL S B w fs → (∀ e ∈ es, ∀ k ∈ e.fp, ∀ f ∈ fs, k ∉ f.fp) → HL S B w (es ++ fs)
  | [], fs, _, h, _ => h
  | e :: es, fs, h, hf, hd => ⟨h.1, fun k hk => ⟨(h.2.1 k hk).1, (h.2.1 k hk).2.1, fun e' he' => by
      rcases List.mem_append.1 he' with h1 | h1
      · exact (h.2.1 k hk).2.2 e' h1
      · exact hd e (by simp) k hk e' h1⟩, HL.append h.2.2 hf fun e' he' => hd e' (List.mem_cons_of_mem _ he')⟩
theorem HL.widen : ∀ {es : List Ent} {S' : List Nat} {B' : Nat}, HL S B w es → (∀ e ∈ es, ∀ k ∈ e.fp, (B ≤ k ∨ k ∈ S) → B' ≤ k ∨ k ∈ S') → HL S' B' w es
  | [], _, _, _, _ => trivial
  | e :: es, S', B', h, hw => ⟨h.1, fun k hk => ⟨hw e (by simp) k hk (h.2.1 k hk).1, (h.2.1 k hk).2⟩, HL.widen h.2.2 fun e' he' => hw e' (List.mem_cons_of_mem _ he')⟩
theorem HL.erase : ∀ {es : List Ent} (i : Nat), HL S B w es → HL S B w (es.eraseIdx i)
  | [], _, _ => trivial
  | _ :: _, 0, h => h.2.2
  | e :: es, i + 1, h => ⟨h.1, fun k hk => ⟨(h.2.1 k hk).1, (h.2.1 k hk).2.1, fun e' he' => (h.2.1 k hk).2.2 e' (List.mem_of_mem_eraseIdx he')⟩, HL.erase i h.2.2⟩
theorem HL.other : ∀ {es : List Ent} {i : Nat} {e : Ent}, HL S B w es → es[i]? = some e → ∀ e' ∈ es.eraseIdx i, ∀ k ∈ e.fp, k ∉ e'.fp
  | [], i, e, _, h => by simp at h
  | x :: es, 0, e, h, hi => by
    simp at hi; subst hi
    intro e' he' k hk
    exact (h.2.1 k hk).2.2 e' (by simpa using he')
  | x :: es, i + 1, e, h, hi => by
    intro e' he' k hk
    have hi' : es[i]? = some e := by simpa using hi
    simp only [List.eraseIdx_cons_succ, List.mem_cons] at he'
    rcases he' with rfl | he'
    · exact fun hk' => (h.2.1 k hk').2.2 e (List.mem_of_getElem? hi') hk
    · exact HL.other h.2.2 hi' e' he' k hk
theorem HL.set : ∀ {es : List Ent} {i : Nat} {e e' : Ent}, HL S B w es → es[i]? = some e → w.heap.size ≤ w'.heap.size → (∀ f ∈ es.eraseIdx i, ∀ k ∈ f.fp, w'.heap[k]? = w.heap[k]?) → e'.ok w' →
    (∀ k ∈ e'.fp, (k ∈ e.fp ∨ (w.heap.size ≤ k ∧ B ≤ k)) ∧ k < w'.heap.size) → HL S B w' (es.set i e')
  | [], i, e, e', _, h, _, _, _, _ => by simp at h
  | x :: es, 0, e, e', h, hi, hs, hk, hok, hfp => by
    simp at hi; subst hi
    refine ⟨hok, fun k hm => ?_, h.2.2.keep hs (by simpa using hk)⟩
    obtain ⟨h1, h2⟩ := hfp k hm
    rcases h1 with h1 | ⟨h1, h1'⟩
    · exact ⟨(h.2.1 k h1).1, h2, (h.2.1 k h1).2.2⟩
    · exact ⟨.inl h1', h2, fun f hf hkf => by have := (h.2.2.mem hf).2 k hkf; omega⟩
  | x :: es, i + 1, e, e', h, hi, hs, hk, hok, hfp => by
    have hi' : es[i]? = some e := by simpa using hi
    simp only [List.eraseIdx_cons_succ, List.mem_cons, forall_eq_or_imp] at hk
    refine ⟨x.loc w w' hk.1 h.1, fun k hm => ⟨(h.2.1 k hm).1, Nat.lt_of_lt_of_le (h.2.1 k hm).2.1 hs, fun f hf hkf => ?_⟩, HL.set h.2.2 hi' hs hk.2 hok hfp⟩
    rcases List.mem_or_eq_of_mem_set hf with hf | rfl
    · exact (h.2.1 k hm).2.2 f hf hkf
    · rcases (hfp k hkf).1 with h1 | ⟨h1, _⟩
      · exact (h.2.1 k hm).2.2 e (List.mem_of_getElem? hi') h1
      · have := (h.2.1 k hm).2.1; omega
end
structure SP (S : List Nat) (w0 w : World) (es : List Ent) : Prop where
  mod : Mod S w0 w
  own : HL S w0.heap.size w es
section
variable {S T : List Nat} {w0 w w' : World} {es : List Ent}
theorem Qw (S : List Nat) (w : World) : SP S w w [] := ⟨Mod.refl S w, trivial⟩
theorem SP.get {i : Nat} {e : Ent} (h : SP S w0 w es) (hi : es[i]? = some e) : e.ok w := (h.own.get hi).1
theorem SP.below (h : SP S w0 w es) (hb : Below w.heap.size w w') : SP S w0 w' es := ⟨h.mod.trans (J3 hb S), h.own.below hb⟩
theorem SP.drew (h : SP S w0 w es) : SP S w0 w.drew es := h.below ((Below.refl _ _).drew)
theorem SP.push {e : Ent} (h : SP S w0 w es) (hb : Below w.heap.size w w') (hok : e.ok w') (hfp : ∀ k ∈ e.fp, w.heap.size ≤ k ∧ k < w'.heap.size) : SP S w0 w' (es ++ [e]) := by
  have hs := h.mod.size
  refine ⟨h.mod.trans (J3 hb S), (h.own.below hb).append ⟨hok, fun k hk => ⟨.inl (by have := (hfp k hk).1; omega), (hfp k hk).2, by simp⟩, trivial⟩ ?_⟩
  intro f hf k hk f' hf' hk'
  simp at hf'
  subst hf'
  have h1 := (h.own.mem hf).2 k hk
  have h2 := hfp k hk'
  omega
theorem SP.erase (i : Nat) (h : SP S w0 w es) {es' : List Ent} (he : es' = es.eraseIdx i) : SP S w0 w es' := by subst he; exact ⟨h.mod, h.own.erase i⟩
theorem SP.set {i : Nat} {e e' : Ent} (h : SP S w0 w es) (hi : es[i]? = some e) {T : List Nat} (hm : Mod T w w') (hT : ∀ k ∈ T, k ∈ e.fp) (hok : e'.ok w')
    (hfp : ∀ k ∈ e'.fp, (k ∈ e.fp ∨ w.heap.size ≤ k) ∧ k < w'.heap.size) : SP S w0 w' (es.set i e') := by
  have hs := h.mod.size
  have he := h.own.get hi
  refine ⟨⟨hm.os.trans h.mod.os, hm.tape.trans h.mod.tape, hm.output.trans h.mod.output, Nat.le_trans h.mod.size hm.size, fun k hk hn => ?_⟩, h.own.set hi hm.size ?_ hok ?_⟩
  · refine (hm.block k (Nat.lt_of_lt_of_le hk hs) fun hkT => ?_).trans (h.mod.block k hk hn)
    rcases (he.2 k (hT k hkT)).1 with h1 | h1
    · omega
    · exact hn h1
  · intro f hf k hk
    refine hm.block k (h.own.mem (List.mem_of_mem_eraseIdx hf) |>.2 k hk).2 fun hkT => ?_
    exact h.own.other hi f hf k (hT k hkT) hk
  · intro k hk
    obtain ⟨h1, h2⟩ := hfp k hk
    exact ⟨h1.imp id fun h => ⟨h, by omega⟩, h2⟩
theorem SP.call {es' : List Ent} (h : SP S w0 w es) (hc : SP [] w w' es') : SP S w0 w' (es ++ es') := by
  have hs := h.mod.size
  have hb : Below w.heap.size w w' := hc.mod.below (Nat.le_refl _) (by simp)
  refine ⟨h.mod.trans (J3 hb S), (h.own.below hb).append (hc.own.widen fun e he k hk hor => ?_) ?_⟩
  · rcases hor with h1 | h1
    · exact .inl (by omega)
    · simp at h1
  · intro f hf k hk f' hf' hk'
    have h1 := (h.own.mem hf).2 k hk
    rcases ((hc.own.mem hf').2 k hk').1 with h2 | h2
    · omega
    · simp at h2
theorem SP.keeps (h : SP [] w0 w es) : Below w0.heap.size w0 w := h.mod.below (Nat.le_refl _) (by simp)
end
def Qs (g : Nat) (t : TypeId) (cs : Array Value) : Ent :=
  ⟨[g], fun w => w.heap[g]? = some (.cells cs t (0, 0)), fun w w' h hk => by rw [h g (by simp)]; exact hk⟩
def row (E : TypeId) (sz : Nat) (v : Value) (n : Nat) (xs : List Value) : Ent :=
  ⟨v.ownBlock.toList, fun w => w.ownsRow 0 E sz v n xs, fun w w' h hk => by
    refine ⟨hk.1, ?_⟩
    rcases hk.2 with h1 | ⟨g, cap, cur, rfl, hb, hg, r⟩
    · exact .inl h1
    · exact .inr ⟨g, cap, cur, rfl, hb, by rw [h g (by simp [Value.ownBlock])]; exact hg, r⟩⟩
def RdX (w : World) (A : Option Addr) (n c sz : Nat) (xs : List Value) : Prop :=
  xs.length = n * sz ∧ n ≤ c ∧ c ≤ maxLen ∧ (0 < n → ∃ b off, A = some ⟨b, off, none⟩ ∧ b < w.heap.size ∧ ∀ j u, xs[j]? = some u → w.cell? ⟨b, off + j, none⟩ = some u)
section
variable {S T : List Nat} {w0 w w' : World} {es : List Ent} {A : Option Addr} {n c sz : Nat} {xs : List Value}
theorem RdX.mod (h : RdX w A n c sz xs) (hm : Mod S w w') (hS : ∀ b o, A = some ⟨b, o, none⟩ → b ∉ S) : RdX w' A n c sz xs := by
  obtain ⟨h1, h2, h3, h4⟩ := h
  refine ⟨h1, h2, h3, fun hn => ?_⟩
  obtain ⟨b, off, hA, hb, hc⟩ := h4 hn
  exact ⟨b, off, hA, Nat.lt_of_lt_of_le hb hm.size, fun j u hu => (hm.cell hb (hS _ _ hA)).trans (hc j u hu)⟩
theorem RdX.below (h : RdX w A n c sz xs) (hb : Below w.heap.size w w') : RdX w' A n c sz xs := h.mod (J3 hb []) (by simp)
theorem RdX.sp (h : RdX w0 A n c sz xs) (hs : SP [] w0 w es) : RdX w A n c sz xs := h.below hs.keeps
theorem RdX.nil (w : World) (sz : Nat) : RdX w none 0 0 sz [] := ⟨by simp, Nat.le_refl _, Nat.zero_le _, fun h => absurd h (by omega)⟩
theorem RdX.len (h : RdX w A n c sz xs) : xs.length = n * sz := h.1
theorem RdX.le (h : RdX w A n c sz xs) : n ≤ c := h.2.1
theorem RdX.max (h : RdX w A n c sz xs) : n ≤ maxLen := Nat.le_trans h.2.1 h.2.2.1
theorem row_rdx {E : TypeId} {A : Option Addr} {n c : Nat} (h : (row E sz (.slice A n c) n xs).ok w) : RdX w A n c sz xs := by
  rcases h.2 with ⟨hv, hn⟩ | ⟨g, cap, cur, hv, hb, hh, hnc, hcm, hcs, ht⟩
  · injection hv with hA hn' hc
    subst hA hn' hc
    exact ⟨h.1, Nat.le_refl _, Nat.zero_le _, fun h => absurd h (by omega)⟩
  · injection hv with hA hn' hc
    subst hA hc
    refine ⟨h.1, hnc, hcm, fun _ => ⟨g, 0, rfl, (Array.getElem?_eq_some_iff.1 hh).1, fun j u hu => ?_⟩⟩
    rw [Nat.zero_add]
    obtain ⟨hj, _⟩ := List.getElem?_eq_some_iff.1 hu
    rw [World.ownsRow.cellAt (g := g) (cap := c) h j (by rw [← h.1]; exact hj)]
    exact hu
theorem RdX.part (h : RdX w A n c sz xs) {i j : Nat} (hij : i ≤ j) (hjn : j ≤ n) :
    RdX w (if c = i then A else A.map (·.add (i * sz))) (j - i) (c - i) sz ((xs.take (j * sz)).drop (i * sz)) := by
  obtain ⟨h1, h2, h3, h4⟩ := h
  have hjs : j * sz ≤ n * sz := Nat.mul_le_mul_right _ hjn
  have his : i * sz ≤ j * sz := Nat.mul_le_mul_right _ hij
  refine ⟨by rw [List.length_drop, List.length_take, h1, Nat.sub_mul]; omega, by omega, by omega, fun hn => ?_⟩
  obtain ⟨b, off, rfl, hb, hc⟩ := h4 (by omega)
  rw [if_neg (by omega)]
  refine ⟨b, off + i * sz, ?_, hb, fun k u hu => ?_⟩
  · have hadd : (⟨b, off, none⟩ : Addr).add (i * sz) = ⟨b, off + i * sz, none⟩ := by unfold Addr.add; split <;> simp_all
    simp [hadd]
  · rw [List.getElem?_drop] at hu
    have hlt : i * sz + k < j * sz := by
      have := (List.getElem?_eq_some_iff.1 hu).1
      rw [List.length_take] at this
      omega
    rw [List.getElem?_take, if_pos hlt] at hu
    rw [Nat.add_assoc]
    exact hc _ _ hu
theorem Ke (b off k : Nat) : (⟨b, off, none⟩ : Addr).add k = ⟨b, off + k, none⟩ := by unfold Addr.add; split <;> simp_all
def aggD : TypeDesc → Bool
  | .struct _ | .array _ _ => true
  | _ => false
def K9 (P : Program) (t : TypeId) (off : Nat) (cs : Array Value) : Option Value :=
  match P.underlying t with
  | none => none
  | some d => match aggD d with
    | true => match P.info? t with
      | some i => match Nat.ble (off + i.size) cs.size with
        | true => some (.agg ((cs.toList.drop off).take i.size).toArray)
        | false => none
      | none => none
    | false => cs.toList[off]?
theorem Bu {P : Program} {t : TypeId} {g off : Nat} {cs : Array Value} {v : Value} {e : TypeId} {fr : Nat × Nat} (hl : K9 P t off cs = some v) (hg : w.heap[g]? = some (.cells cs e fr)) :
    (loadVar t ⟨g, off, none⟩).run P w = .ok v w := by
  have hcell : ∀ o, w.cell? ⟨g, o, none⟩ = cs[o]? := fun o => cell_of_row w g o cs e fr hg
  unfold K9 at hl
  cases hu : P.underlying t with
  | none => rw [hu] at hl; cases hl
  | some d =>
    rw [hu] at hl
    simp only at hl
    have hagg : (isAgg t).run P w = .ok (aggD d) w := by
      simp only [isAgg, Sem.run_bind, run_underlying hu, Result.andThen_ok]
      cases d <;> rfl
    cases hd : aggD d with
    | true =>
      rw [hd] at hl hagg
      simp only at hl
      cases hi : P.info? t with
      | none => rw [hi] at hl; cases hl
      | some i =>
        rw [hi] at hl
        simp only at hl
        cases hb : Nat.ble (off + i.size) cs.size with
        | false => rw [hb] at hl; cases hl
        | true =>
          rw [hb] at hl
          simp only [Option.some.injEq] at hl
          have hle := Nat.le_of_ble_eq_true hb
          have hsz : (sizeOf t).run P w = .ok i.size w := by simp [sizeOf, typeInfo, hi]
          have hlen : ((cs.toList.drop off).take i.size).length = i.size := by simp; omega
          have hload := run_loadCells_list (P := P) w ⟨g, off, none⟩ ((cs.toList.drop off).take i.size) (fun j u hu => by
            rw [Ke, hcell]
            rw [List.getElem?_take] at hu
            split at hu
            · rw [List.getElem?_drop] at hu
              simpa using hu
            · cases hu)
          rw [hlen] at hload
          simp only [loadVar, Sem.run_bind, hagg, Result.andThen_ok, if_true, hsz, hload]
          rw [← hl]
          rfl
    | false =>
      rw [hd] at hl hagg
      simp only at hl
      simp only [loadVar, Sem.run_bind, hagg, Result.andThen_ok, Bool.false_eq_true, if_false]
      have : w.cell? ⟨g, off, none⟩ = some v := by rw [hcell]; simpa using hl
      simp [load, Sem.run, this]
def M2 : List Value → Bool
  | [] => true
  | .agg _ :: _ => false
  | .tuple _ :: _ => false
  | _ :: l => M2 l
theorem Kf : ∀ {l : List Value}, M2 l = true → ∀ v ∈ l, v.oneCell' = true
  | [], _, v, hv => by simp at hv
  | x :: l, h, v, hv => by
    rcases List.mem_cons.1 hv with rfl | hv
    · cases v <;> first | rfl | (simp [M2] at h)
    · exact Kf (l := l) (by cases x <;> first | (exact h) | (simp [M2] at h)) v hv
def Sn (P : Program) (t : TypeId) (off : Nat) (cs : Array Value) (v : Value) : Option (Array Value) :=
  match P.info? t with
  | none => none
  | some i => match Nat.beq v.cells.size i.size, Nat.ble (off + v.cells.size) cs.size, M2 v.cells.toList with
    | true, true, true => some (cs.toList.take off ++ v.cells.toList ++ cs.toList.drop (off + v.cells.toList.length)).toArray
    | _, _, _ => none
theorem Pk {P : Program} {t : TypeId} {g off : Nat} {cs cs' : Array Value} {v : Value} {e : TypeId} (hl : Sn P t off cs v = some cs') (hg : w.heap[g]? = some (.cells cs e (0, 0))) :
    (storeVar t ⟨g, off, none⟩ v).run P w = .ok () (w.setRow g cs') := by
  unfold Sn at hl
  cases hi : P.info? t with
  | none => rw [hi] at hl; cases hl
  | some i =>
    rw [hi] at hl
    simp only at hl
    split at hl
    · rename_i h1 h2 h3
      simp only [Option.some.injEq] at hl
      have h1 := Nat.eq_of_beq_eq_true h1
      have h2 := Nat.le_of_ble_eq_true h2
      have hsz : (sizeOf t).run P w = .ok i.size w := by simp [sizeOf, typeInfo, hi]
      have hst := run_storeCells_at P g off e v.cells.toList 0 cs w hg (by simp; omega) (Kf h3)
      simp only [Nat.add_zero] at hst
      simp only [storeVar, Sem.run_bind, hsz, Result.andThen_ok, h1, ne_eq, not_true_eq_false, if_false]
      rw [hst, hl]
    · cases hl
theorem Mod.setRow (w : World) (g : Nat) (cs : Array Value) : Mod [g] w (w.setRow g cs) :=
  ⟨rfl, rfl, rfl, by simp [World.setRow], fun k _ hk => setRow_other w g k cs (by simpa using hk)⟩
theorem SP.store {i g : Nat} {t : TypeId} {cs cs' : Array Value} (h : SP S w0 w es) (hi : es[i]? = some (Qs g t cs)) : SP S w0 (w.setRow g cs') (es.set i (Qs g t cs')) := by
  have hg : w.heap[g]? = some (.cells cs t (0, 0)) := h.get hi
  have hlt : g < w.heap.size := (Array.getElem?_eq_some_iff.1 hg).1
  refine h.set hi (Mod.setRow w g cs') (fun k hk => hk) (setRow_heap w g cs cs' t (0, 0) hg) fun k hk => ⟨.inl hk, ?_⟩
  have : k = g := by simpa [Qs] using hk
  subst this
  simpa [World.setRow] using hlt
theorem SP.alloc {t : TypeId} {cs : Array Value} (h : SP S w0 w es) : SP S w0 (w.alloc (.cells cs t)) (es ++ [Qs w.heap.size t cs]) :=
  h.push ((Below.refl _ _).alloc (Nat.le_refl _) _) (heap_alloc_new w _) fun k hk => by
    have : k = w.heap.size := by simpa [Qs] using hk
    subst this
    simp
end
end Go.Proofs.YtoflbpmbkmephaaGreatDoor
namespace Go.Proofs.YtoflbpmbkmephaaGreatDoor
open Go.RowKit
structure Enc (α : Type) where
  sz : Nat
  enc : α → List Value
  len : ∀ x, (enc x).length = sz
  one : ∀ x, ∀ v ∈ enc x, v.oneCell' = true
def eU8 : Enc UInt8 := ⟨1, fun c => [.int .u8 (c.toNat : Int)], fun _ => rfl, fun _ v hv => by simp at hv; subst hv; rfl⟩
def Qv (k : IntKind) : Enc Int := ⟨1, fun n => [.int k n], fun _ => rfl, fun _ v hv => by simp at hv; subst hv; rfl⟩
def Qj : Enc (List UInt8) := ⟨1, fun s => [.string ⟨s.toArray⟩], fun _ => rfl, fun _ v hv => by simp at hv; subst hv; rfl⟩
section
variable {α : Type}
def Vm (e : Enc α) (l : List α) : List Value := l.flatMap e.enc
theorem F3 (e : Enc α) (l m : List α) : Vm e (l ++ m) = Vm e l ++ Vm e m := by simp [Vm]
theorem Nt (e : Enc α) (x : α) (l : List α) : Vm e (x :: l) = e.enc x ++ Vm e l := by simp [Vm]
theorem Yh (e : Enc α) : ∀ l : List α, (Vm e l).length = l.length * e.sz
  | [] => by simp [Vm]
  | x :: l => by rw [Nt, List.length_append, e.len, Yh e l, List.length_cons, Nat.succ_mul]; omega
theorem Kg (e : Enc α) (l : List α) : ∀ v ∈ Vm e l, v.oneCell' = true := by
  intro v hv
  obtain ⟨x, _, hx⟩ := List.mem_flatMap.1 hv
  exact e.one x v hx
theorem Cc (e : Enc α) : ∀ (l : List α) (i : Nat), (Vm e l).drop (i * e.sz) = Vm e (l.drop i)
  | l, 0 => by simp
  | [], i + 1 => by simp [Vm]
  | x :: l, i + 1 => by
    rw [Nt, Nat.succ_mul, List.drop_succ_cons, ← Cc e l i, List.drop_append, List.drop_of_length_le (by rw [e.len]; omega), List.nil_append, e.len]
    congr 1
    omega
theorem Cd (e : Enc α) : ∀ (l : List α) (i : Nat), (Vm e l).take (i * e.sz) = Vm e (l.take i)
  | l, 0 => by simp [Vm]
  | [], i + 1 => by simp [Vm]
  | x :: l, i + 1 => by
    rw [Nt, Nat.succ_mul, List.take_succ_cons, Nt, ← Cd e l i, List.take_append, List.take_of_length_le (by rw [e.len]; omega), e.len]
    congr 2
    omega
theorem Bw (e : Enc α) {l : List α} {i : Nat} {x : α} (h : l[i]? = some x) {j : Nat} {u : Value} (hu : (e.enc x)[j]? = some u) : (Vm e l)[i * e.sz + j]? = some u := by
  have hd : (Vm e l).drop (i * e.sz) = Vm e (l.drop i) := Cc e l i
  rw [← List.getElem?_drop, hd]
  obtain ⟨hi, hx⟩ := List.getElem?_eq_some_iff.1 h
  rw [List.drop_eq_getElem_cons hi, hx, Nt, List.getElem?_append_left (List.getElem?_eq_some_iff.1 hu).1]
  exact hu
theorem F9 (e : Enc α) : ∀ (l : List α) (i : Nat) (x : α), i < l.length → (Vm e l).take (i * e.sz) ++ e.enc x ++ (Vm e l).drop (i * e.sz + e.sz) = Vm e (l.set i x) := by
  intro l i x hi
  rw [Cd, show i * e.sz + e.sz = (i + 1) * e.sz by rw [Nat.succ_mul], Cc, List.set_eq_take_append_cons_drop, if_pos hi, F3, Nt, List.append_assoc]
def RdT (e : Enc α) (w : World) (A : Option Addr) (c : Nat) (l : List α) : Prop := RdX w A l.length c e.sz (Vm e l)
def Vh (E : TypeId) (e : Enc α) (A : Option Addr) (c : Nat) (l : List α) : Ent := row E e.sz (.slice A l.length c) l.length (Vm e l)
def rdE (e : Enc α) (A : Option Addr) (c : Nat) (l : List α) : Ent :=
  ⟨(match A with | some a => [a.block] | none => []), fun w => RdT e w A c l, fun w w' h hk => by
    obtain ⟨h1, h2, h3, h4⟩ := hk
    refine ⟨h1, h2, h3, fun hn => ?_⟩
    obtain ⟨b, off, hA, hb, hc⟩ := h4 hn
    subst hA
    have hb' := h b (by simp)
    refine ⟨b, off, rfl, ?_, fun j u hu => ?_⟩
    · have : w.heap[b]? = some w.heap[b] := Array.getElem?_eq_getElem hb
      rw [this] at hb'
      exact (Array.getElem?_eq_some_iff.1 hb').1
    · rw [← hc j u hu]; exact World.cell?_of_block hb'⟩
variable {e : Enc α} {w w' w0 : World} {A : Option Addr} {c : Nat} {l : List α} {E : TypeId} {es : List Ent} {S : List Nat}
theorem Qz (h : (Vh E e A c l).ok w) : RdT e w A c l := row_rdx h
theorem So (h : (rdE e A c l).ok w) : RdT e w A c l := h
theorem RdT.sp (h : RdT e w0 A c l) (hs : SP [] w0 w es) : RdT e w A c l := RdX.sp h hs
theorem RdT.mod (h : RdT e w A c l) (hm : Mod S w w') (hS : ∀ b o, A = some ⟨b, o, none⟩ → b ∉ S) : RdT e w' A c l := RdX.mod h hm hS
theorem RdT.below (h : RdT e w A c l) (hb : Below w.heap.size w w') : RdT e w' A c l := RdX.below h hb
theorem RdT.nil (e : Enc α) (w : World) : RdT e w none 0 [] := RdX.nil w e.sz
theorem RdT.max (h : RdT e w A c l) : l.length ≤ maxLen := RdX.max h
def K3 (sz c i : Nat) (A : Option Addr) : Option Addr := if c = i then A else A.map (·.add (i * sz))
theorem RdT.part (h : RdT e w A c l) {i j : Nat} (hij : i ≤ j) (hjn : j ≤ l.length) : RdT e w (K3 e.sz c i A) (c - i) ((l.take j).drop i) := by
  have := RdX.part h hij hjn
  rw [Cd, Cc] at this
  have hl : ((l.take j).drop i).length = j - i := by simp; omega
  unfold RdT
  rw [hl]
  exact this
theorem Nu (h : SP S w0 w es) (E : TypeId) (e : Enc α) : SP S w0 w (es ++ [Vh E e none 0 []]) :=
  h.push (Below.refl _ _) (World.ownsRow_nil w 0 E e.sz) (by simp [Vh, row, Value.ownBlock])
end
theorem rd_bytes {w : World} {A : Option Addr} {c : Nat} {l : List UInt8} (h : RdT eU8 w A c l) : Rd w A l.length c l := by
  obtain ⟨h1, h2, h3, h4⟩ := h
  refine ⟨rfl, h2, h3, fun hn => ?_⟩
  obtain ⟨b, off, hA, hb, hc⟩ := h4 hn
  refine ⟨b, off, hA, hb, fun i hi => ?_⟩
  have := Bw eU8 (l := l) (i := i) (x := l[i]) (List.getElem?_eq_getElem hi) (j := 0) (u := .int .u8 (l[i].toNat : Int)) rfl
  have := hc _ _ this
  simp only [eU8, Nat.mul_one, Nat.add_zero] at this
  rw [this]
  simp [List.getD, List.getElem?_eq_getElem hi]
def idx {α : Type} (l : List α) (i : Int) : Option α := if 0 ≤ i then l[i.toNat]? else none
def sub {α : Type} (l : List α) (i j : Int) : Option (List α) := if 0 ≤ i ∧ i ≤ j ∧ j ≤ (l.length : Int) then some ((l.take j.toNat).drop i.toNat) else none
def app {α : Type} (l m : List α) : Option (List α) := if l.length + m.length ≤ 2147483648 then some (l ++ m) else none
def chk (b : Bool) : Option Unit := match b with | true => some () | false => none
section
variable {α β : Type}
theorem Qd {o : Option α} {K : α → Option β} {r : β} (h : o.bind K = some r) : ∃ x, o = some x ∧ K x = some r := by
  cases o with
  | none => cases h
  | some x => exact ⟨x, rfl, h⟩
theorem Qu {l : List α} {i : Int} {K : α → Option β} {r : β} (h : (idx l i).bind K = some r) : ∃ x, 0 ≤ i ∧ i < (l.length : Int) ∧ l[i.toNat]? = some x ∧ K x = some r := by
  obtain ⟨x, h1, h2⟩ := Qd h
  unfold idx at h1
  split at h1
  · obtain ⟨h3, _⟩ := List.getElem?_eq_some_iff.1 h1
    exact ⟨x, ‹_›, by omega, h1, h2⟩
  · cases h1
theorem G9 {l : List α} {i j : Int} {K : List α → Option β} {r : β} (h : (sub l i j).bind K = some r) : 0 ≤ i ∧ i ≤ j ∧ j ≤ (l.length : Int) ∧ K ((l.take j.toNat).drop i.toNat) = some r := by
  obtain ⟨x, h1, h2⟩ := Qd h
  unfold sub at h1
  split at h1
  · rename_i hc
    injection h1 with h1
    subst h1
    exact ⟨hc.1, hc.2.1, hc.2.2, h2⟩
  · cases h1
theorem Zx {l m : List α} {K : List α → Option β} {r : β} (h : (app l m).bind K = some r) : l.length + m.length ≤ 2147483648 ∧ K (l ++ m) = some r := by
  obtain ⟨x, h1, h2⟩ := Qd h
  unfold app at h1
  split at h1
  · injection h1 with h1; subst h1; exact ⟨‹_›, h2⟩
  · cases h1
theorem Dh {b : Bool} {K : Unit → Option β} {r : β} (h : (chk b).bind K = some r) : b = true ∧ K () = some r := by
  obtain ⟨x, h1, h2⟩ := Qd h
  unfold chk at h1
  cases b
  · cases h1
  · exact ⟨rfl, h2⟩
end
section
variable {P : Program} {n : Nat} {Q : Im} {ρ : Fr} {w w0 : World} {B : Code} {p : List Bool} {k : Nat} {d : Option Nat} {S : List Nat} {es : List Ent} {K : Fr → World → Prop}
theorem Qx.box {t : TypeId} {x : Operand} {v : Value} (ho : Bl (Qi B p) k ρ = some (.box t x, d)) (hd : Jn n d = true) (hv : opv ρ x = v) (hs : SP S w0 w es)
    (next : ∀ (g : Nat) (w' : World), SP S w0 w' (es ++ [Qs g t v.cells]) → K (Rh ρ d (.pointer (some ⟨g, 0, none⟩))) w') : Qx P n B p k K ρ w := by
  subst hv
  refine Qx.val ho hd (v := .pointer (some ⟨w.heap.size, 0, none⟩)) (w' := w.alloc (.cells (opv ρ x).cells t)) (fun o hop => ?_) (next _ _ hs.alloc)
  unfold execOp; rw [hop]; rfl
theorem Qx.alloc {t : TypeId} {z : Value} (ho : Bl (Qi B p) k ρ = some (.alloc t, d)) (hd : Jn n d = true) (hz : (P.info? t).bind (·.zero) = some z) (hs : SP S w0 w es)
    (next : ∀ (g : Nat) (w' : World), SP S w0 w' (es ++ [Qs g t z.cells]) → K (Rh ρ d (.pointer (some ⟨g, 0, none⟩))) w') : Qx P n B p k K ρ w := by
  refine Qx.val ho hd (v := .pointer (some ⟨w.heap.size, 0, none⟩)) (w' := w.alloc (.cells z.cells t)) (fun o hop => ?_) (next _ _ hs.alloc)
  unfold execOp; rw [hop]
  cases hi : P.info? t with
  | none => rw [hi] at hz; cases hz
  | some i =>
    rw [hi] at hz
    have hz : i.zero = some z := hz
    have hzv : (zeroValue t).run P w = .ok z w := by simp [zeroValue, typeInfo, hi, hz]
    simp only [Instr.alloc, Sem.run_bind, hzv, Result.andThen_ok]
    rfl
theorem Qx.load {t t' : TypeId} {x : Operand} {g off i : Nat} {cs : Array Value} {v : Value} (ho : Bl (Qi B p) k ρ = some (.load t x, d)) (hd : Jn n d = true)
    (hv : opv ρ x = .pointer (some ⟨g, off, none⟩)) (hs : SP S w0 w es) (hi : es[i]? = some (Qs g t' cs)) (hl : K9 P t off cs = some v)
    (next : K (Rh ρ d v) w) : Qx P n B p k K ρ w := by
  refine Qx.val ho hd (fun o hop => ?_) next
  have hg : w.heap[g]? = some (.cells cs t' (0, 0)) := hs.get hi
  have := Bu (w := w) hl hg
  unfold execOp; rw [hop]
  simp only [hv, Instr.loadAt, Instr.sureAddr, Sem.run_bind, Sem.run_pure, Result.andThen_ok, this]
theorem Qx.store {t t' : TypeId} {x y : Operand} {g off i : Nat} {cs cs' : Array Value} {v : Value} (ho : Bl (Qi B p) k ρ = some (.store t x y, d)) (hd : Jn n d = true)
    (hx : opv ρ x = .pointer (some ⟨g, off, none⟩)) (hy : opv ρ y = v) (hs : SP S w0 w es) (hi : es[i]? = some (Qs g t' cs)) (hl : Sn P t off cs v = some cs')
    (next : ∀ w' : World, SP S w0 w' (es.set i (Qs g t' cs')) → K (Rh ρ d undef) w') : Qx P n B p k K ρ w := by
  subst hy
  have hg : w.heap[g]? = some (.cells cs t' (0, 0)) := hs.get hi
  refine I6 ho hd (w' := w.setRow g cs') (fun o hop => ?_) (next _ (hs.store hi))
  have := Pk (w := w) hl hg
  unfold execOp; rw [hop]
  simp only [hx, Instr.storeAt, Instr.sureAddr, Sem.run_bind, Sem.run_pure, Result.andThen_ok, this]
variable {α : Type} {e : Enc α} {A : Option Addr} {c : Nat} {l : List α}
theorem Pl {T E : TypeId} {sz m c : Nat} {ki : IntKind} {iz : Int} {b off : Nat} (hT : P.underlying T = some (.slice E)) (hE : (P.info? E).map (·.size) = some sz) (h0 : 0 ≤ iz) (h1 : iz < (m : Int)) (w : World) :
    (Instr.indexAt T (.slice (some ⟨b, off, none⟩) m c) (.int ki iz)).run P w = .ok (.pointer (some ⟨b, off + iz.toNat * sz, none⟩)) w := by
  cases hi : P.info? E with
  | none => rw [hi] at hE; cases hE
  | some i =>
    rw [hi] at hE
    have hE : i.size = sz := by simpa using hE
    have hsz : (sizeOf E).run P w = .ok sz w := by simp [sizeOf, typeInfo, hi, hE]
    simp only [Instr.indexAt, asIntOf, Sem.run_bind, Sem.run_pure, Result.andThen_ok, run_underlying hT]
    simp [h0, h1, hsz, Ke]
theorem Kh {T E : TypeId} {x ix : Operand} {ki : IntKind} {iz : Int} (ho : Bl (Qi B p) k ρ = some (.indexAddr T x ix, d)) (hd : Jn n d = true)
    (hx : opv ρ x = .slice A l.length c) (hix : opv ρ ix = .int ki iz) (hT : P.underlying T = some (.slice E)) (hE : (P.info? E).map (·.size) = some e.sz) (hr : RdT e w A c l) (h0 : 0 ≤ iz) (h1 : iz < (l.length : Int))
    (next : ∀ b off : Nat, A = some ⟨b, off, none⟩ → b < w.heap.size → (∀ j u, (Vm e l)[j]? = some u → w.cell? ⟨b, off + j, none⟩ = some u) → K (Rh ρ d (.pointer (some ⟨b, off + iz.toNat * e.sz, none⟩))) w) :
    Qx P n B p k K ρ w := by
  obtain ⟨_, _, _, h4⟩ := hr
  obtain ⟨b, off, hA, hb, hc⟩ := h4 (by omega)
  refine Qx.val ho hd (fun o hop => ?_) (next b off hA hb hc)
  subst hA
  unfold execOp; rw [hop]
  simp only [hx, hix, Sem.run_bind, Pl hT hE h0 h1, Result.andThen_ok]
  rfl
theorem Qx.cell {t : TypeId} {x : Operand} {b off : Nat} {v : Value} (ho : Bl (Qi B p) k ρ = some (.load t x, d)) (hd : Jn n d = true)
    (hx : opv ρ x = .pointer (some ⟨b, off, none⟩)) (ht : (P.underlying t).map aggD = some false) (hc : w.cell? ⟨b, off, none⟩ = some v)
    (next : K (Rh ρ d v) w) : Qx P n B p k K ρ w := by
  refine Qx.val ho hd (fun o hop => ?_) next
  cases hu : P.underlying t with
  | none => rw [hu] at ht; cases ht
  | some dd =>
    rw [hu] at ht
    have ht : aggD dd = false := by simpa using ht
    have hagg : (isAgg t).run P w = .ok false w := by
      rw [← ht]
      simp only [isAgg, Sem.run_bind, run_underlying hu, Result.andThen_ok]
      cases dd <;> rfl
    unfold execOp; rw [hop]
    simp only [hx, Instr.loadAt, Instr.sureAddr, Sem.run_bind, Sem.run_pure, Result.andThen_ok, loadVar, hagg, Bool.false_eq_true, if_false]
    simp [Go.load, Sem.run, hc]
theorem Qx.cells {t : TypeId} {x : Operand} {b off : Nat} {xs : List Value} (ho : Bl (Qi B p) k ρ = some (.load t x, d)) (hd : Jn n d = true)
    (hx : opv ρ x = .pointer (some ⟨b, off, none⟩)) (ht : (P.underlying t).map aggD = some true) (hz : (P.info? t).map (·.size) = some xs.length) (hc : ∀ j u, xs[j]? = some u → w.cell? ⟨b, off + j, none⟩ = some u)
    (next : K (Rh ρ d (.agg xs.toArray)) w) : Qx P n B p k K ρ w := by
  refine Qx.val ho hd (fun o hop => ?_) next
  cases hu : P.underlying t with
  | none => rw [hu] at ht; cases ht
  | some dd =>
    rw [hu] at ht
    have ht : aggD dd = true := by simpa using ht
    have hagg : (isAgg t).run P w = .ok true w := by
      rw [← ht]
      simp only [isAgg, Sem.run_bind, run_underlying hu, Result.andThen_ok]
      cases dd <;> rfl
    cases hi : P.info? t with
    | none => rw [hi] at hz; cases hz
    | some i =>
      rw [hi] at hz
      have hz : i.size = xs.length := by simpa using hz
      have hsz : (sizeOf t).run P w = .ok xs.length w := by simp [sizeOf, typeInfo, hi, hz]
      have hload := run_loadCells_list (P := P) w ⟨b, off, none⟩ xs (fun j u hu => by rw [Ke]; exact hc j u hu)
      unfold execOp; rw [hop]
      simp only [hx, Instr.loadAt, Instr.sureAddr, Sem.run_bind, Sem.run_pure, Result.andThen_ok, loadVar, hagg, if_true, hsz, hload]
theorem Ql {x : α} {b off j : Nat} {iz : Int} {u : Value} {w : World} (hc : ∀ j u, (Vm e l)[j]? = some u → w.cell? ⟨b, off + j, none⟩ = some u) (hx : l[iz.toNat]? = some x) (hu : (e.enc x)[j]? = some u) :
    w.cell? ⟨b, off + iz.toNat * e.sz + j, none⟩ = some u := by
  rw [Nat.add_assoc]
  exact hc _ _ (Bw e hx hu)
theorem Td (l : List UInt8) : (⟨l.toArray⟩ : ByteArray).toList = l := by rw [ByteArray.toList_eq]
theorem Ra (l : List UInt8) : (⟨l.toArray⟩ : ByteArray).size = l.length := by simp [ByteArray.size]
theorem Te (l m : List UInt8) : (⟨l.toArray⟩ : ByteArray) ++ ⟨m.toArray⟩ = ⟨(l ++ m).toArray⟩ := by
  apply ByteArray.ext
  rw [ByteArray.data_append]
  simp
theorem Bx (l : List UInt8) (i j : Nat) (h : j ≤ l.length) : (⟨l.toArray⟩ : ByteArray).extract i j = ⟨((l.take j).drop i).toArray⟩ := by
  apply ByteArray.ext
  rw [ByteArray.data_extract]
  apply Array.ext'
  simp [List.extract_eq_take_drop, List.drop_take]
theorem U7 {op : BinOp} {T T' : TypeId} {x y : Operand} {a b : List UInt8} {r : Value} (ho : Bl (Qi B p) k ρ = some (.binOp op T x y T', d)) (hd : Jn n d = true)
    (hx : opv ρ x = .string ⟨a.toArray⟩) (hy : opv ρ y = .string ⟨b.toArray⟩) (hr : (match op with
      | .eql => some (Value.bool (a == b)) | .neq => some (.bool !(a == b)) | .lss => some (.bool (Op.bytesLess a b)) | .leq => some (.bool (Op.bytesLess a b || a == b))
      | .gtr => some (.bool !(Op.bytesLess a b || a == b)) | .geq => some (.bool !(Op.bytesLess a b)) | _ => none) = some r)
    (next : K (Rh ρ d r) w) : Qx P n B p k K ρ w := by
  refine Qx.val ho hd (fun o hop => ?_) next
  unfold execOp; rw [hop]
  simp only [hx, hy]
  cases op <;> first | (cases hr; done) | skip
  all_goals
    injection hr with hr
    subst hr
    simp [eqGuard, Go.binOp, Op.stringOp, Td]
theorem Yn {T T' : TypeId} {x y : Operand} {a b : List UInt8} (ho : Bl (Qi B p) k ρ = some (.binOp .add T x y T', d)) (hd : Jn n d = true)
    (hx : opv ρ x = .string ⟨a.toArray⟩) (hy : opv ρ y = .string ⟨b.toArray⟩) (hl : a.length + b.length ≤ 2147483648)
    (next : K (Rh ρ d (.string ⟨(a ++ b).toArray⟩)) w) : Qx P n B p k K ρ w := by
  refine Qx.val ho hd (fun o hop => ?_) next
  have hmax : ¬ (((⟨a.toArray⟩ : ByteArray).size + (⟨b.toArray⟩ : ByteArray).size : Nat) : Int) > IntKind.i64.max := by
    rw [Ra, Ra]
    have : IntKind.i64.max = 9223372036854775807 := by decide
    rw [this]; omega
  unfold execOp; rw [hop]
  simp only [hx, hy]
  simp only [eqGuard, Go.binOp, Op.stringOp, hmax, if_false, Te]
  rfl
theorem Xg {T : TypeId} {x ix : Operand} {ki : IntKind} {iz : Int} {a : List UInt8} {u : UInt8} (ho : Bl (Qi B p) k ρ = some (.index T x ix, d)) (hd : Jn n d = true)
    (hT : P.underlying T = some .string) (hx : opv ρ x = .string ⟨a.toArray⟩) (hix : opv ρ ix = .int ki iz) (h0 : 0 ≤ iz) (hu : a[iz.toNat]? = some u)
    (next : K (Rh ρ d (.int .u8 (u.toNat : Int))) w) : Qx P n B p k K ρ w := by
  refine Qx.val ho hd (fun o hop => ?_) next
  unfold execOp; rw [hop]
  have hg : (⟨a.toArray⟩ : ByteArray)[iz.toNat]? = some u := by
    obtain ⟨h1, h2⟩ := List.getElem?_eq_some_iff.1 hu
    have h1' : iz.toNat < (⟨a.toArray⟩ : ByteArray).size := by rw [Ra]; exact h1
    rw [getElem?_pos (⟨a.toArray⟩ : ByteArray) iz.toNat h1', ← h2]
    rfl
  simp only [hx, hix, Instr.index, asIntOf, Sem.run_bind, Sem.run_pure, Result.andThen_ok, run_underlying hT]
  simp [h0, hg]
theorem Ll {isS : Bool} {m cap : Nat} {lo hi : Option Value} {i j : Nat} (hlo : lo = none ∧ i = 0 ∨ ∃ kk, lo = some (.int kk (i : Int))) (hhi : hi = none ∧ j = m ∨ ∃ kk, hi = some (.int kk (j : Int))) (hij : i ≤ j) (hj : j ≤ m) (hm : m ≤ cap) (w : World) :
    (Instr.sliceBounds isS m cap lo hi none).run P w = .ok (i, j, cap) w := by
  have hj' : j ≤ cap := Nat.le_trans hj hm
  rcases hlo with ⟨rfl, rfl⟩ | ⟨kl, rfl⟩ <;> rcases hhi with ⟨rfl, rfl⟩ | ⟨kh, rfl⟩
  all_goals simp [Instr.sliceBounds, Instr.sliceBound, asIntOf, hij, hj']
def Io (ρ : Fr) (o : Option Operand) (z : Int) (dflt : Nat) : Prop := match o with | none => z = (dflt : Int) | some x => ∃ kk, opv ρ x = .int kk z
theorem Qx.slice {T E : TypeId} {x : Operand} {lo hi : Option Operand} {i j : Int} (ho : Bl (Qi B p) k ρ = some (.slice T x lo hi none, d)) (hd : Jn n d = true)
    (hx : opv ρ x = .slice A l.length c) (hT : P.underlying T = some (.slice E)) (hE : (P.info? E).map (·.size) = some e.sz) (hlo : Io ρ lo i 0) (hhi : Io ρ hi j l.length) (hc : l.length ≤ c)
    (h0 : 0 ≤ i) (h1 : i ≤ j) (h2 : j ≤ (l.length : Int))
    (next : ∀ (A' : Option Addr) (c' : Nat), A' = K3 e.sz c i.toNat A → c' = c - i.toNat → (∀ w1 : World, RdT e w1 A c l → RdT e w1 A' c' ((l.take j.toNat).drop i.toNat)) →
      K (Rh ρ d (.slice A' ((l.take j.toNat).drop i.toNat).length c')) w) : Qx P n B p k K ρ w := by
  have hl : ((l.take j.toNat).drop i.toNat).length = j.toNat - i.toNat := by simp; omega
  refine Qx.val ho hd (v := .slice (K3 e.sz c i.toNat A) ((l.take j.toNat).drop i.toNat).length (c - i.toNat)) (fun o hop => ?_)
    (next _ _ rfl rfl fun w1 hr => RdT.part hr (by omega) (by omega))
  rw [hl]
  unfold execOp; rw [hop]
  cases hi' : P.info? E with
  | none => rw [hi'] at hE; cases hE
  | some ii =>
    rw [hi'] at hE
    have hE : ii.size = e.sz := by simpa using hE
    have hsz : ∀ w, (sizeOf E).run P w = .ok e.sz w := fun w => by simp [sizeOf, typeInfo, hi', hE]
    have hb := Ll (P := P) (isS := true) (m := l.length) (cap := c) (lo := lo.map (opv ρ)) (hi := hi.map (opv ρ)) (i := i.toNat) (j := j.toNat)
      (by
        cases lo with
        | none => exact .inl ⟨rfl, by have : i = 0 := hlo; omega⟩
        | some y => obtain ⟨kk, hh⟩ := hlo; exact .inr ⟨kk, by rw [Option.map_some, hh, Int.toNat_of_nonneg h0]⟩)
      (by
        cases hi with
        | none => exact .inl ⟨rfl, by have : j = (l.length : Int) := hhi; omega⟩
        | some y => obtain ⟨kk, hh⟩ := hhi; exact .inr ⟨kk, by rw [Option.map_some, hh, Int.toNat_of_nonneg (by omega)]⟩)
      (by omega) (by omega) hc w
    simp only [hx, Instr.sliceAt, Sem.run_bind, run_underlying hT, Result.andThen_ok, Instr.slice, Option.map_none, hb, hsz]
    rfl
theorem Jp {T : TypeId} {x : Operand} {lo hi : Option Operand} {i j : Int} {a : List UInt8} (ho : Bl (Qi B p) k ρ = some (.slice T x lo hi none, d)) (hd : Jn n d = true)
    (hx : opv ρ x = .string ⟨a.toArray⟩) (hT : P.underlying T = some .string) (hlo : Io ρ lo i 0) (hhi : Io ρ hi j a.length)
    (h0 : 0 ≤ i) (h1 : i ≤ j) (h2 : j ≤ (a.length : Int))
    (next : K (Rh ρ d (.string ⟨((a.take j.toNat).drop i.toNat).toArray⟩)) w) : Qx P n B p k K ρ w := by
  refine Qx.val ho hd (fun o hop => ?_) next
  unfold execOp; rw [hop]
  have hb := Ll (P := P) (isS := false) (m := (⟨a.toArray⟩ : ByteArray).size) (cap := (⟨a.toArray⟩ : ByteArray).size) (lo := lo.map (opv ρ)) (hi := hi.map (opv ρ)) (i := i.toNat) (j := j.toNat)
    (by
      cases lo with
      | none => exact .inl ⟨rfl, by have : i = 0 := hlo; omega⟩
      | some y => obtain ⟨kk, hh⟩ := hlo; exact .inr ⟨kk, by rw [Option.map_some, hh, Int.toNat_of_nonneg h0]⟩)
    (by
      cases hi with
      | none => exact .inl ⟨rfl, by have : j = (a.length : Int) := hhi; rw [Ra]; omega⟩
      | some y => obtain ⟨kk, hh⟩ := hhi; exact .inr ⟨kk, by rw [Option.map_some, hh, Int.toNat_of_nonneg (by omega)]⟩)
    (by omega) (by rw [Ra]; omega) (Nat.le_refl _) w
  simp only [hx, Instr.sliceAt, Sem.run_bind, run_underlying hT, Result.andThen_ok, Instr.slice, Option.map_none, Option.isSome_none, Bool.false_eq_true, if_false, Sem.run_bind, hb, Result.andThen_ok, Sem.run_pure]
  rw [Bx _ _ _ (by omega)]
theorem Gf {T S' E : TypeId} {x : Operand} {l : List UInt8} (ho : Bl (Qi B p) k ρ = some (.convert T S' x, d)) (hd : Jn n d = true)
    (hx : opv ρ x = .slice A l.length c) (hT : P.underlying T = some (.slice E)) (hE : P.underlying E = some (.int .u8)) (hS : P.underlying S' = some .string) (hr : RdT eU8 w A c l)
    (next : K (Rh ρ d (.string ⟨l.toArray⟩)) w) : Qx P n B p k K ρ w := by
  refine Qx.val ho hd (fun o hop => ?_) next
  unfold execOp; rw [hop]
  have := Kd (P := P) hT hE hS (rd_bytes hr)
  simp only [hx, Sem.run_bind, this, Result.andThen_ok]
  rfl
end
end Go.Proofs.YtoflbpmbkmephaaGreatDoor
namespace Go.Proofs.YtoflbpmbkmephaaGreatDoor
open Go.RowKit
section
variable {α : Type} {e : Enc α} {P : Program} {w w0 : World} {A : Option Addr} {c : Nat} {l m : List α}
theorem Rj {TX E : TypeId} (hT : P.underlying TX = some (.slice E)) (h : RdT e w A c m) : Src P e.sz TX (.slice A m.length c) m.length (Vm e m) w := by
  obtain ⟨h1, h2, h3, h4⟩ := h
  rcases Nat.eq_zero_or_pos m.length with h0 | h0
  · have : m = [] := List.eq_nil_of_length_eq_zero h0
    subst this
    refine ⟨.inl ⟨_, hT⟩, fun _ => rfl, ?_, ?_, by simp [Vm], Kg e _⟩
    · cases A with
      | none => exact run_firstCells_none w e.sz 0 0 c
      | some a => exact run_firstCells_some w e.sz 0 a 0 c [] (by simp) (by simp)
    · cases A with
      | none => exact run_firstCells_none w.drew e.sz 0 0 c
      | some a => exact run_firstCells_some w.drew e.sz 0 a 0 c [] (by simp) (by simp)
  · obtain ⟨b, off, rfl, hb, hc⟩ := h4 h0
    refine Src.ofSlice w hT _ _ _ _ h1 (fun j u hu => ?_) (Kg e _)
    rw [Ke]
    exact hc j u hu
theorem L7 (m : List UInt8) : Vm eU8 m = m.map fun c => Value.int .u8 (c.toNat : Int) := by
  induction m with
  | nil => rfl
  | cons x r ih => rw [Nt, ih]; rfl
theorem src_str {TX : TypeId} (hT : P.underlying TX = some .string) (m : List UInt8) : Src P eU8.sz TX (.string ⟨m.toArray⟩) m.length (Vm eU8 m) w := by
  have := Src.ofString (w := w) hT ⟨m.toArray⟩
  rw [L7]
  have h2 : byteCells (⟨m.toArray⟩ : ByteArray) = m.map fun c => Value.int .u8 (c.toNat : Int) := rfl
  rw [Ra, h2] at this
  exact this
theorem Tf {w : World} {E : TypeId} {sz n : Nat} {v : Value} {xs : List Value} (h : w.ownsRow 0 E sz v n xs) : ∃ A c, v = .slice A n c := by
  rcases h.2 with ⟨hv, hn⟩ | ⟨g, cap, cur, hv, _⟩
  · exact ⟨none, 0, by rw [hv, hn]⟩
  · exact ⟨_, _, hv⟩
theorem Tg {E : TypeId} {sz b : Nat} (h : (P.info? E).map (fun i => (i.zero.map (·.cells.size), i.size, i.bytes)) = some (some sz, sz, b)) : ∃ i z, P.info? E = some i ∧ i.zero = some z ∧ i.size = sz ∧ i.bytes = b ∧ z.cells.size = sz := by
  cases hi : P.info? E with
  | none => rw [hi] at h; cases h
  | some i =>
    rw [hi] at h
    simp only [Option.map_some, Option.some.injEq, Prod.mk.injEq] at h
    obtain ⟨h1, h2, h3⟩ := h
    cases hz : i.zero with
    | none => rw [hz] at h1; cases h1
    | some z =>
      rw [hz] at h1
      exact ⟨i, z, rfl, hz, h2, h3, by simpa using h1⟩
end
section
variable {P : Program} {n : Nat} {Q : Im} {ρ : Fr} {w w0 : World} {B : Code} {p : List Bool} {k : Nat} {d : Option Nat} {S : List Nat} {es : List Ent} {K : Fr → World → Prop}
variable {α : Type} {e : Enc α} {A : Option Addr} {c : Nat} {l m : List α}
theorem Qx.append {T TX E : TypeId} {s x : Operand} {b i : Nat} {vx : Value} (ho : Bl (Qi B p) k ρ = some (.call { callee := .builtin .append, args := #[s, x], argTypes := #[T, TX] }, d)) (hd : Jn n d = true)
    (hv : opv ρ s = .slice A l.length c) (hx : opv ρ x = vx) (hT : P.underlying T = some (.slice E)) (hE : (P.info? E).map (fun i => (i.zero.map (·.cells.size), i.size, i.bytes)) = some (some e.sz, e.sz, b)) (hb : (Nat.ble 1 e.sz && Nat.ble b 65536) = true)
    (hs : SP S w0 w es) (hi : es[i]? = some (Vh E e A c l)) (hsrc : Src P e.sz TX vx m.length (Vm e m) w) (hlen : l.length + m.length ≤ 2147483648)
    (next : ∀ (A' : Option Addr) (c' : Nat) (w' : World), SP S w0 w' (es.set i (Vh E e A' c' (l ++ m))) → K (Rh ρ d (.slice A' (l ++ m).length c')) w') : Qx P n B p k K ρ w := by
  subst hx
  obtain ⟨i0, z, hi0, hz0, hz1, hz2, hz3⟩ := Tg hE
  simp only [Bool.and_eq_true] at hb
  have hb1 := Nat.le_of_ble_eq_true hb.1
  have hb2 := Nat.le_of_ble_eq_true hb.2
  have hbytes : (l.length + m.length) * b ≤ 140737488355328 := Nat.le_trans (Nat.mul_le_mul hlen hb2) (by omega)
  have hown : w.ownsRow 0 E e.sz (.slice A l.length c) l.length (Vm e l) := hs.get hi
  obtain ⟨o0, ho0, _⟩ := Hh ho
  obtain ⟨v', w', hrun, h2, h3, h4⟩ := K8 (P := P) w 0 T TX o0.type E i0 z e.sz b hT hi0 hz0 hz1 hz2 hz3 (by omega) _ l.length (Vm e l) hown (opv ρ x) m.length (Vm e m) hsrc (by unfold maxLen; omega) hbytes (Nat.zero_le _)
  obtain ⟨A', c', rfl⟩ := Tf h2
  have h2' : (Vh E e A' c' (l ++ m)).ok w' := by
    show w'.ownsRow 0 E e.sz (.slice A' (l ++ m).length c') (l ++ m).length (Vm e (l ++ m))
    rw [List.length_append, F3]
    exact h2
  have hmod : Mod ((Value.slice A l.length c).ownBlock.toList) w w' := E9 h3 (fun q hq => by rw [hq]; simp)
  refine Qx.val ho hd (v := .slice A' (l ++ m).length c') (w' := w') (fun o hop => ?_) (next A' c' w' (hs.set hi hmod (fun q hq => hq) h2' fun q hq => ?_))
  · have hty : ∀ ty, (Builtin.append_ #[T, TX] ty #[.slice A l.length c, opv ρ x]).run P w = (Builtin.append_ #[T, TX] o0.type #[.slice A l.length c, opv ρ x]).run P w := fun _ => rfl
    have hrun' : (Builtin.append_ #[T, TX] o.type #[opv ρ s, opv ρ x]).run P w = .ok (.slice A' (l.length + m.length) c') w' := by rw [hv, hty]; exact hrun
    rw [List.length_append]
    unfold execOp
    rw [hop]
    simp [resolve, invoke, builtin, hrun', Result.andThen]
  · have hq' : (Value.slice A' (l.length + m.length) c').ownBlock = some q := by
      have : (Value.slice A' (l ++ m).length c').ownBlock = some q := by simpa [Vh, row] using hq
      rw [List.length_append] at this
      exact this
    refine ⟨?_, (World.ownsRow.lt h2 q hq').2⟩
    rcases h4 with h4 | h4
    · left
      rw [h4] at hq'
      show q ∈ (Value.slice A l.length c).ownBlock.toList
      rw [hq']
      simp
    · right
      rw [h4] at hq'
      injection hq' with hq'
      omega
theorem SP.newrow {E : TypeId} {cs : Array Value} {w : World} (h : SP S w0 w es) (e : Enc α) (l : List α) (hc : cs.toList = Vm e l) (hm : l.length ≤ maxLen) (hz : 0 < e.sz) :
    SP S w0 (w.alloc (.cells cs E)) (es ++ [Vh E e (some ⟨w.heap.size, 0, none⟩) l.length l]) := by
  refine h.push ((Below.refl _ _).alloc (Nat.le_refl _) _) ?_ fun k hk => ?_
  · have := World.ownsRow_lit (base := 0) (e := E) (size := e.sz) w cs l.length (Nat.zero_le _) hm (by rw [← Array.length_toList, hc, Yh])
    rw [hc] at this
    exact this
  · have : k = w.heap.size := by simpa [Vh, row, Value.ownBlock] using hk
    subst this
    simp
theorem Di {T E : TypeId} {len : Nat} {parts : Array (Nat × Operand)} {cs : Array Value} (l : List α) (ho : Bl (Qi B p) k ρ = some (.buildSlice T len parts, d)) (hd : Jn n d = true)
    (hb : ∀ w : World, (Instr.buildSlice T len (parts.map fun (i, x) => (i, opv ρ x))).run P w = .ok (.slice (some ⟨w.heap.size, 0, none⟩) len len) (w.alloc (.cells cs E)))
    (hs : SP S w0 w es) (hc : cs.toList = Vm e l) (hl : l.length = len) (hm : Nat.ble l.length 2147483648 = true) (hz : Nat.ble 1 e.sz = true)
    (next : ∀ (g : Nat) (w' : World), SP S w0 w' (es ++ [Vh E e (some ⟨g, 0, none⟩) l.length l]) → K (Rh ρ d (.slice (some ⟨g, 0, none⟩) l.length l.length)) w') : Qx P n B p k K ρ w := by
  subst hl
  refine Qx.val ho hd (v := .slice (some ⟨w.heap.size, 0, none⟩) l.length l.length) (w' := w.alloc (.cells cs E)) (fun o hop => ?_) (next _ _ (hs.newrow e l hc (by have := Nat.le_of_ble_eq_true hm; unfold maxLen; omega) (Nat.le_of_ble_eq_true hz)))
  unfold execOp; rw [hop]
  simp only [Sem.run_bind, hb, Result.andThen_ok]
  rfl
theorem Fa {S' T E : TypeId} {x : Operand} {l : List UInt8} (ho : Bl (Qi B p) k ρ = some (.convert S' T x, d)) (hd : Jn n d = true)
    (hx : opv ρ x = .string ⟨l.toArray⟩) (hS : P.underlying S' = some .string) (hT : P.underlying T = some (.slice E)) (hE : P.underlying E = some (.int .u8)) (hl : l.length ≤ maxLen) (hs : SP S w0 w es)
    (next : ∀ (g c' : Nat) (w' : World), SP S w0 w' (es ++ [rdE eU8 (some ⟨g, 0, none⟩) c' l]) → l.length ≤ c' → K (Rh ρ d (.slice (some ⟨g, 0, none⟩) l.length c')) w') : Qx P n B p k K ρ w := by
  have hrun := run_bytes_of_string (P := P) w S' T E ⟨l.toArray⟩ hS hT hE
  have hge := grownCap_ge w (⟨l.toArray⟩ : ByteArray).size 0 E
  have hle := grownCap_le_maxLen w (⟨l.toArray⟩ : ByteArray).size 0 E (by rw [Ra]; exact hl)
  rw [Ra] at hge hle hrun
  generalize hcap : grownCap w l.length 0 E = cap at hrun hge hle
  refine Qx.val ho hd (v := .slice (some ⟨w.heap.size, 0, none⟩) l.length cap) (fun o hop => ?_) (next w.heap.size cap (w.drew.alloc (.cells (bytesRow ⟨l.toArray⟩ cap) E ((bytesRow ⟨l.toArray⟩ cap).size, (bytesRow ⟨l.toArray⟩ cap).size + 1)))
    (hs.push (e := rdE eU8 (some ⟨w.heap.size, 0, none⟩) cap l) ?_ ?_ ?_) hge)
  · unfold execOp; rw [hop]
    simp only [hx, Sem.run_bind, hrun, Result.andThen_ok]
    rfl
  · exact (Below.refl _ _).drew.alloc (Nat.le_refl _) _
  · refine ⟨by rw [Yh], hge, hle, fun hn => ⟨w.heap.size, 0, rfl, by simp, fun j u hu => ?_⟩⟩
    have hj : j < l.length := by
      have := (List.getElem?_eq_some_iff.1 hu).1
      rw [Yh] at this
      simpa [eU8] using this
    rw [Nat.zero_add]
    refine (cell_of_row _ w.heap.size j _ E _ (heap_alloc_new w.drew _)).trans ?_
    rw [L7] at hu
    rw [← hu]
    unfold bytesRow
    rw [Array.getElem?_append_left (by simpa using hj)]
    simp
  · intro q hq
    have : q = w.heap.size := by simpa [rdE] using hq
    subst this
    simp
theorem Uo {f : FuncId} {fo : Operand} {xs : Array Operand} {tys : Array TypeId} {first captured : Array Value} {args : List Value} (ho : Bl (Qi B p) k ρ = some (.call { callee := .value fo, args := xs, argTypes := tys }, d)) (hd : Jn n d = true)
    (hf : opv ρ fo = .func (.func f) first captured) (hargs : first.toList ++ xs.toList.map (opv ρ) ++ captured.toList = args) (hcf : ∀ (args : Array Value) (w : World), (callFunc f args).run P w = .ok (.enter f args) w)
    {R : Ending → World → Prop} (hc : Calls P f args.toArray w R) (next : ∀ e w', R e w' → ∃ v, e = .returned v ∧ K (Rh ρ d v) w') : Qx P n B p k K ρ w := by
  refine Qx.call ho hd (f := f) (args := args.toArray) (fun o hop => ?_) hc next
  unfold execOp; rw [hop]
  have : first ++ xs.map (opv ρ) ++ captured = args.toArray := by
    rw [← hargs]
    apply Array.ext'
    simp
  simp only [resolve, hf, Deferred.ofValue, Sem.run_bind, Sem.run_pure, Result.andThen_ok, invoke, this, hcf]
end
end Go.Proofs.YtoflbpmbkmephaaGreatDoor
namespace Go.Proofs.YtoflbpmbkmephaaGreatDoor
open Go.RowKit
def I7 (ρ : Fr) : List (Nat × Value) → Fr
  | [] => ρ
  | (d, v) :: l => I7 (upd ρ d v) l
def Vq (ρ : Fr) : List (Nat × Value) → Prop
  | [] => True
  | (d, v) :: l => ρ d = v ∧ Vq ρ l
theorem Qo {ρ : Fr} : ∀ {l : List (Nat × Value)}, Vq ρ l → I7 ρ l = ρ
  | [], _ => rfl
  | (d, v) :: l, h => by
    show I7 (upd ρ d v) l = ρ
    rw [L6 h.1]
    exact Qo h.2
def bAnd (k : IntKind) (a b : Int) : Int := k.wrap (BitVec.ofInt k.bits a &&& BitVec.ofInt k.bits b).toNat
def bOr (k : IntKind) (a b : Int) : Int := k.wrap (BitVec.ofInt k.bits a ||| BitVec.ofInt k.bits b).toNat
def Fb (k : IntKind) (a b : Int) : Int := k.wrap (BitVec.ofInt k.bits a &&& ~~~BitVec.ofInt k.bits b).toNat
def K4 (k : IntKind) (a b : Int) : Int := k.wrap (a * 2 ^ (min b.toNat k.bits))
def Ip (k : IntKind) (a b : Int) : Int := a.fdiv (2 ^ (min b.toNat k.bits))
def Ex (e : Int) : UInt8 := UInt8.ofNat e.toNat
theorem L8 {e : Int} (h : 0 ≤ e ∧ e < 256) : ((Ex e).toNat : Int) = e := by
  unfold Ex
  have : e.toNat < 256 := by omega
  rw [UInt8.toNat_ofNat_of_lt' this]
  omega
theorem H3 (x : Int) : 0 ≤ IntKind.wrap .u8 x ∧ IntKind.wrap .u8 x < 256 := by
  unfold IntKind.wrap
  simp only [IntKind.bits, IntKind.signed]
  have h1 := Int.emod_nonneg x (b := 256) (by omega)
  have h2 := Int.emod_lt_of_pos x (b := 256) (by omega)
  simp
  omega
theorem u8_or (a b : Int) : 0 ≤ bOr .u8 a b ∧ bOr .u8 a b < 256 := H3 _
theorem By {e : Int} {c : UInt8} {t : List Value} {l : List UInt8} (h : (c.toNat : Int) = e ∨ (c = Ex e ∧ (0 ≤ e ∧ e < 256))) (ht : t = Vm eU8 l) : (Value.int .u8 e) :: t = Vm eU8 (c :: l) := by
  rw [Nt, ← ht]
  rcases h with h | ⟨rfl, h⟩
  · subst h; rfl
  · show _ = [Value.int .u8 ((Ex e).toNat : Int)] ++ t
    rw [L8 h]
    rfl
theorem Fc {n : Nat} (h : Nat.ble n 281474976710656 = true) : n ≤ maxLen := by
  have := Nat.le_of_ble_eq_true h
  unfold maxLen
  omega
def Ms (es : List Ent) : List Nat → List Ent
  | [] => []
  | i :: l => match es[i]? with | some e => e :: Ms es l | none => Ms es l
def Fd : List Nat → Bool
  | [] => true
  | i :: l => l.all (fun j => !Nat.beq i j) && Fd l
def Zj : Nat := 18446744073709551616
section
variable {S : List Nat} {B : Nat} {w w0 : World} {es es' : List Ent}
theorem HL.apart {i j : Nat} {e f : Ent} (h : HL S B w es) (hi : es[i]? = some e) (hj : es[j]? = some f) (hij : i ≠ j) : ∀ k ∈ e.fp, k ∉ f.fp := by
  intro k hk
  refine h.other hi f ?_ k hk
  rw [List.mem_eraseIdx_iff_getElem?]
  exact ⟨j, fun h => hij h.symm, hj⟩
theorem Ce {es : List Ent} : ∀ {l : List Nat} {f : Ent}, f ∈ Ms es l → ∃ j ∈ l, es[j]? = some f
  | [], f, h => by simp [Ms] at h
  | i :: l, f, h => by
    unfold Ms at h
    split at h
    · rename_i e he
      rcases List.mem_cons.1 h with rfl | h
      · exact ⟨i, by simp, he⟩
      · obtain ⟨j, hj, hf⟩ := Ce h
        exact ⟨j, List.mem_cons_of_mem _ hj, hf⟩
    · obtain ⟨j, hj, hf⟩ := Ce h
      exact ⟨j, List.mem_cons_of_mem _ hj, hf⟩
theorem HL.sel (h : HL S B w es) : ∀ {l : List Nat}, Fd l = true → HL S B w (Ms es l)
  | [], _ => trivial
  | i :: l, hn => by
    simp only [Fd, Bool.and_eq_true, List.all_eq_true, Bool.not_eq_true'] at hn
    unfold Ms
    cases hi : es[i]? with
    | none => exact h.sel hn.2
    | some e =>
      have he := h.get hi
      refine ⟨he.1, fun k hk => ⟨(he.2 k hk).1, (he.2 k hk).2, fun f hf => ?_⟩, h.sel hn.2⟩
      obtain ⟨j, hj, hfj⟩ := Ce hf
      refine h.apart hi hfj (fun hij => ?_) k hk
      have := hn.1 j hj
      subst hij
      rw [Nat.beq_refl] at this
      cases this
theorem SP.sel (h : SP S w0 w es) (l : List Nat) (hn : Fd l = true) (he : es' = Ms es l) : SP S w0 w es' := by
  subst he
  exact ⟨h.mod, h.own.sel hn⟩
end
section
variable {β : Type}
theorem ct {b : Bool} {x y : Option β} {r : β} (h : cond b x y = some r) (hb : b = true) : x = some r := by subst hb; exact h
theorem cf {b : Bool} {x y : Option β} {r : β} (h : cond b x y = some r) (hb : b = false) : y = some r := by subst hb; exact h
theorem Z4 {α : Type} {x : α} {K : α → Option β} {r : β} (h : (some x).bind K = some r) : ∃ z, x = z ∧ K z = some r := ⟨x, rfl, h⟩
theorem Hi {w w' : World} {g : Nat} {o : Obj} (h : w.heap[g]? = some o) (hb : Below w.heap.size w w') : w'.heap[g]? = some o := (hb.block g (Array.getElem?_eq_some_iff.1 h).1).trans h
theorem Qe {x r : β} (h : some x = some r) : r = x := (Option.some.inj h).symm
end
section
variable {P : Program} {n : Nat} {Q : Im} {ρ : Fr} {w : World} {B : Code} {p : List Bool} {k : Nat} {K : Fr → World → Prop}
theorem At.known (l : List (Nat × Value)) (h : Vq ρ l) (next : At P n B p Q (I7 ρ l) w) : At P n B p Q ρ w := by
  rw [Qo h] at next
  exact next
theorem In.run' {k' : Nat} (m : Nat) (hk : k' = k + m) (l : List (Nat × Value)) (h : Dz P n (Q2 (Qi B p)) (((Q2 (Qi B p)).toList.drop k).take m) ρ w = some (I7 ρ l, w))
    (next : In P n B p k' Q (I7 ρ l) w) : In P n B p k Q ρ w := In.run m hk (I7 ρ l) h next
theorem Qx.shift {d : Option Nat} {op : BinOp} {T T' : TypeId} {x y : Operand} {kx ky : IntKind} {a b : Int} {v : Value} (ho : Bl (Qi B p) k ρ = some (.binOp op T x y T', d)) (hd : Jn n d = true)
    (hx : opv ρ x = .int kx a) (hy : opv ρ y = .int ky b) (h0 : 0 ≤ b) (hv : (match op with | .shl => some (Value.int kx (K4 kx a b)) | .shr => some (.int kx (Ip kx a b)) | _ => none) = some v)
    (next : K (Rh ρ d v) w) : Qx P n B p k K ρ w := by
  refine Qx.val ho hd (fun o hop => ?_) next
  unfold execOp; rw [hop]
  simp only [hx, hy]
  cases op <;> first | (cases hv; done) | skip
  all_goals
    injection hv with hv
    subst hv
    simp [eqGuard, Go.binOp, Op.shift, show ¬ b < 0 by omega, K4, Ip]
theorem In.known (l : List (Nat × Value)) (h : Vq ρ l) (next : In P n B p k Q (I7 ρ l) w) : In P n B p k Q ρ w := by
  rw [Qo h] at next
  exact next
theorem R1 {α : Type} {e : Enc α} {S : List Nat} {w0 : World} {es : List Ent} {i b off c : Nat} {d : Option Nat} {t E : TypeId} {x y : Operand} {A : Option Addr} {l : List α} {iz : Int} {v : Value} {x' : α}
    (ho : Bl (Qi B p) k ρ = some (.store t x y, d)) (hd : Jn n d = true) (hx : opv ρ x = .pointer (some ⟨b, off + iz.toNat * e.sz, none⟩)) (hy : opv ρ y = v)
    (hs : SP S w0 w es) (hi : es[i]? = some (Vh E e A c l)) (hA : A = some ⟨b, off, none⟩) (hz : e.sz = 1) (h1 : iz < (l.length : Int)) (h0 : 0 ≤ iz) (hv : e.enc x' = [v]) (ht : (P.info? t).map (·.size) = some 1)
    (next : ∀ w' : World, SP S w0 w' (es.set i (Vh E e A c (l.set iz.toNat x'))) → K (Rh ρ d undef) w') : Qx P n B p k K ρ w := by
  subst hy hA
  have hown : w.ownsRow 0 E e.sz (.slice (some ⟨b, off, none⟩) l.length c) l.length (Vm e l) := hs.get hi
  have hoff : off = 0 := by
    rcases hown.2 with ⟨hn, _⟩ | ⟨g, cap, cur, hn, _⟩
    · cases hn
    · injection hn with h1 _ _
      injection h1 with h1
      injection h1
  subst hoff
  have hlt : iz.toNat < l.length := by omega
  have hcellx : ∃ u, w.cell? ⟨b, iz.toNat, none⟩ = some u := by
    have := World.ownsRow.cellAt (g := b) (cap := c) hown iz.toNat (by rw [hz]; omega)
    rw [this]
    have hlen := Yh e l
    exact ⟨_, List.getElem?_eq_getElem (by rw [hlen, hz]; omega)⟩
  obtain ⟨u0, hu0⟩ := hcellx
  have hfr := World.ownsRow.frozenAt (g := b) (cap := c) hown iz.toNat
  obtain ⟨h2, h3⟩ := World.ownsRow.stored (g := b) (cap := c) hown iz.toNat (opv ρ y)
  have hone := e.one x' (opv ρ y) (by rw [hv]; simp)
  have hset : (Vm e l).set iz.toNat (opv ρ y) = Vm e (l.set iz.toNat x') := by
    have := F9 e l iz.toNat x' hlt
    rw [hz, Nat.mul_one, hv] at this
    rw [← this, List.set_eq_take_append_cons_drop, if_pos (by rw [Yh, hz]; omega)]
    simp
  have h2' : (Vh E e (some ⟨b, 0, none⟩) c (l.set iz.toNat x')).ok (w.setCell ⟨b, iz.toNat, none⟩ (opv ρ y)) := by
    show World.ownsRow _ 0 E e.sz (.slice (some ⟨b, 0, none⟩) (l.set iz.toNat x').length c) (l.set iz.toNat x').length (Vm e (l.set iz.toNat x'))
    rw [List.length_set, ← hset]
    exact h2
  refine I6 ho hd (w' := w.setCell ⟨b, iz.toNat, none⟩ (opv ρ y)) (fun o hop => ?_) (next _ (hs.set hi (T := [b]) (E9 h3 (fun q hq => by injection hq with hq; simp [hq])) (fun q hq => ?_) h2' fun q hq => ?_))
  · have hcs : (opv ρ y).cells = #[opv ρ y] := by
      cases hvv : opv ρ y <;> first | rfl | (rw [hvv] at hone; cases hone)
    cases hi' : P.info? t with
    | none => rw [hi'] at ht; cases ht
    | some ii =>
      rw [hi'] at ht
      have ht : ii.size = 1 := by simpa using ht
      have hsz : (sizeOf t).run P w = .ok 1 w := by simp [sizeOf, typeInfo, hi', ht]
      have hst : (Go.store ⟨b, iz.toNat, none⟩ (opv ρ y)).run P w = .ok () (w.setCell ⟨b, iz.toNat, none⟩ (opv ρ y)) := by
        cases hvv : opv ρ y <;> first | (rw [hvv] at hone; cases hone; done) | (simp [Go.store, Sem.run, hu0, hfr])
      unfold execOp; rw [hop]
      rw [hz, Nat.zero_add, Nat.mul_one] at hx
      have hadd : (⟨b, iz.toNat, none⟩ : Addr).add 0 = ⟨b, iz.toNat, none⟩ := by simp [Addr.add]
      simp only [hx, Instr.storeAt, Instr.sureAddr, Sem.run_bind, Sem.run_pure, Result.andThen_ok, storeVar, hsz, hcs]
      simp [storeCells, hadd, hst, Sem.run_bind]
  · simpa [Vh, row, Value.ownBlock] using hq
  · have hq' : q = b := by simpa [Vh, row, Value.ownBlock] using hq
    subst hq'
    refine ⟨.inl (by simp [Vh, row, Value.ownBlock]), ?_⟩
    have := (World.ownsRow.lt hown q (by simp [Value.ownBlock])).2
    simpa [World.setCell] using this
theorem Lm {t t' : TypeId} {x : Operand} {g off : Nat} {d : Option Nat} {cs : Array Value} {v : Value} (ho : Bl (Qi B p) k ρ = some (.load t x, d)) (hd : Jn n d = true)
    (hv : opv ρ x = .pointer (some ⟨g, off, none⟩)) {fr : Nat × Nat} (hg : w.heap[g]? = some (.cells cs t' fr)) (hl : K9 P t off cs = some v)
    (next : K (Rh ρ d v) w) : Qx P n B p k K ρ w := by
  refine Qx.val ho hd (fun o hop => ?_) next
  have := Bu (w := w) hl hg
  unfold execOp; rw [hop]
  simp only [hv, Instr.loadAt, Instr.sureAddr, Sem.run_bind, Sem.run_pure, Result.andThen_ok, this]
theorem In.guard {t : Nat} {b : Bool} (h : ρ t = .bool b) (h1 : b = true → In P n B p k Q (upd ρ t (.bool true)) w) (h2 : b = false → In P n B p k Q (upd ρ t (.bool false)) w) : In P n B p k Q ρ w := by
  cases b
  · have := h2 rfl
    rw [L6 h] at this
    exact this
  · have := h1 rfl
    rw [L6 h] at this
    exact this
end
end Go.Proofs.YtoflbpmbkmephaaGreatDoor
namespace Go.Proofs.YtoflbpmbkmephaaGreatDoor
open Go.RowKit
def Ln (ops : Array Oper) (size : Nat) : Bool :=
  let ds := ops.toList.filterMap (·.dst)
  ds.all (fun d => decide (d < size)) && decide ds.Nodup
theorem nodup_idx : ∀ (l : List Oper), (l.filterMap (·.dst)).Nodup → ∀ (i j : Nat) (o p : Oper) (d : Tmp), l[i]? = some o → l[j]? = some p → o.dst = some d → p.dst = some d → i = j := by
  intro l
  induction l with
  | nil => intro _ i j o p d h; simp at h
  | cons x r ih =>
    intro hn i j o p d hi hj ho hp
    have hmem : ∀ (k : Nat) (q : Oper), r[k]? = some q → q.dst = some d → d ∈ r.filterMap (·.dst) := fun k q hk hq =>
      List.mem_filterMap.2 ⟨q, List.mem_of_getElem? hk, hq⟩
    cases hx : x.dst with
    | none =>
      rw [List.filterMap_cons_none hx] at hn
      cases i with
      | zero => simp at hi; subst hi; rw [hx] at ho; cases ho
      | succ i =>
        cases j with
        | zero => simp at hj; subst hj; rw [hx] at hp; cases hp
        | succ j => simp at hi hj; rw [ih hn i j o p d hi hj ho hp]
    | some e =>
      rw [List.filterMap_cons_some hx] at hn
      have hn' := List.nodup_cons.1 hn
      cases i with
      | zero =>
        simp at hi; subst hi
        rw [hx] at ho; injection ho with ho; subst ho
        cases j with
        | zero => rfl
        | succ j => simp at hj; exact absurd (hmem j p hj hp) hn'.1
      | succ i =>
        cases j with
        | zero =>
          simp at hj; subst hj
          rw [hx] at hp; injection hp with hp; subst hp
          simp at hi
          exact absurd (hmem i o hi ho) hn'.1
        | succ j => simp at hi hj; rw [ih hn'.2 i j o p d hi hj ho hp]
section
variable {P : Program} {ops : Array Oper} {Q : Exit → Act → World → Prop} {a0 : Act} {w0 : World} {G : World → World → Prop} {R : Nat → Value → World → Prop}
def Still (ops : Array Oper) (t : Tmp) : Prop := ∀ o ∈ ops.toList, o.dst ≠ some t
theorem L9 {a : Act} {d : Tmp} {v : Value} (h : d < a.tmps.size) : (a.put (some d) v).eval (.tmp d) = v := by
  simp [Act.put, Act.eval, h]
theorem D8 {a : Act} {x : Option Tmp} {t : Tmp} {v : Value} (h : x ≠ some t) : (a.put x v).eval (.tmp t) = a.eval (.tmp t) := by
  cases x with
  | none => rfl
  | some d =>
    have : d ≠ t := fun e => h (by rw [e])
    simp [Act.put, Act.eval, Array.getElem?_setIfInBounds_ne this]
theorem ready_mem {listed : Array Bool} {i : Nat} (hs : listed.size = ops.size) (h : i ∈ Region.ready .any ops listed) :
    ∃ o, ops[i]? = some o ∧ ∀ e ∈ o.after.toList, Region.binds .any e = true → listed.getD e.on false = true := by
  unfold Region.ready at h
  simp only [List.mem_filter, List.mem_range, Bool.and_eq_true] at h
  obtain ⟨hi, _, h2⟩ := h
  have hsome : ops[i]? = some ops[i] := Array.getElem?_eq_getElem hi
  refine ⟨ops[i], hsome, fun e he hb => ?_⟩
  rw [hsome] at h2
  simp only [Option.map_some, Option.getD_some, Array.all_eq_true] at h2
  obtain ⟨k, hk, hek⟩ := List.mem_iff_getElem.1 he
  have := h2 k (by simpa using hk)
  rw [Array.getElem_toList] at hek
  rw [hek, hb] at this
  simpa using this
def Ma (ops : Array Oper) : Bool := ops.toList.zipIdx.all fun (o, i) => o.after.all fun e => !Region.binds .any e || decide (e.on < i)
theorem full_of (h : Ma ops = true) : ∀ listed : Array Bool, listed.size = ops.size → Region.ready .any ops listed = [] → ∀ j, j < ops.size → listed.getD j false = true := by
  intro listed hs hr j
  induction j using Nat.strongRecOn with
  | ind j ih =>
    intro hj
    cases hl : listed.getD j false with
    | true => rfl
    | false =>
      exfalso
      have hj' : j < listed.size := by omega
      have hmem : j ∈ Region.ready .any ops listed := by
        unfold Region.ready
        simp only [List.mem_filter, List.mem_range, Bool.and_eq_true]
        have hsome : ops[j]? = some ops[j] := Array.getElem?_eq_getElem hj
        refine ⟨hj, ?_, ?_⟩
        · have : listed[j] = false := by simpa [Array.getD, hj'] using hl
          simp [Array.getD, hj', this]
        · rw [hsome]
          simp only [Option.map_some, Option.getD_some, Array.all_eq_true]
          intro k hk
          unfold Ma at h
          rw [List.all_eq_true] at h
          have hz := h (ops[j], j) (by
            rw [List.mem_iff_getElem?]
            exact ⟨j, by rw [List.getElem?_zipIdx]; simp [Array.getElem?_toList, hsome]⟩)
          simp only [Array.all_eq_true] at hz
          have := hz k hk
          simp only [Bool.or_eq_true, Bool.not_eq_true', decide_eq_true_eq] at this ⊢
          rcases this with this | this
          · exact .inl this
          · exact .inr (ih _ this (by omega))
      rw [hr] at hmem
      cases hmem
end
end Go.Proofs.YtoflbpmbkmephaaGreatDoor
namespace Go.Proofs.YtoflbpmbkmephaaGreatDoor
open Go.RowKit
def Fe (ops : Array Oper) (t : Nat) : Bool := ops.toList.all fun o => match o.dst with | some d => !Nat.beq d t | none => true
def Hj (ops : Array Oper) (i j d : Nat) : Bool :=
  match ops[i]?, ops[j]? with
  | some o, some q => o.after.toList.any (fun e => Nat.beq e.on j && Region.binds .any e) && (match q.dst with | some x => Nat.beq x d | none => false)
  | _, _ => false
def Pm (ops : Array Oper) (j d : Nat) : Bool := match ops[j]? with | some q => (match q.dst with | some x => Nat.beq x d | none => false) | none => false
def Rl : List (Value → World → Prop) → Nat → Value → World → Prop
  | [], _ => fun _ _ => True
  | x :: _, 0 => x
  | _ :: l, j + 1 => Rl l j
def FEq (u : Value) : Value → World → Prop := fun v _ => v = u
def Obs : Nat → (Nat → Prop) → Prop
  | 0, _ => True
  | k + 1, Φ => Obs k Φ ∧ Φ k
theorem obs_get {Φ : Nat → Prop} : ∀ {k : Nat}, Obs k Φ → ∀ i, i < k → Φ i
  | 0, _, i, h => absurd h (by omega)
  | k + 1, ho, i, h => by
    by_cases hk : i = k
    · subst hk; exact ho.2
    · exact obs_get ho.1 i (by omega)
def D0 (ops : Array Oper) (i : Nat) : Option Nat := (ops[i]?).bind (·.dst)
section
variable {P : Program} {n : Nat} {Q : Im} {ρ : Fr} {w : World} {B : Code} {p : List Bool}
def Owes (P : Program) (n : Nat) (B : Code) (p : List Bool) (ρ : Fr) (w : World) (l : List (Value → World → Prop)) (i : Nat) : Prop :=
  ∀ (ρ' : Fr) (w' : World), Below w.heap.size w w' → (∀ t, Fe (Q2 (Qi B p)) t = true → ρ' t = ρ t) → (∀ j d, Hj (Q2 (Qi B p)) i j d = true → Rl l j (ρ' d) w') →
    Qx P n B p i (fun ρ'' w'' => Below w'.heap.size w' w'' ∧ ∃ v, ρ'' = Rh ρ' (D0 (Q2 (Qi B p)) i) v ∧ Rl l i v w'') ρ' w'
theorem Iq {ops : Array Oper} {t : Nat} (h : Fe ops t = true) : Still ops t := by
  intro o ho hd
  unfold Fe at h
  rw [List.all_eq_true] at h
  have := h o ho
  rw [hd] at this
  simp at this
theorem fa_of {a : Act} (h1 : a.defers = []) (h2 : a.tmps.size = n) : FA n (fun t => a.tmps.getD t undef) a := ⟨h1, h2, fun _ => rfl⟩
theorem Qy {Q : Im} (l : List (Nat × Value)) (h : Vq ρ l) (next : Q .normal (I7 ρ l) w) : Q .normal ρ w := by
  rw [Qo h] at next
  exact next
theorem Qx.known {k : Nat} {K : Fr → World → Prop} (l : List (Nat × Value)) (h : Vq ρ l) (next : Qx P n B p k K (I7 ρ l) w) : Qx P n B p k K ρ w := by
  rw [Qo h] at next
  exact next
end
theorem Qx.run {P : Program} {n : Nat} {ρ : Fr} {w : World} {B : Code} {p : List Bool} {k : Nat} {K : Fr → World → Prop} {v : Value}
    (h : Dz P n (Q2 (Qi B p)) (((Q2 (Qi B p)).toList.drop k).take 1) ρ w = some (Rh ρ (D0 (Q2 (Qi B p)) k) v, w)) (next : K (Rh ρ (D0 (Q2 (Qi B p)) k) v) w) : Qx P n B p k K ρ w := by
  intro a ha Q'
  cases ho : (Q2 (Qi B p))[k]? with
  | none =>
    unfold wpOp
    rw [ho]
    have hd : D0 (Q2 (Qi B p)) k = none := by simp [D0, ho]
    rw [hd] at next
    exact ⟨ρ, ha, next⟩
  | some o =>
    rw [Mz ho] at h
    have ht : (o :: (Q2 (Qi B p)).toList.drop (k + 1)).take 1 = [o] := by simp
    rw [ht] at h
    unfold wpOp
    rw [ho]
    simp only [Dz] at h
    cases hdst : Jn n o.dst with
    | false => rw [hdst] at h; cases h
    | true =>
      rw [hdst] at h
      simp only at h
      simp only [Cr ha o]
      cases hw : Bm (Q2 (Qi B p)) ρ o with
      | false =>
        rw [hw] at h
        simp only [Option.some.injEq, Prod.mk.injEq] at h
        simp only [Bool.false_eq_true, if_false]
        refine ⟨_, ha.putO hdst undef, ?_⟩
        rw [h.1]
        exact next
      | true =>
        rw [hw] at h
        simp only at h
        simp only [if_true]
        refine .inl ?_
        unfold Oper.wp
        rw [ha.eval]
        cases hr : (execOp (opv ρ) o).run P w with
        | halt x w1 => rw [hr] at h; cases h
        | ok nx w1 =>
          rw [hr] at h
          cases nx <;> first | (cases h; done) | skip
          · simp only [Option.some.injEq, Prod.mk.injEq] at h
            obtain ⟨h1, rfl⟩ := h
            refine ⟨_, ha.putO hdst _, ?_⟩
            rw [h1]
            exact next
          · simp only [Option.some.injEq, Prod.mk.injEq] at h
            obtain ⟨h1, rfl⟩ := h
            refine ⟨_, ha.putO hdst _, ?_⟩
            rw [h1]
            exact next
theorem Qa {ρ : Fr} {l : List (Nat × Value)} {d : Option Nat} {v : Value} (h : Vq ρ l) : Rh (I7 ρ l) d v = Rh ρ d v := by rw [Qo h]
def Src1 (ops : Array Oper) (i : Nat) (l : List (Value → World → Prop)) (ρ : Fr) (t : Nat) (v : Value) : Prop :=
  (Fe ops t = true ∧ ρ t = v) ∨ ∃ j, Hj ops i j t = true ∧ Rl l j = FEq v
def SrcOk (ops : Array Oper) (i : Nat) (l : List (Value → World → Prop)) (ρ : Fr) : List (Nat × Value) → Prop
  | [] => True
  | x :: r => Src1 ops i l ρ x.1 x.2 ∧ SrcOk ops i l ρ r
theorem M3 {ops : Array Oper} {i : Nat} {l : List (Value → World → Prop)} {ρ ρ' : Fr} {w' : World} (hs : ∀ t, Fe ops t = true → ρ' t = ρ t) (ha : ∀ j d, Hj ops i j d = true → Rl l j (ρ' d) w') :
    ∀ src : List (Nat × Value), SrcOk ops i l ρ src → Vq ρ' src
  | [], _ => trivial
  | x :: r, h => by
    refine ⟨?_, M3 hs ha r h.2⟩
    rcases h.1 with ⟨h1, h2⟩ | ⟨j, h1, h2⟩
    · exact (hs _ h1).trans h2
    · have := ha j x.1 h1
      rw [h2] at this
      exact this
theorem Owes.skip {P : Program} {n : Nat} {B : Code} {p : List Bool} {ρ : Fr} {w : World} {l : List (Value → World → Prop)} {i : Nat} (src : List (Nat × Value)) (hsrc : SrcOk (Q2 (Qi B p)) i l ρ src) (d : Option Nat)
    (h : ∀ (ρ' : Fr), (Q2 (Qi B p))[i]?.map (fun o => (Bm (Q2 (Qi B p)) (I7 ρ' src) o, o.dst)) = some (false, d)) (hd : Jn n d = true) (hR : ∀ w, Rl l i undef w) : Owes P n B p ρ w l i := by
  intro ρ' w' hk hs hah
  have hkn := M3 hs hah src hsrc
  have hdd : D0 (Q2 (Qi B p)) i = d := by
    have := h ρ'
    unfold D0
    cases ho : (Q2 (Qi B p))[i]? with
    | none => rw [ho] at this; cases this
    | some o => rw [ho] at this; simp only [Option.map_some, Option.some.injEq, Prod.mk.injEq] at this; exact this.2
  refine Qx.known src hkn ?_
  exact Sm (h ρ') hd ⟨Below.refl _ _, undef, by rw [hdd]; exact Qa hkn, hR _⟩
theorem Ki (p : Prop) [Decidable p] (X : Bool) (w : World) : (if p then Result.ok (Value.bool X) w else Result.ok (Value.bool false) w) = Result.ok (Value.bool (decide p && X)) w := by
  by_cases h : p <;> simp [h]
theorem H4 (p : Prop) [Decidable p] (X : Bool) (w : World) : (if p then Result.ok (Value.bool (!X)) w else Result.ok (Value.bool true) w) = Result.ok (Value.bool (!(decide p && X))) w := by
  by_cases h : p <;> simp [h]
theorem Ha (p : Prop) [Decidable p] (w : World) : (if p then Result.ok (Value.bool false) w else Result.ok (Value.bool true) w) = Result.ok (Value.bool (!decide p)) w := by
  by_cases h : p <;> simp [h]
theorem H5 {α : Type} [BEq α] [LawfulBEq α] [DecidableEq α] (a b : α) : (a == b) = decide (a = b) := by
  by_cases h : a = b <;> simp [h]
theorem Mb {P : Program} {n : Nat} {ρ : Fr} {w : World} {B : Code} {p : List Bool} {k : Nat} {K : Fr → World → Prop} {d : Option Nat} {op : BinOp} {T T' : TypeId} {x y : Operand} {vx vy v : Value}
    (ho : Bl (Qi B p) k ρ = some (.binOp op T x y T', d)) (hd : Jn n d = true) (hx : opv ρ x = vx) (hy : opv ρ y = vy)
    (hrun : ∀ w : World, Sem.run P (do eqGuard op T x y vx vy; Go.binOp op T vx vy) w = .ok v w) (next : K (Rh ρ d v) w) : Qx P n B p k K ρ w := by
  refine Qx.val ho hd (fun o hop => ?_) next
  unfold execOp; rw [hop]
  subst hx hy
  have := hrun w
  simp only [Sem.run_bind] at this ⊢
  rw [this]
  rfl
def rvS (ρ : Fr) : ResultVar → Sem Value
  | .tmp t => pure (ρ t)
  | .cell a t => do loadVar t (← asAddr (ρ a))
theorem Nv {P : Program} {ρ : Fr} {w : World} {t : Nat} {v : Value} (h : ρ t = v) : (rvS ρ (.tmp t)).run P w = .ok v w := by subst h; rfl
theorem Uf {P : Program} {ρ : Fr} {w : World} {a t g off : Nat} {cs : Array Value} {e : TypeId} {fr : Nat × Nat} {v : Value} (h : ρ a = .pointer (some ⟨g, off, none⟩)) (hg : w.heap[g]? = some (.cells cs e fr)) (hl : K9 P t off cs = some v) : (rvS ρ (.cell a t)).run P w = .ok v w := by
  simp only [rvS, h, asAddr, Sem.run_bind, Sem.run_pure, Result.andThen_ok]
  exact Bu hl hg
theorem res_1 {P : Program} {fn : Func} {ρ : Fr} {w : World} {x : ResultVar} {v : Value} (h : fn.results = #[x]) (hx : (rvS ρ x).run P w = .ok v w) : (R8 fn ρ).run P w = .ok v w := by
  have : R8 fn ρ = (do let vs ← #[x].mapM (rvS ρ); pure (if h : vs.size = 1 then vs[0] else .tuple vs)) := by
    unfold R8; rw [h]; congr 1
  rw [this]
  simp [hx, Sem.run_bind, Result.andThen]
theorem Cl {P : Program} {fn : Func} {ρ : Fr} {w : World} {x y : ResultVar} {v u : Value} (h : fn.results = #[x, y]) (hx : (rvS ρ x).run P w = .ok v w) (hy : (rvS ρ y).run P w = .ok u w) : (R8 fn ρ).run P w = .ok (.tuple #[v, u]) w := by
  have : R8 fn ρ = (do let vs ← #[x, y].mapM (rvS ρ); pure (if h : vs.size = 1 then vs[0] else .tuple vs)) := by
    unfold R8; rw [h]; congr 1
  rw [this]
  simp [hx, hy, Sem.run_bind, Result.andThen]
theorem res_3 {P : Program} {fn : Func} {ρ : Fr} {w : World} {x y z : ResultVar} {v u q : Value} (h : fn.results = #[x, y, z]) (hx : (rvS ρ x).run P w = .ok v w) (hy : (rvS ρ y).run P w = .ok u w) (hz : (rvS ρ z).run P w = .ok q w) : (R8 fn ρ).run P w = .ok (.tuple #[v, u, q]) w := by
  have : R8 fn ρ = (do let vs ← #[x, y, z].mapM (rvS ρ); pure (if h : vs.size = 1 then vs[0] else .tuple vs)) := by
    unfold R8; rw [h]; congr 1
  rw [this]
  simp [hx, hy, hz, Sem.run_bind, Result.andThen]
end Go.Proofs.YtoflbpmbkmephaaGreatDoor
namespace Go.Proofs.YtoflbpmbkmephaaGreatDoor
open Go.RowKit
abbrev Stg := List Nat × (List Value → World → Prop)
def M4 (ops : Array Oper) (ρ : Fr) (h : Nat) : Value := match D0 ops h with | some d => ρ d | none => undef
def insN (i : Nat) : List Nat → List Nat
  | [] => [i]
  | x :: l => match Nat.ble i x with | true => i :: x :: l | false => x :: insN i l
theorem Mc {i h : Nat} : ∀ {l : List Nat}, h ∈ insN i l ↔ h = i ∨ h ∈ l
  | [] => by simp [insN]
  | x :: l => by
    unfold insN
    cases Nat.ble i x
    · simp only [List.mem_cons, Mc (l := l)]
      constructor
      · rintro (h | h | h) <;> simp [h]
      · rintro (h | h | h) <;> simp [h]
    · simp only [List.mem_cons]
def Ey (x : Nat) : List Nat → Bool
  | [] => false
  | y :: l => match Nat.beq x y with | true => true | false => Ey x l
theorem C9 {x : Nat} : ∀ {l : List Nat}, Ey x l = true ↔ x ∈ l
  | [] => by simp [Ey]
  | y :: l => by
    unfold Ey
    cases hb : Nat.beq x y
    · simp only [C9 (l := l), List.mem_cons]
      constructor
      · exact .inr
      · rintro (rfl | h)
        · rw [Nat.beq_refl] at hb; cases hb
        · exact h
    · simp [Nat.eq_of_beq_eq_true hb]
def M5 (ops : Array Oper) (i : Nat) : List Nat := match ops[i]? with | some o => (o.after.toList.filter (fun e => Region.binds .any e)).map (·.on) | none => []
def M6 (ops : Array Oper) : Nat → List Nat → List Nat → List Nat
  | 0, _, acc => acc
  | _ + 1, [], acc => acc
  | m + 1, i :: todo, acc => match Ey i acc with | true => M6 ops m todo acc | false => M6 ops m (M5 ops i ++ todo) (i :: acc)
def Rb (listed : Array Bool) (i : Nat) : Prop := listed.getD i false = true
def Closed (ops : Array Oper) (listed : Array Bool) : Prop := ∀ i, Rb listed i → ∀ j ∈ M5 ops i, Rb listed j
theorem Bd {ops : Array Oper} {listed : Array Bool} (hc : Closed ops listed) : ∀ (m : Nat) (todo acc : List Nat), (∀ i ∈ todo, Rb listed i) → (∀ i ∈ acc, Rb listed i) → ∀ i ∈ M6 ops m todo acc, Rb listed i
  | 0, todo, acc, _, h2 => h2
  | m + 1, [], acc, _, h2 => h2
  | m + 1, x :: todo, acc, h1, h2 => by
    unfold M6
    cases Ey x acc
    · refine Bd hc m _ _ (fun i hi => ?_) (fun i hi => ?_)
      · rcases List.mem_append.1 hi with h | h
        · exact hc x (h1 x (by simp)) i h
        · exact h1 i (by simp [h])
      · rcases List.mem_cons.1 hi with rfl | h
        · exact h1 i (by simp)
        · exact h2 i h
    · exact Bd hc m _ _ (fun i hi => h1 i (by simp [hi])) h2
def canAt (ops : Array Oper) (hv : List Nat) (M : List Nat) (i : Nat) : Bool :=
  !Ey i M && (M6 ops 4096 (M5 ops i) []).all (fun j => !Ey j hv || Ey j M) && M.all (fun h => !Ey i (M6 ops 4096 [h] []))
def Fp (ops : Array Oper) (hv : List Nat) (masks : List (List Nat)) (i : Nat) (ss : List Nat) : Bool :=
  masks.zipIdx.all fun x => !canAt ops hv x.1 i || Ey x.2 ss
def GEq (u : Value) : Value → Prop := fun v => v = u
def Ry : Value → Prop := fun _ => True
def Gl : List (Value → Prop) → Nat → Value → Prop
  | [], _ => fun _ => True
  | x :: _, 0 => x
  | _ :: l, j + 1 => Gl l j
def VL : List Value → List Value → Prop
  | [], _ => True
  | _, [] => True
  | a :: l, b :: m => a = b ∧ VL l m
section
variable {P : Program} {n : Nat} {Q : Im} {ρ : Fr} {w : World} {B : Code} {p : List Bool}
def Pn (ops : Array Oper) (l : List (Value → Prop)) (i : Nat) (ρ' : Fr) : Prop := ∀ j d, Hj ops i j d = true → Gl l j (ρ' d)
def oldB (ops : Array Oper) (i t : Nat) : Bool := Fe ops t || (List.range ops.size).any (fun j => Pm ops j t && Ey i (M6 ops 4096 [j] []))
def Kj (ops : Array Oper) (i : Nat) (ρ ρ' : Fr) : Prop := ∀ t, oldB ops i t = true → ρ' t = ρ t
def OwesP (P : Program) (n : Nat) (B : Code) (p : List Bool) (ρ : Fr) (l : List (Value → Prop)) (i : Nat) : Prop :=
  ∀ (ρ' : Fr) (w' : World), Kj (Q2 (Qi B p)) i ρ ρ' → Pn (Q2 (Qi B p)) l i ρ' →
    Qx P n B p i (fun ρ'' w'' => w'' = w' ∧ ∃ v, ρ'' = Rh ρ' (D0 (Q2 (Qi B p)) i) v ∧ Gl l i v) ρ' w'
def OwesL (P : Program) (n : Nat) (B : Code) (p : List Bool) (ρ : Fr) (l : List (Value → Prop)) (s : Stg) (i : Nat) : Prop :=
  ∀ (ρ' : Fr) (w' : World), Kj (Q2 (Qi B p)) i ρ ρ' → Pn (Q2 (Qi B p)) l i ρ' → s.2 (s.1.map (M4 (Q2 (Qi B p)) ρ')) w' →
    Qx P n B p i (fun ρ'' w'' => w'' = w' ∧ ∃ v, ρ'' = Rh ρ' (D0 (Q2 (Qi B p)) i) v ∧ Gl l i v) ρ' w'
def OwesH (P : Program) (n : Nat) (B : Code) (p : List Bool) (ρ : Fr) (l : List (Value → Prop)) (s s' : Stg) (i : Nat) : Prop :=
  s'.1 = insN i s.1 ∧ ∀ (ρ' : Fr) (w' : World), Kj (Q2 (Qi B p)) i ρ ρ' → Pn (Q2 (Qi B p)) l i ρ' → s.2 (s.1.map (M4 (Q2 (Qi B p)) ρ')) w' →
    Qx P n B p i (fun ρ'' w'' => ∃ v, ρ'' = Rh ρ' (D0 (Q2 (Qi B p)) i) v ∧ Gl l i v ∧ s'.2 (s'.1.map (M4 (Q2 (Qi B p)) (Rh ρ' (D0 (Q2 (Qi B p)) i) v))) w'') ρ' w'
def Nq (S : List Stg) (k : Nat) : Stg := S.getD k ([], fun _ _ => False)
inductive Owe (P : Program) (n : Nat) (B : Code) (p : List Bool) (ρ : Fr) (l : List (Value → Prop)) (hv : List Nat) (S : List Stg) (i : Nat) : Prop
  | pure (hh : Ey i hv = false) (h : OwesP P n B p ρ l i)
  | light (hh : Ey i hv = false) (ss : List Nat) (hs : Fp (Q2 (Qi B p)) hv (S.map (·.1)) i ss = true) (h : ∀ k ∈ ss, OwesL P n B p ρ l (Nq S k) i)
  | heavy (hh : Ey i hv = true) (ss : List (Nat × Nat)) (hs : Fp (Q2 (Qi B p)) hv (S.map (·.1)) i (ss.map (·.1)) = true) (h : ∀ k ∈ ss, Nat.blt k.2 S.length = true ∧ OwesH P n B p ρ l (Nq S k.1) (Nq S k.2) i)
end
section
variable {P : Program} {ops : Array Oper} {Q : Exit → Act → World → Prop} {a0 : Act} {hv : List Nat} {S : List Stg} {l : List (Value → Prop)}
def G8 (a : Act) : Fr := fun t => a.tmps.getD t undef
structure InvS (ops : Array Oper) (hv : List Nat) (S : List Stg) (l : List (Value → Prop)) (a0 : Act) (listed : Array Bool) (a : Act) (w : World) : Prop where
  size : listed.size = ops.size
  defers : a.defers = a0.defers
  tmps : a.tmps.size = a0.tmps.size
  still : ∀ t, Still ops t → a.eval (.tmp t) = a0.eval (.tmp t)
  closed : Closed ops listed
  old : ∀ j q d, ops[j]? = some q → ¬ Rb listed j → q.dst = some d → a.eval (.tmp d) = a0.eval (.tmp d)
  facts : ∀ j q d, ops[j]? = some q → Rb listed j → q.dst = some d → Gl l j (a.eval (.tmp d))
  stage : ∃ k, k < S.length ∧ (∀ h, Ey h hv = true → (Rb listed h ↔ h ∈ (Nq S k).1)) ∧ (∀ h ∈ (Nq S k).1, Ey h hv = true) ∧ (Nq S k).2 ((Nq S k).1.map (M4 ops (G8 a))) w
def PutsS (ops : Array Oper) (hv : List Nat) (S : List Stg) (l : List (Value → Prop)) (k i : Nat) (o : Oper) (a : Act) (w : World) (a' : Act) (w' : World) : Prop :=
  ∃ v, a' = a.put o.dst v ∧ Gl l i v ∧
    ((Ey i hv = false ∧ w' = w) ∨ ∃ k', Ey i hv = true ∧ k' < S.length ∧ (Nq S k').1 = insN i (Nq S k).1 ∧ (Nq S k').2 ((Nq S k').1.map (M4 ops (G8 (a.put o.dst v)))) w')
theorem Cs {listed : Array Bool} {i j : Nat} (hi : i < listed.size) : Rb (listed.setIfInBounds i true) j ↔ j = i ∨ Rb listed j := by
  unfold Rb
  simp only [Array.getD_eq_getD_getElem?]
  by_cases h : i = j
  · subst h
    simp [hi]
  · rw [Array.getElem?_setIfInBounds_ne h]
    constructor
    · exact .inr
    · rintro (h1 | h1)
      · exact absurd h1.symm h
      · exact h1
theorem Lo {i j : Nat} {o : Oper} (ho : ops[i]? = some o) : j ∈ M5 ops i ↔ ∃ e ∈ o.after.toList, Region.binds .any e = true ∧ e.on = j := by
  unfold M5
  rw [ho]
  simp only [List.mem_map, List.mem_filter]
  constructor
  · rintro ⟨e, ⟨h1, h2⟩, h3⟩; exact ⟨e, h1, h2, h3⟩
  · rintro ⟨e, h1, h2, h3⟩; exact ⟨e, ⟨h1, h2⟩, h3⟩
theorem invS_step {listed : Array Bool} {a a' : Act} {w w' : World} {i k : Nat} {o : Oper} (hok : Ln ops a0.tmps.size = true) (ho : ops[i]? = some o) (hready : ∀ e ∈ o.after.toList, Region.binds .any e = true → Rb listed e.on)
    (h : InvS ops hv S l a0 listed a w) (hk : k < S.length) (hk1 : ∀ h, Ey h hv = true → (Rb listed h ↔ h ∈ (Nq S k).1)) (hk2 : ∀ h ∈ (Nq S k).1, Ey h hv = true) (hk3 : (Nq S k).2 ((Nq S k).1.map (M4 ops (G8 a))) w)
    (hni : ¬ Rb listed i) (hp : PutsS ops hv S l k i o a w a' w') : InvS ops hv S l a0 (listed.setIfInBounds i true) a' w' := by
  obtain ⟨v, rfl, hG, hcase⟩ := hp
  have hi : i < listed.size := by rw [h.size]; exact (Array.getElem?_eq_some_iff.1 ho).1
  simp only [Ln, Bool.and_eq_true, List.all_eq_true, decide_eq_true_eq] at hok
  have hmem : ∀ d, o.dst = some d → d < a.tmps.size := fun d hd => by
    rw [h.tmps]
    exact hok.1 d (List.mem_filterMap.2 ⟨o, by rw [← Array.getElem?_toList] at ho; exact List.mem_of_getElem? ho, hd⟩)
  have hne : ∀ j q d, ops[j]? = some q → q.dst = some d → j ≠ i → o.dst ≠ some d := fun j q d hq hd hji hod =>
    hji (nodup_idx _ hok.2 j i q o d (by rw [Array.getElem?_toList]; exact hq) (by rw [Array.getElem?_toList]; exact ho) hd hod)
  refine ⟨by simpa using h.size, ?_, ?_, ?_, ?_, ?_, ?_, ?_⟩
  · cases o.dst <;> simpa [Act.put] using h.defers
  · cases o.dst <;> simpa [Act.put] using h.tmps
  · intro t ht
    rw [D8 (ht o (by rw [← Array.getElem?_toList] at ho; exact List.mem_of_getElem? ho))]
    exact h.still t ht
  · intro j hj q hq
    rw [Cs hi] at hj ⊢
    rcases hj with rfl | hj
    · obtain ⟨e, he, hb, rfl⟩ := (Lo ho).1 hq
      exact .inr (hready e he hb)
    · exact .inr (h.closed j hj q hq)
  · intro j q d hq hj hd
    rw [Cs hi] at hj
    rw [D8 (hne j q d hq hd fun e => hj (.inl e))]
    exact h.old j q d hq (fun hl => hj (.inr hl)) hd
  · intro j q d hq hj hd
    rw [Cs hi] at hj
    by_cases hij : j = i
    · subst hij
      rw [ho] at hq; injection hq with hq; subst hq
      rw [hd, L9 (hmem d hd)]
      exact hG
    · rw [D8 (hne j q d hq hd hij)]
      exact h.facts j q d hq (hj.resolve_left hij) hd
  · rcases hcase with ⟨hnh, rfl⟩ | ⟨k', hh, hk', hM, hP⟩
    · refine ⟨k, hk, fun x hx => ?_, hk2, ?_⟩
      · rw [Cs hi]
        constructor
        · rintro (rfl | h1)
          · rw [hnh] at hx; cases hx
          · exact (hk1 x hx).1 h1
        · exact fun h1 => .inr ((hk1 x hx).2 h1)
      · have e : (Nq S k).1.map (M4 ops (G8 (a.put o.dst v))) = (Nq S k).1.map (M4 ops (G8 a)) := by
          refine List.map_congr_left fun x hx => ?_
          have hxi : x ≠ i := fun e => by subst e; rw [hk2 x hx] at hnh; cases hnh
          unfold M4 D0
          cases hq : ops[x]? with
          | none => rfl
          | some q =>
            simp only [Option.bind_some]
            cases hd : q.dst with
            | none => rfl
            | some d => exact D8 (hne x q d hq hd hxi)
        rw [e]
        exact hk3
    · refine ⟨k', hk', fun x hx => ?_, fun x hx => ?_, hP⟩
      · rw [Cs hi, hM, Mc]
        constructor
        · rintro (rfl | h1)
          · exact .inl rfl
          · exact .inr ((hk1 x hx).1 h1)
        · rintro (rfl | h1)
          · exact .inl rfl
          · exact .inr ((hk1 x hx).2 h1)
      · rw [hM, Mc] at hx
        rcases hx with rfl | hx
        · exact hh
        · exact hk2 x hx
theorem canAt_of {listed : Array Bool} {i k : Nat} {o : Oper} (ho : ops[i]? = some o) (hc : Closed ops listed) (hready : ∀ e ∈ o.after.toList, Region.binds .any e = true → Rb listed e.on) (hni : ¬ Rb listed i)
    (hk1 : ∀ h, Ey h hv = true → (Rb listed h ↔ h ∈ (Nq S k).1)) (hk2 : ∀ h ∈ (Nq S k).1, Ey h hv = true) : canAt ops hv (Nq S k).1 i = true := by
  unfold canAt
  simp only [Bool.and_eq_true, Bool.not_eq_true', List.all_eq_true, Bool.or_eq_true]
  refine ⟨⟨?_, fun j hj => ?_⟩, fun h hh => ?_⟩
  · cases hm : Ey i (Nq S k).1 with
    | false => rfl
    | true =>
      have := C9.1 hm
      exact absurd ((hk1 i (hk2 i this)).2 this) hni
  · cases hm : Ey j hv with
    | false => exact .inl rfl
    | true =>
      refine .inr (C9.2 ((hk1 j hm).1 (Bd hc 4096 _ _ (fun x hx => ?_) (fun x hx => by simp at hx) j hj)))
      obtain ⟨e, he, hb, rfl⟩ := (Lo ho).1 hx
      exact hready e he hb
  · cases hm : Ey i (M6 ops 4096 [h] []) with
    | false => rfl
    | true =>
      exact absurd (Bd hc 4096 [h] [] (fun x hx => by
        have : x = h := by simpa using hx
        subst this
        exact (hk1 x (hk2 x hh)).2 hh) (fun x hx => by simp at hx) i (C9.1 hm)) hni
theorem Lp {masks : List (List Nat)} {i k : Nat} {ss : List Nat} {M : List Nat} (h : Fp ops hv masks i ss = true) (hk : masks[k]? = some M) (hc : canAt ops hv M i = true) : k ∈ ss := by
  unfold Fp at h
  rw [List.all_eq_true] at h
  have := h (M, k) (by rw [List.mem_iff_getElem?]; exact ⟨k, by rw [List.getElem?_zipIdx, hk]; simp⟩)
  simp only [hc, Bool.not_true, Bool.false_or] at this
  exact C9.1 this
theorem old_of {listed : Array Bool} {a : Act} {w : World} {i : Nat} (h : InvS ops hv S l a0 listed a w) (hni : ¬ Rb listed i) (t : Nat) (ht : oldB ops i t = true) : a.eval (.tmp t) = a0.eval (.tmp t) := by
  unfold oldB at ht
  rw [Bool.or_eq_true, List.any_eq_true] at ht
  rcases ht with ht | ⟨j, _, hj⟩
  · exact h.still t (Iq ht)
  · rw [Bool.and_eq_true] at hj
    obtain ⟨h1, h2⟩ := hj
    have hnj : ¬ Rb listed j := fun hl => hni (Bd h.closed 4096 [j] [] (fun x hx => by
      have : x = j := by simpa using hx
      subst this
      exact hl) (fun x hx => by simp at hx) i (C9.1 h2))
    unfold Pm at h1
    cases hq : ops[j]? with
    | none => rw [hq] at h1; cases h1
    | some q =>
      rw [hq] at h1
      simp only at h1
      cases hd : q.dst with
      | none => rw [hd] at h1; cases h1
      | some d =>
        rw [hd] at h1
        have e : d = t := Nat.eq_of_beq_eq_true h1
        subst e
        exact h.old j q d hq hnj hd
theorem M7 (hok : Ln ops a0.tmps.size = true)
    (hstep : ∀ i o k, ops[i]? = some o → k < S.length → canAt ops hv (Nq S k).1 i = true → ∀ a w, a.defers = a0.defers → a.tmps.size = a0.tmps.size → (∀ t, oldB ops i t = true → a.eval (.tmp t) = a0.eval (.tmp t)) →
      (∀ e ∈ o.after.toList, Region.binds .any e = true → ∀ q d, ops[e.on]? = some q → q.dst = some d → Gl l e.on (a.eval (.tmp d))) → (Nq S k).2 ((Nq S k).1.map (M4 ops (G8 a))) w → wpOp P ops Q i (PutsS ops hv S l k i o a w) a w)
    (hend : ∀ k a w, k < S.length → (∀ h, h < ops.size → Ey h hv = true → h ∈ (Nq S k).1) → a.defers = a0.defers → a.tmps.size = a0.tmps.size → (∀ t, Still ops t → a.eval (.tmp t) = a0.eval (.tmp t)) →
      (∀ j q d, ops[j]? = some q → q.dst = some d → Gl l j (a.eval (.tmp d))) → (Nq S k).2 ((Nq S k).1.map (M4 ops (G8 a))) w → Q .normal a w)
    (hfull : ∀ listed : Array Bool, listed.size = ops.size → Region.ready .any ops listed = [] → ∀ j, j < ops.size → listed.getD j false = true) :
    ∀ (Zj : Nat) (listed : Array Bool) (a : Act) (w : World), (listed.toList.filter (! ·)).length ≤ Zj → InvS ops hv S l a0 listed a w → wpAny P .any ops Q Zj listed a w := by
  have fin : ∀ (listed : Array Bool) (a : Act) (w : World), Region.ready .any ops listed = [] → InvS ops hv S l a0 listed a w → Q .normal a w := by
    intro listed a w hr h
    obtain ⟨k, hk, hk1, hk2, hk3⟩ := h.stage
    have hall := hfull listed h.size hr
    exact hend k a w hk (fun x hx hm => (hk1 x hm).1 (hall x hx)) h.defers h.tmps h.still (fun j q d hj hd => h.facts j q d hj (hall j (Array.getElem?_eq_some_iff.1 hj).1) hd) hk3
  intro Zj
  induction Zj with
  | zero =>
    intro listed a w hl hinv
    have hr : Region.ready .any ops listed = [] := by
      unfold Region.ready
      rw [List.filter_eq_nil_iff]
      intro i hi
      have hi' : i < listed.size := by rw [hinv.size]; simpa using hi
      have hlist : listed.getD i true = true := by
        have hempty : listed.toList.filter (! ·) = [] := List.eq_nil_of_length_eq_zero (by omega)
        rw [List.filter_eq_nil_iff] at hempty
        have := hempty listed[i] (by rw [← Array.getElem_toList]; exact List.getElem_mem _)
        simpa [Array.getD, hi'] using this
      simp [hlist]
    exact ⟨hr, fin _ _ _ hr hinv⟩
  | succ Zj ih =>
    intro listed a w hl hinv
    refine ⟨fun hr => fin _ _ _ hr hinv, fun i hi => ?_⟩
    obtain ⟨o, ho, hedge⟩ := ready_mem hinv.size hi
    unfold Region.ready at hi
    simp only [List.mem_filter, List.mem_range, Bool.and_eq_true] at hi
    have hi' : i < listed.size := by rw [hinv.size]; exact hi.1
    have hf : listed[i] = false := by
      have := hi.2.1
      simpa [Array.getD, hi'] using this
    have hni : ¬ Rb listed i := by
      unfold Rb
      simp [Array.getD, hi', hf]
    obtain ⟨k, hk, hk1, hk2, hk3⟩ := hinv.stage
    refine wpOp_mono (fun a' w' hp => ih _ a' w' ?_ (invS_step hok ho hedge hinv hk hk1 hk2 hk3 hni hp))
      (hstep i o k ho hk (canAt_of ho hinv.closed hedge hni hk1 hk2) a w hinv.defers hinv.tmps (old_of hinv hni) (fun e he hb q d hq hd => hinv.facts e.on q d hq (hedge e he hb) hd) hk3)
    have hcount : ∀ (l : List Bool) (k : Nat), l[k]? = some false → ((l.set k true).filter (! ·)).length + 1 = (l.filter (! ·)).length := by
      intro l
      induction l with
      | nil => intro k hk; simp at hk
      | cons x r ihr =>
        intro k hk
        cases k with
        | zero => simp at hk; subst hk; simp
        | succ k =>
          simp at hk
          have := ihr k hk
          cases x <;> simp [List.set] <;> omega
    have := hcount listed.toList i (by rw [Array.getElem?_toList, Array.getElem?_eq_getElem hi', hf])
    simp only [Array.toList_setIfInBounds]
    omega
end
section
variable {P : Program} {n : Nat} {Q : Im} {ρ : Fr} {w : World} {B : Code} {p : List Bool}
theorem At.stages (h : Ri 5 (Qi B p) = true) (hd : Fn (Qi B p) = true) (hm : P.follows .mixedOrders = true) (hok : Ln (Q2 (Qi B p)) n = true) (he : Ma (Q2 (Qi B p)) = true)
    (l : List (Value → Prop)) (hv : List Nat) (S : List Stg) {N : Nat} (hN : (Q2 (Qi B p)).size = N) (h0 : (Nq S 0).1 = [] ∧ 0 < S.length) (hS : (Nq S 0).2 [] w.drew) (hobs : Obs N (Owe P n B p ρ l hv S))
    {last : Nat} (hlast : (S.map (·.1)).zipIdx.all (fun x => Nat.beq x.2 last || (List.range N).any (fun i => Ey i hv && !Ey i x.1)) = true)
    (hend : ∀ (ρ' : Fr) (w' : World), (∀ t, Fe (Q2 (Qi B p)) t = true → ρ' t = ρ t) → (∀ j d, Pm (Q2 (Qi B p)) j d = true → Gl l j (ρ' d)) → (Nq S last).2 ((Nq S last).1.map (M4 (Q2 (Qi B p)) ρ')) w' → Q .normal ρ' w') : At P n B p Q ρ w := by
  intro a0 ha0
  have hreg := My h
  rw [hreg, hd]
  have hd0 : a0.defers = [] := ha0.defers
  have hsz0 : a0.tmps.size = n := ha0.size
  have hev : ∀ (a : Act) (t : Nat), a.eval (.tmp t) = a.tmps.getD t undef := fun _ _ => rfl
  have hstill : ∀ (a : Act), (∀ t, Still (Q2 (Qi B p)) t → a.eval (.tmp t) = a0.eval (.tmp t)) → ∀ t, Fe (Q2 (Qi B p)) t = true → G8 a t = ρ t := fun a hst t ht => by
    have := hst t (Iq ht)
    rw [hev, hev] at this
    rw [← ha0.get t]; exact this
  have hstillI : ∀ (i : Nat) (a : Act), (∀ t, oldB (Q2 (Qi B p)) i t = true → a.eval (.tmp t) = a0.eval (.tmp t)) → Kj (Q2 (Qi B p)) i ρ (G8 a) := fun i a hst t ht => by
    have := hst t ht
    rw [hev, hev] at this
    rw [← ha0.get t]; exact this
  have hmask : ∀ k, k < S.length → (S.map (·.1))[k]? = some (Nq S k).1 := fun k hk => by
    rw [List.getElem?_map]
    unfold Nq
    rw [List.getD_eq_getElem?_getD, List.getElem?_eq_getElem hk]
    rfl
  refine wp_region_any hm ?_
  refine M7 (l := l) (hv := hv) (S := S) (a0 := a0) (by rw [hsz0]; exact hok) ?_ ?_ (full_of he) _ _ _ _ ?_ ?_
  · intro i o k ho hk hcan a w' hdf hsz hst hah hstage
    have hlt : i < N := by rw [← hN]; exact (Array.getElem?_eq_some_iff.1 ho).1
    have ha : FA n (G8 a) a := fa_of (hdf.trans hd0) (hsz.trans hsz0)
    have hfacts : Pn (Q2 (Qi B p)) l i (G8 a) := fun j d hjd => by
      unfold Hj at hjd
      rw [ho] at hjd
      cases hj : (Q2 (Qi B p))[j]? with
      | none => rw [hj] at hjd; cases hjd
      | some q =>
        rw [hj] at hjd
        simp only [Bool.and_eq_true, List.any_eq_true] at hjd
        obtain ⟨⟨e, hem, hon, hbind⟩, hdst⟩ := hjd
        have hon := Nat.eq_of_beq_eq_true hon
        cases hq : q.dst with
        | none => rw [hq] at hdst; cases hdst
        | some x =>
          rw [hq] at hdst
          have hx : x = d := Nat.eq_of_beq_eq_true hdst
          subst hx
          have := hah e hem hbind q x (by rw [hon]; exact hj) hq
          rw [hon] at this
          exact this
    have hdst : D0 (Q2 (Qi B p)) i = o.dst := by simp [D0, ho]
    have hdok : Jn n o.dst = true := by
      cases hdo : o.dst with
      | none => rfl
      | some d =>
        simp only [Ln, Bool.and_eq_true, List.all_eq_true, decide_eq_true_eq] at hok
        have hmem : o ∈ (Q2 (Qi B p)).toList := by rw [← Array.getElem?_toList] at ho; exact List.mem_of_getElem? ho
        have := hok.1 d (List.mem_filterMap.2 ⟨o, hmem, hdo⟩)
        exact Nat.ble_eq_true_of_le (Nat.succ_le_of_lt this)
    have same : ∀ (a' : Act) (ρ'' : Fr) (v : Value), FA n ρ'' a' → ρ'' = Rh (G8 a) (D0 (Q2 (Qi B p)) i) v → a' = a.put o.dst v ∧ G8 (a.put o.dst v) = Rh (G8 a) (D0 (Q2 (Qi B p)) i) v := by
      intro a' ρ'' v ha'' hρ
      rw [hdst] at hρ ⊢
      subst hρ
      have hput := ha.putO hdok v
      refine ⟨?_, funext fun t => hput.get t⟩
      have ht : a'.tmps = (a.put o.dst v).tmps := by
        apply Array.ext_getElem?
        intro t
        have h1 := ha''.get t
        have h2 := hput.get t
        rcases Nat.lt_or_ge t n with hlt | hge
        · have s1 : t < a'.tmps.size := by rw [ha''.size]; exact hlt
          have s2 : t < (a.put o.dst v).tmps.size := by rw [hput.size]; exact hlt
          rw [Array.getElem?_eq_getElem s1, Array.getElem?_eq_getElem s2]
          simp only [Array.getD_eq_getD_getElem?, Array.getElem?_eq_getElem s1, Array.getElem?_eq_getElem s2, Option.getD_some] at h1 h2
          rw [h1, h2]
        · rw [Array.getElem?_eq_none (by rw [ha''.size]; exact hge), Array.getElem?_eq_none (by rw [hput.size]; exact hge)]
      have hdd : a'.defers = (a.put o.dst v).defers := ha''.defers.trans hput.defers.symm
      cases a'
      cases hq : a.put o.dst v
      rw [hq] at ht hdd
      simp only at ht hdd
      rw [ht, hdd]
    rcases obs_get hobs i hlt with ⟨hh, howe⟩ | ⟨hh, ss, hs, howe⟩ | ⟨hh, ss, hs, howe⟩
    · refine wpOp_mono ?_ (howe (G8 a) w' (hstillI i a hst) hfacts a ha _)
      rintro a' w'' ⟨ρ'', ha'', hw, v, hρ, hG⟩
      exact ⟨v, (same a' ρ'' v ha'' hρ).1, hG, .inl ⟨hh, hw⟩⟩
    · refine wpOp_mono ?_ (howe k (Lp hs (hmask k hk) hcan) (G8 a) w' (hstillI i a hst) hfacts hstage a ha _)
      rintro a' w'' ⟨ρ'', ha'', hw, v, hρ, hG⟩
      exact ⟨v, (same a' ρ'' v ha'' hρ).1, hG, .inl ⟨hh, hw⟩⟩
    · obtain ⟨kk, hkm, hke⟩ := List.mem_map.1 (Lp hs (hmask k hk) hcan)
      have hke' : kk.1 = k := hke
      obtain ⟨hk'lt0, hM, howe'⟩ := howe kk hkm
      have hk'lt : kk.2 < S.length := Nat.le_of_ble_eq_true hk'lt0
      rw [hke'] at howe' hM
      refine wpOp_mono ?_ (howe' (G8 a) w' (hstillI i a hst) hfacts hstage a ha _)
      rintro a' w'' ⟨ρ'', ha'', v, hρ, hG, hP⟩
      obtain ⟨e1, e2⟩ := same a' ρ'' v ha'' hρ
      rw [← e2] at hP
      exact ⟨v, e1, hG, .inr ⟨kk.2, hh, hk'lt, hM, hP⟩⟩
  · intro k a w' hk hall hdf hsz hst hfacts hstage
    have ha : FA n (G8 a) a := fa_of (hdf.trans hd0) (hsz.trans hsz0)
    have hkl : k = last := by
      rw [List.all_eq_true] at hlast
      have := hlast ((Nq S k).1, k) (by rw [List.mem_iff_getElem?]; exact ⟨k, by rw [List.getElem?_zipIdx, hmask k hk]; simp⟩)
      simp only [Bool.or_eq_true, List.any_eq_true, Bool.and_eq_true, Bool.not_eq_true', List.mem_range] at this
      rcases this with h1 | ⟨i, hi, h1, h2⟩
      · exact Nat.eq_of_beq_eq_true h1
      · have := C9.2 (hall i (by rw [hN]; exact hi) h1)
        rw [this] at h2
        cases h2
    rw [hkl] at hstage
    refine ⟨_, ha, hend _ w' (hstill a hst) (fun j d hjd => ?_) hstage⟩
    unfold Pm at hjd
    cases hj : (Q2 (Qi B p))[j]? with
    | none => rw [hj] at hjd; cases hjd
    | some q =>
      rw [hj] at hjd
      simp only at hjd
      cases hq : q.dst with
      | none => rw [hq] at hjd; cases hjd
      | some x =>
        rw [hq] at hjd
        have hx : x = d := Nat.eq_of_beq_eq_true hjd
        subst hx
        exact hfacts j q x hj hq
  · simp [List.filter_replicate]
  · refine ⟨by simp, rfl, rfl, fun _ _ => rfl, ?_, fun _ _ _ _ _ _ => rfl, ?_, 0, h0.2, fun h _ => ?_, fun h hh => ?_, ?_⟩
    · intro j hj
      exfalso
      unfold Rb at hj
      simp only [Array.getD_eq_getD_getElem?, Array.getElem?_replicate] at hj
      split at hj <;> simp at hj
    · intro j q d hq hj _
      exfalso
      unfold Rb at hj
      simp only [Array.getD_eq_getD_getElem?, Array.getElem?_replicate] at hj
      split at hj <;> simp at hj
    · rw [h0.1]
      unfold Rb
      simp only [Array.getD_eq_getD_getElem?, Array.getElem?_replicate]
      constructor
      · intro hj; split at hj <;> simp at hj
      · intro hj; simp at hj
    · rw [h0.1] at hh; simp at hh
    · rw [h0.1]; exact hS
def GElem (A : Option Addr) (sz : Nat) (iz : Int) (j : Nat) : Value → Prop := fun v => ∃ b off : Nat, A = some ⟨b, off, none⟩ ∧ v = .pointer (some ⟨b, off + iz.toNat * sz + j, none⟩)
def Zt (A : Option Addr) (sz : Nat) (iz : Int) : Value → Prop := fun v => ∃ b off : Nat, A = some ⟨b, off, none⟩ ∧ v = .pointer (some ⟨b, off + iz.toNat * sz, none⟩)
theorem Qh {α : Type} {e : Enc α} {w : World} {A : Option Addr} {c b off : Nat} {l : List α} {iz : Int} (hr : RdT e w A c l) (hA : A = some ⟨b, off, none⟩) (h0 : 0 ≤ iz) (h1 : iz < (l.length : Int)) :
    ∀ j u, (Vm e l)[j]? = some u → w.cell? ⟨b, off + j, none⟩ = some u := by
  obtain ⟨_, _, _, h4⟩ := hr
  obtain ⟨b', off', hA', hb, hc⟩ := h4 (by omega)
  rw [hA] at hA'
  injection hA' with hA'
  injection hA' with e1 e2 _
  subst e1 e2
  exact hc
theorem Vd {α : Type} {e : Enc α} {l : List α} {x : α} {b off : Nat} {iz : Int} {xs : List Value} {w : World} (hc : ∀ j u, (Vm e l)[j]? = some u → w.cell? ⟨b, off + j, none⟩ = some u) (hx : l[iz.toNat]? = some x) (hxs : (e.enc x).take xs.length = xs) :
    ∀ j u, xs[j]? = some u → w.cell? ⟨b, off + iz.toNat * e.sz + j, none⟩ = some u := by
  intro j u hu
  refine Ql hc hx ?_
  rw [← hxs, List.getElem?_take] at hu
  split at hu
  · exact hu
  · cases hu
theorem Qr {ops : Array Oper} {ρ : Fr} {h d : Nat} (hd : D0 ops h = some d) : M4 ops ρ h = ρ d := by unfold M4; rw [hd]
theorem cut_rd {α : Type} {e : Enc α} {A : Option Addr} {c : Nat} {l m : List α} {i j : Int} (h0 : 0 ≤ i) (h1 : i ≤ j) (h2 : j ≤ (l.length : Int)) (hm : List.drop i.toNat (List.take j.toNat l) = m) (w1 : World) (hr : RdT e w1 A c l) : RdT e w1 (K3 e.sz c i.toNat A) (c - i.toNat) m := by
  subst hm
  exact RdT.part hr (by omega) (by omega)
theorem Ea {α : Type} {e : Enc α} {A : Option Addr} {c : Nat} {l m : List α} {k : Nat} {d : Option Nat} {K : Fr → World → Prop} {T E : TypeId} {x : Operand} {lo hi : Option Operand} {i j : Int} (ho : Bl (Qi B p) k ρ = some (.slice T x lo hi none, d)) (hd : Jn n d = true)
    (hx : opv ρ x = .slice A l.length c) (hT : P.underlying T = some (.slice E)) (hE : (P.info? E).map (·.size) = some e.sz) (hlo : Io ρ lo i 0) (hhi : Io ρ hi j l.length) (hc : l.length ≤ c)
    (h0 : 0 ≤ i) (h1 : i ≤ j) (h2 : j ≤ (l.length : Int)) (hm : List.drop i.toNat (List.take j.toNat l) = m)
    (next : K (Rh ρ d (.slice (K3 e.sz c i.toNat A) m.length (c - i.toNat))) w) : Qx P n B p k K ρ w := by
  refine Qx.slice (e := e) ho hd hx hT hE hlo hhi hc h0 h1 h2 ?_
  intro A' c' hA hcc _
  subst hA hcc hm
  exact next
def SrcG1 (ops : Array Oper) (i : Nat) (l : List (Value → Prop)) (ρ : Fr) (t : Nat) (v : Value) : Prop :=
  (oldB ops i t = true ∧ ρ t = v) ∨ ∃ j, Hj ops i j t = true ∧ Gl l j = GEq v
def SrcG (ops : Array Oper) (i : Nat) (l : List (Value → Prop)) (ρ : Fr) : List (Nat × Value) → Prop
  | [] => True
  | x :: r => SrcG1 ops i l ρ x.1 x.2 ∧ SrcG ops i l ρ r
theorem H6 {ops : Array Oper} {i : Nat} {l : List (Value → Prop)} {ρ ρ' : Fr} (hs : Kj ops i ρ ρ') (ha : Pn ops l i ρ') :
    ∀ src : List (Nat × Value), SrcG ops i l ρ src → Vq ρ' src
  | [], _ => trivial
  | x :: r, h => by
    refine ⟨?_, H6 hs ha r h.2⟩
    rcases h.1 with ⟨h1, h2⟩ | ⟨j, h1, h2⟩
    · exact (hs _ h1).trans h2
    · have := ha j x.1 h1
      rw [h2] at this
      exact this
theorem Owe.run {l : List (Value → Prop)} {hv : List Nat} {S : List Stg} {i : Nat} (hh : Ey i hv = false) (src : List (Nat × Value)) (hsrc : SrcG (Q2 (Qi B p)) i l ρ src) (v : Value)
    (h : ∀ (ρ' : Fr) (w' : World), Dz P n (Q2 (Qi B p)) (((Q2 (Qi B p)).toList.drop i).take 1) (I7 ρ' src) w' = some (Rh (I7 ρ' src) (D0 (Q2 (Qi B p)) i) v, w')) (hR : Gl l i v) : Owe P n B p ρ l hv S i := by
  refine .pure hh fun ρ' w' hs hah => ?_
  have hkn := H6 hs hah src hsrc
  refine Qx.known src hkn ?_
  exact Qx.run (h ρ' w') ⟨rfl, v, Qa hkn, hR⟩
theorem Owe.skip {l : List (Value → Prop)} {hv : List Nat} {S : List Stg} {i : Nat} (hh : Ey i hv = false) (src : List (Nat × Value)) (hsrc : SrcG (Q2 (Qi B p)) i l ρ src) (d : Option Nat)
    (h : ∀ (ρ' : Fr), (Q2 (Qi B p))[i]?.map (fun o => (Bm (Q2 (Qi B p)) (I7 ρ' src) o, o.dst)) = some (false, d)) (hd : Jn n d = true) (hR : Gl l i undef) : Owe P n B p ρ l hv S i := by
  refine .pure hh fun ρ' w' hs hah => ?_
  have hkn := H6 hs hah src hsrc
  have hdd : D0 (Q2 (Qi B p)) i = d := by
    have := h ρ'
    unfold D0
    cases ho : (Q2 (Qi B p))[i]? with
    | none => rw [ho] at this; cases this
    | some o => rw [ho] at this; simp only [Option.map_some, Option.some.injEq, Prod.mk.injEq] at this; exact this.2
  refine Qx.known src hkn ?_
  exact Sm (h ρ') hd ⟨rfl, undef, by rw [hdd]; exact Qa hkn, hR⟩
theorem Qq {α : Type} {Φ : α → Prop} : ∀ k ∈ ([] : List α), Φ k := fun _ h => by simp at h
theorem Qc {α : Type} {Φ : α → Prop} {x : α} {l : List α} (h : Φ x) (t : ∀ k ∈ l, Φ k) : ∀ k ∈ x :: l, Φ k := fun k hk => by
  rcases List.mem_cons.1 hk with rfl | hk
  · exact h
  · exact t k hk
end
section
variable {P : Program} {n : Nat} {B : Code} {q : List Bool} {Q : Im} {ρ : Fr} {w : World}
theorem aQ (k : At P n B (false :: q).reverse (K7 (At P n B (true :: q).reverse Q) Q) ρ w) (h : Ri 1 (Qi B q.reverse) = true := by kernel_rfl) : At P n B q.reverse Q ρ w := At.sq h k
end
section
variable {P : Program} {n : Nat} {B : Code} {p : List Bool} {Q : Im} {ρ : Fr} {w w0 : World} {k : Nat} {K : Fr → World → Prop} {S : List Nat} {es : List Ent}
theorem aR (h : In P n B p 0 Q ρ w) (h1 : Ri 5 (Qi B p) = true := by kernel_rfl) (h2 : Fn (Qi B p) = false := by kernel_rfl) : At P n B p Q ρ w := At.region h1 h2 h
theorem iF (h : Q .normal ρ w) (hk : (Q2 (Qi B p)).size = k := by kernel_rfl) : In P n B p k Q ρ w := In.fin hk h
theorem iS (k' : Nat) (h : Qx P n B p k (In P n B p k' Q) ρ w) (hk : k' = k + 1 := by exact rfl) (hs : Nat.blt k (Q2 (Qi B p)).size = true := by kernel_rfl) : In P n B p k Q ρ w := In.step hk hs h
theorem iR (m k' : Nat) (l : List (Nat × Value)) (h : In P n B p k' Q (I7 ρ l) w) (hk : k' = k + m := by exact rfl)
    (h1 : Dz P n (Q2 (Qi B p)) (((Q2 (Qi B p)).toList.drop k).take m) ρ w = some (I7 ρ l, w) := by kernel_rfl) : In P n B p k Q ρ w := In.run' m hk l h1 h
theorem kN (l : List (Nat × Value)) (h : Vq ρ l) (next : Vq ρ l → Qx P n B p k K (I7 ρ l) w) : Qx P n B p k K ρ w := Qx.known l h (next h)
theorem eK {l : List (Nat × Value)} {L : List (Value → Prop)} {i : Nat} {d d' : Option Nat} {v : Value} (h : Vq ρ l) (hd : d' = d := by kernel_rfl) (hG : Gl L i v := by exact rfl) : w = w ∧ ∃ v', Rh (I7 ρ l) d v = Rh ρ d' v' ∧ Gl L i v' := by
  subst hd
  exact ⟨rfl, v, Qa h, hG⟩
theorem oL {l : List (Value → Prop)} {hv : List Nat} {S : List Stg} {i : Nat} (a : Nat) (h : OwesL P n B p ρ l (Nq S a) i) (hh : Ey i hv = false := by kernel_rfl)
    (hs : Fp (Q2 (Qi B p)) hv (S.map (·.1)) i [a] = true := by kernel_rfl) : Owe P n B p ρ l hv S i := .light hh [a] hs (Qc h Qq)
theorem oH {l : List (Value → Prop)} {hv : List Nat} {S : List Stg} {i : Nat} (a b : Nat) (h : ∀ (ρ' : Fr) (w' : World), Kj (Q2 (Qi B p)) i ρ ρ' → Pn (Q2 (Qi B p)) l i ρ' → (Nq S a).2 ((Nq S a).1.map (M4 (Q2 (Qi B p)) ρ')) w' →
      Qx P n B p i (fun ρ'' w'' => ∃ v, ρ'' = Rh ρ' (D0 (Q2 (Qi B p)) i) v ∧ Gl l i v ∧ (Nq S b).2 ((Nq S b).1.map (M4 (Q2 (Qi B p)) (Rh ρ' (D0 (Q2 (Qi B p)) i) v))) w'') ρ' w')
    (hh : Ey i hv = true := by kernel_rfl) (hs : Fp (Q2 (Qi B p)) hv (S.map (·.1)) i [a] = true := by kernel_rfl) (hb : Nat.blt b S.length = true := by kernel_rfl) (hi : (Nq S b).1 = insN i (Nq S a).1 := by kernel_rfl) : Owe P n B p ρ l hv S i :=
  .heavy hh [(a, b)] hs (Qc ⟨hb, hi, h⟩ Qq)
theorem sL {t' : TypeId} {cs : Array Value} (t x g off i : Nat) (v : Value) (d : Nat) (hs : SP S w0 w es) (hi : es[i]? = some (Qs g t' cs)) (next : K (Rh ρ (some d) v) w) (ho : Bl (Qi B p) k ρ = some (.load t (.tmp x), some d) := by kernel_rfl)
    (hd : Jn n (some d) = true := by exact rfl) (hv : opv ρ (.tmp x) = .pointer (some ⟨g, off, none⟩) := by kernel_rfl) (hl : K9 P t off cs = some v := by kernel_rfl) : Qx P n B p k K ρ w := Qx.load ho hd hv hs hi hl next
theorem sC (t x b off : Nat) (v : Value) (d : Nat) (hc : w.cell? ⟨b, off, none⟩ = some v) (next : K (Rh ρ (some d) v) w) (ho : Bl (Qi B p) k ρ = some (.load t (.tmp x), some d) := by kernel_rfl)
    (hd : Jn n (some d) = true := by exact rfl) (hx : opv ρ (.tmp x) = .pointer (some ⟨b, off, none⟩) := by kernel_rfl) (ht : (P.underlying t).map aggD = some false := by kernel_rfl) : Qx P n B p k K ρ w := Qx.cell ho hd hx ht hc next
theorem cF {args : List Value} {R : Ending → World → Prop} (f : FuncId) (xs : Array Operand) (tys : Array TypeId) (d : Nat) (hcf : ∀ (args : Array Value) (w : World), (callFunc f args).run P w = .ok (.enter f args) w) (hc : Calls P f args.toArray w R)
    (next : ∀ e w', R e w' → ∃ v, e = .returned v ∧ K (Rh ρ (some d) v) w') (ho : Bl (Qi B p) k ρ = some (.call { callee := .value (.func f), args := xs, argTypes := tys }, some d) := by kernel_rfl) (hd : Jn n (some d) = true := by exact rfl)
    (hf : opv ρ (.func f) = .func (.func f) #[] #[] := by kernel_rfl) (hargs : (#[] : Array Value).toList ++ xs.toList.map (opv ρ) ++ (#[] : Array Value).toList = args := by kernel_rfl) : Qx P n B p k K ρ w := Uo ho hd hf hargs hcf hc next
theorem kc {ρ : Fr} {t : Nat} {v : Value} {r : List (Nat × Value)} (h : ρ t = v) (h2 : Vq ρ r) : Vq ρ ((t, v) :: r) := ⟨h, h2⟩
theorem k0 {ρ : Fr} : Vq ρ [] := trivial
theorem kM {l : List (Nat × Value)} (h : Vq ρ l) (next : Vq ρ l → Qx P n B p k K (I7 ρ l) w) : Qx P n B p k K ρ w := Qx.known l h (next h)
theorem kA {ops : Array Oper} {l : List (Value → Prop)} {i : Nat} {ρ' : Fr} {v : Value} (hah : Pn ops l i ρ') (j t : Nat) (e : Gl l j = GEq v := by exact rfl) (h : Hj ops i j t = true := by kernel_rfl) : ρ' t = v := by
  have := hah j t h
  rw [e] at this
  exact this
theorem kS {ops : Array Oper} {i : Nat} {ρ ρ' : Fr} (hs : Kj ops i ρ ρ') (t : Nat) (v : Value) (h : oldB ops i t = true := by kernel_rfl) (e : ρ t = v := by kernel_rfl) : ρ' t = v := (hs t h).trans e
theorem hS {ops : Array Oper} {i : Nat} {l : List (Value → Prop)} {ρ : Fr} (t : Nat) (v : Value) (h : oldB ops i t = true := by kernel_rfl) (e : ρ t = v := by kernel_rfl) : SrcG1 ops i l ρ t v := .inl ⟨h, e⟩
theorem hA {ops : Array Oper} {i : Nat} {l : List (Value → Prop)} {ρ : Fr} {v : Value} (j t : Nat) (e : Gl l j = GEq v := by exact rfl) (h : Hj ops i j t = true := by kernel_rfl) : SrcG1 ops i l ρ t v := .inr ⟨j, h, e⟩
theorem hB {ops : Array Oper} {i : Nat} {l : List (Value → Prop)} {ρ : Fr} {u b : Bool} (j t : Nat) (hb : u = b) (e : Gl l j = GEq (.bool u) := by exact rfl) (h : Hj ops i j t = true := by kernel_rfl) : SrcG1 ops i l ρ t (.bool b) := .inr ⟨j, h, by rw [e, hb]⟩
theorem hC {ops : Array Oper} {i : Nat} {l : List (Value → Prop)} {ρ : Fr} {t : Nat} {v : Value} {r : List (Nat × Value)} (h : SrcG1 ops i l ρ t v) (h2 : SrcG ops i l ρ r) : SrcG ops i l ρ ((t, v) :: r) := ⟨h, h2⟩
theorem h0 {ops : Array Oper} {i : Nat} {l : List (Value → Prop)} {ρ : Fr} : SrcG ops i l ρ [] := trivial
theorem oU {l : List (Value → Prop)} {hv : List Nat} {S : List Stg} {i : Nat} {src : List (Nat × Value)} {v : Value} (hsrc : SrcG (Q2 (Qi B p)) i l ρ src) (hR : Gl l i v := by exact rfl) (hh : Ey i hv = false := by kernel_rfl)
    (h : ∀ (ρ' : Fr) (w' : World), Dz P n (Q2 (Qi B p)) (((Q2 (Qi B p)).toList.drop i).take 1) (I7 ρ' src) w' = some (Rh (I7 ρ' src) (D0 (Q2 (Qi B p)) i) v, w') := by intro _ _; kernel_rfl) : Owe P n B p ρ l hv S i := Owe.run hh src hsrc v h hR
abbrev tG (S : List Nat) (w0 : World) (ens : List Ent) (l : List (List Nat × List Value)) : List Stg := l.map fun x => (x.1, fun vs w => VL vs x.2 ∧ SP S w0 w ens)
abbrev sG (i : List Nat) (v : List Value) (S : List Nat) (w0 : World) (ens : List Ent) : Stg := (i, fun vs w => VL vs v ∧ SP S w0 w ens)
theorem aG (l : List (Value → Prop)) (hv : List Nat) (S : List Stg) (N last : Nat) (hS : (Nq S 0).2 [] w.drew) (hobs : Obs N (Owe P n B p ρ l hv S))
    (hend : ∀ (ρ' : Fr) (w' : World), (∀ t, Fe (Q2 (Qi B p)) t = true → ρ' t = ρ t) → (∀ j d, Pm (Q2 (Qi B p)) j d = true → Gl l j (ρ' d)) → (Nq S last).2 ((Nq S last).1.map (M4 (Q2 (Qi B p)) ρ')) w' → Q .normal ρ' w')
    (h : Ri 5 (Qi B p) = true := by kernel_rfl) (hd : Fn (Qi B p) = true := by kernel_rfl) (hm : P.follows .mixedOrders = true := by kernel_rfl) (hok : Ln (Q2 (Qi B p)) n = true := by kernel_rfl) (he : Ma (Q2 (Qi B p)) = true := by kernel_rfl)
    (hN : (Q2 (Qi B p)).size = N := by kernel_rfl) (h0 : (Nq S 0).1 = [] := by kernel_rfl) (h1 : Nat.blt 0 S.length = true := by kernel_rfl)
    (hlast : (S.map (·.1)).zipIdx.all (fun x => Nat.beq x.2 last || (List.range N).any (fun i => Ey i hv && !Ey i x.1)) = true := by kernel_rfl) : At P n B p Q ρ w :=
  At.stages h hd hm hok he l hv S hN ⟨h0, Nat.le_of_ble_eq_true h1⟩ hS hobs hlast hend
end
abbrev iv (x : Int) : Value := .int .i64 x
abbrev sv (x : List UInt8) : Value := .string ⟨List.toArray x⟩
abbrev bv (b : Bool) : Value := .bool b
abbrev lv {α : Type} (A : Option Addr) (l : List α) (c : Nat) : Value := .slice A (List.length l) c
abbrev ln {α : Type} (l : List α) : Int := ((List.length l : Nat) : Int)
abbrev Bs := List UInt8
abbrev Tk := List UInt8 × List UInt8 × Int
def uN : Nat → Nat → List (Nat × Value) → List (Nat × Value)
  | _, 0, l => l
  | a, n + 1, l => (a, undef) :: uN (a + 1) n l
theorem eb {x : Value} {u b : Bool} (h : x = .bool u) (hb : u = b) : x = .bool b := by rw [h, hb]
section
variable {P : Program} {n : Nat} {B : Code} {q : List Bool} {Q : Im} {ρ : Fr} {w : World}
theorem aC (h : In P n B (false :: q).reverse 0 (K7 (At P n B (true :: q).reverse Q) Q) ρ w) (ht : Ri 1 (Qi B q.reverse) = true := by kernel_rfl) (h1 : Ri 5 (Qi B (false :: q).reverse) = true := by kernel_rfl) (h2 : Fn (Qi B (false :: q).reverse) = false := by kernel_rfl) : At P n B q.reverse Q ρ w := aQ (aR h h1 h2) ht
theorem cD {β : Type} {x y : Option β} {r : β} {b : Bool} (t : Nat) (H : cond b x y = some r) (k0 : x = some r → At P n B (false :: q).reverse Q ρ w) (k1 : y = some r → At P n B (true :: q).reverse Q ρ w)
    (h : Ri 2 (Qi B q.reverse) = true := by kernel_rfl) (ho : Mx (Qi B q.reverse) = .tmp t := by kernel_rfl) (hb : opv ρ (.tmp t) = .bool b := by kernel_rfl) : At P n B q.reverse Q ρ w := At.cd h ho hb (fun e => k0 (ct H e)) fun e => k1 (cf H e)
end
section
variable {P : Program} {n : Nat} {B : Code} {p : List Bool} {Q : Im} {ρ : Fr} {w w0 : World} {k : Nat} {K : Fr → World → Prop} {S : List Nat} {es : List Ent}
theorem gD {β : Type} {x y : Option β} {r : β} {b : Bool} (t : Nat) (H : cond b x y = some r) (h1 : x = some r → In P n B p k Q (upd ρ t (.bool true)) w) (h2 : y = some r → In P n B p k Q (upd ρ t (.bool false)) w) (h : ρ t = .bool b := by kernel_rfl) : In P n B p k Q ρ w := In.guard h (fun e => h1 (ct H e)) fun e => h2 (cf H e)
theorem cS {args : List Value} {v : Value} {es2 : List Ent} (hs : SP S w0 w es) (f : FuncId) (xs : Array Operand) (tys : Array TypeId) (d : Nat) (hcf : ∀ (args : Array Value) (w : World), (callFunc f args).run P w = .ok (.enter f args) w) (hc : Calls P f args.toArray w fun e w' => e = .returned v ∧ SP [] w w' es2)
    (next : ∀ w' : World, SP S w0 w' (es ++ es2) → K (Rh ρ (some d) v) w') (ho : Bl (Qi B p) k ρ = some (.call { callee := .value (.func f), args := xs, argTypes := tys }, some d) := by kernel_rfl) (hd : Jn n (some d) = true := by exact rfl)
    (hf : opv ρ (.func f) = .func (.func f) #[] #[] := by kernel_rfl) (hargs : (#[] : Array Value).toList ++ xs.toList.map (opv ρ) ++ (#[] : Array Value).toList = args := by kernel_rfl) : Qx P n B p k K ρ w := Uo ho hd hf hargs hcf hc fun _ w' h => ⟨v, h.1, next w' (SP.call hs h.2)⟩
theorem oY {l : List (Value → Prop)} {hv : List Nat} {S : List Stg} {i : Nat} {src : List (Nat × Value)} (hsrc : SrcG (Q2 (Qi B p)) i l ρ src) (hR : Gl l i undef := by exact rfl) (hh : Ey i hv = false := by kernel_rfl)
    (h : ∀ (ρ' : Fr), (Q2 (Qi B p))[i]?.map (fun o => Bm (Q2 (Qi B p)) (I7 ρ' src) o) = some false := by intro _; kernel_rfl) (hd : Jn n (D0 (Q2 (Qi B p)) i) = true := by kernel_rfl) : Owe P n B p ρ l hv S i :=
  Owe.skip hh src hsrc (D0 (Q2 (Qi B p)) i) (fun ρ' => by
    have h2 := h ρ'
    unfold D0
    cases hg : (Q2 (Qi B p))[i]? with
    | none => rw [hg] at h2; cases h2
    | some o => rw [hg] at h2; injection h2 with h2; exact congrArg (fun b => some (b, o.dst)) (show Bm (Q2 (Qi B p)) (I7 ρ' src) o = false from h2)) hd hR
end
theorem kF {ops : Array Oper} {l : List (Value → Prop)} {ρ' : Fr} {v : Value} (hf : ∀ j d, Pm ops j d = true → Gl l j (ρ' d)) (j t : Nat) (e : Gl l j = GEq v := by exact rfl) (h : Pm ops j t = true := by kernel_rfl) : ρ' t = v := by
  have := hf j t h
  rw [e] at this
  exact this
theorem kT {ops : Array Oper} {ρ ρ' : Fr} (hs : ∀ t, Fe ops t = true → ρ' t = ρ t) (t : Nat) (v : Value) (h : Fe ops t = true := by kernel_rfl) (e : ρ t = v := by kernel_rfl) : ρ' t = v := (hs t h).trans e
theorem ai {a b : Prop} (h1 : a) (h2 : b) : a ∧ b := ⟨h1, h2⟩
theorem ei {α : Sort _} {p : α → Prop} (x : α) (h : p x) : ∃ x, p x := ⟨x, h⟩
section
variable {P : Program} {n : Nat} {B : Code} {p : List Bool} {Q : Im} {ρ : Fr} {w w0 : World} {k : Nat} {K : Fr → World → Prop} {S : List Nat} {es : List Ent}
theorem zE {α : Type} (e : Enc α) (l : List α) (A : Option Addr) (c : Nat) (T E : TypeId) (x ix : Operand) (iz : Int) (d : Nat) (hr : RdT e w A c l) (h0 : 0 ≤ iz) (h1 : iz < (l.length : Int))
    (next : ∀ b off : Nat, A = some ⟨b, off, none⟩ → b < w.heap.size → (∀ j u, (Vm e l)[j]? = some u → w.cell? ⟨b, off + j, none⟩ = some u) → K (Rh ρ (some d) (.pointer (some ⟨b, off + iz.toNat * e.sz, none⟩))) w)
    (ho : Bl (Qi B p) k ρ = some (.indexAddr T x ix, some d) := by kernel_rfl) (hd : Jn n (some d) = true := by exact rfl) (hx : opv ρ x = .slice A l.length c := by kernel_rfl) (hix : opv ρ ix = .int .i64 iz := by kernel_rfl) (hT : P.underlying T = some (.slice E) := by kernel_rfl) (hE : (P.info? E).map (·.size) = some e.sz := by kernel_rfl) : Qx P n B p k K ρ w :=
  Kh ho hd hx hix hT hE hr h0 h1 next
theorem zO (T : TypeId) (x y : Operand) (a b : List UInt8) (d : Nat) (next : K (Rh ρ (some d) (.bool (a == b))) w) (ho : Bl (Qi B p) k ρ = some (.binOp .eql T x y T, some d) := by kernel_rfl) (hd : Jn n (some d) = true := by exact rfl)
    (hx : opv ρ x = .string ⟨a.toArray⟩ := by kernel_rfl) (hy : opv ρ y = .string ⟨b.toArray⟩ := by kernel_rfl) : Qx P n B p k K ρ w := U7 (op := .eql) ho hd hx hy rfl next
theorem zT {t' : TypeId} {cs : Array Value} (t : TypeId) (x y : Operand) (g off i : Nat) (v : Value) (cs' : Array Value) (d : Option Nat) (hs : SP S w0 w es) (next : ∀ w' : World, SP S w0 w' (es.set i (Qs g t' cs')) → K (Rh ρ d undef) w') (hi : es[i]? = some (Qs g t' cs) := by exact rfl)
    (ho : Bl (Qi B p) k ρ = some (.store t x y, d) := by kernel_rfl) (hd : Jn n d = true := by exact rfl) (hx : opv ρ x = .pointer (some ⟨g, off, none⟩) := by kernel_rfl) (hy : opv ρ y = v := by kernel_rfl) (hl : Sn P t off cs v = some cs' := by kernel_rfl) : Qx P n B p k K ρ w := Qx.store ho hd hx hy hs hi hl next
theorem zN {α : Type} (e : Enc α) (T E : TypeId) (len : Nat) (parts : Array (Nat × Operand)) (cs : Array Value) (l : List α) (d : Nat) (hs : SP S w0 w es) (next : ∀ (g : Nat) (w' : World), SP S w0 w' (es ++ [Vh E e (some ⟨g, 0, none⟩) l.length l]) → K (Rh ρ (some d) (.slice (some ⟨g, 0, none⟩) l.length l.length)) w')
    (ho : Bl (Qi B p) k ρ = some (.buildSlice T len parts, some d) := by kernel_rfl) (hd : Jn n (some d) = true := by exact rfl) (hb : ∀ w : World, (Instr.buildSlice T len (parts.map fun (i, x) => (i, opv ρ x))).run P w = .ok (.slice (some ⟨w.heap.size, 0, none⟩) len len) (w.alloc (.cells cs E)) := by intro _; kernel_rfl)
    (hc : cs.toList = Vm e l := by exact rfl) (hl : l.length = len := by exact rfl) (hm : Nat.ble l.length 2147483648 = true := by exact rfl) (hz : Nat.ble 1 e.sz = true := by exact rfl) : Qx P n B p k K ρ w := Di l ho hd hb hs hc hl hm hz next
theorem zB (t : TypeId) (x : Operand) (v : Value) (d : Nat) (hs : SP S w0 w es) (next : ∀ (g : Nat) (w' : World), SP S w0 w' (es ++ [Qs g t v.cells]) → K (Rh ρ (some d) (.pointer (some ⟨g, 0, none⟩))) w') (ho : Bl (Qi B p) k ρ = some (.box t x, some d) := by kernel_rfl) (hd : Jn n (some d) = true := by exact rfl) (hv : opv ρ x = v := by kernel_rfl) : Qx P n B p k K ρ w := Qx.box ho hd hv hs next
theorem zA (t : TypeId) (z : Value) (d : Nat) (hs : SP S w0 w es) (next : ∀ (g : Nat) (w' : World), SP S w0 w' (es ++ [Qs g t z.cells]) → K (Rh ρ (some d) (.pointer (some ⟨g, 0, none⟩))) w') (ho : Bl (Qi B p) k ρ = some (.alloc t, some d) := by kernel_rfl) (hd : Jn n (some d) = true := by exact rfl) (hz : (P.info? t).bind (·.zero) = some z := by kernel_rfl) : Qx P n B p k K ρ w := Qx.alloc ho hd hz hs next
theorem jL {t' : TypeId} {cs : Array Value} (k' t x g off i : Nat) (v : Value) (d : Nat) (hs : SP S w0 w es) (hi : es[i]? = some (Qs g t' cs)) (next : In P n B p k' Q (Rh ρ (some d) v) w) (hk : k' = k + 1 := by exact rfl) (hz : Nat.blt k (Q2 (Qi B p)).size = true := by kernel_rfl) (ho : Bl (Qi B p) k ρ = some (.load t (.tmp x), some d) := by kernel_rfl)
    (hd : Jn n (some d) = true := by exact rfl) (hv : opv ρ (.tmp x) = .pointer (some ⟨g, off, none⟩) := by kernel_rfl) (hl : K9 P t off cs = some v := by kernel_rfl) : In P n B p k Q ρ w := In.step hk hz (Qx.load ho hd hv hs hi hl next)
theorem jX (k' t x b off : Nat) (v : Value) (d : Nat) (hc : w.cell? ⟨b, off, none⟩ = some v) (next : In P n B p k' Q (Rh ρ (some d) v) w) (hk : k' = k + 1 := by exact rfl) (hz : Nat.blt k (Q2 (Qi B p)).size = true := by kernel_rfl) (ho : Bl (Qi B p) k ρ = some (.load t (.tmp x), some d) := by kernel_rfl)
    (hd : Jn n (some d) = true := by exact rfl) (hx : opv ρ (.tmp x) = .pointer (some ⟨b, off, none⟩) := by kernel_rfl) (ht : (P.underlying t).map aggD = some false := by kernel_rfl) : In P n B p k Q ρ w := In.step hk hz (Qx.cell ho hd hx ht hc next)
theorem jE {α : Type} (k' : Nat) (e : Enc α) (l : List α) (A : Option Addr) (c : Nat) (T E : TypeId) (x ix : Operand) (iz : Int) (d : Nat) (hr : RdT e w A c l) (h0 : 0 ≤ iz) (h1 : iz < (l.length : Int))
    (next : ∀ b off : Nat, A = some ⟨b, off, none⟩ → b < w.heap.size → (∀ j u, (Vm e l)[j]? = some u → w.cell? ⟨b, off + j, none⟩ = some u) → In P n B p k' Q (Rh ρ (some d) (.pointer (some ⟨b, off + iz.toNat * e.sz, none⟩))) w) (hk : k' = k + 1 := by exact rfl) (hz : Nat.blt k (Q2 (Qi B p)).size = true := by kernel_rfl)
    (ho : Bl (Qi B p) k ρ = some (.indexAddr T x ix, some d) := by kernel_rfl) (hd : Jn n (some d) = true := by exact rfl) (hx : opv ρ x = .slice A l.length c := by kernel_rfl) (hix : opv ρ ix = .int .i64 iz := by kernel_rfl) (hT : P.underlying T = some (.slice E) := by kernel_rfl) (hE : (P.info? E).map (·.size) = some e.sz := by kernel_rfl) : In P n B p k Q ρ w :=
  In.step hk hz (Kh ho hd hx hix hT hE hr h0 h1 next)
theorem jO (k' : Nat) (T : TypeId) (x y : Operand) (a b : List UInt8) (d : Nat) (next : In P n B p k' Q (Rh ρ (some d) (.bool (a == b))) w) (hk : k' = k + 1 := by exact rfl) (hz : Nat.blt k (Q2 (Qi B p)).size = true := by kernel_rfl) (ho : Bl (Qi B p) k ρ = some (.binOp .eql T x y T, some d) := by kernel_rfl) (hd : Jn n (some d) = true := by exact rfl)
    (hx : opv ρ x = .string ⟨a.toArray⟩ := by kernel_rfl) (hy : opv ρ y = .string ⟨b.toArray⟩ := by kernel_rfl) : In P n B p k Q ρ w := In.step hk hz (U7 (op := .eql) ho hd hx hy rfl next)
end
end Go.Proofs.YtoflbpmbkmephaaGreatDoor
namespace Go.Proofs.YtoflbpmbkmephaaGreatDoor
open Go.RowKit
def Qf {α β : Type} (a : Enc α) (b : Enc β) : Enc (α × β) :=
  ⟨a.sz + b.sz, fun x => a.enc x.1 ++ b.enc x.2, fun x => by rw [List.length_append, a.len, b.len], fun x v hv => by
    rcases List.mem_append.1 hv with h | h
    · exact a.one _ v h
    · exact b.one _ v h⟩
section
variable {S : List Nat} {B : Nat} {w w' w0 : World} {es es' es2 : List Ent}
theorem M8 : ∀ {l m : List Nat}, Fd (l ++ m) = true → Fd l = true ∧ Fd m = true ∧ ∀ i ∈ l, i ∉ m
  | [], m, h => ⟨rfl, h, fun i hi => by simp at hi⟩
  | i :: l, m, h => by
    simp only [List.cons_append, Fd, Bool.and_eq_true, List.all_append] at h
    obtain ⟨⟨h1, h2⟩, h3⟩ := h
    obtain ⟨k1, k2, k3⟩ := M8 h3
    refine ⟨by simp only [Fd, Bool.and_eq_true]; exact ⟨h1, k1⟩, k2, fun j hj => ?_⟩
    rcases List.mem_cons.1 hj with rfl | hj
    · intro hm
      rw [List.all_eq_true] at h2
      have := h2 j hm
      rw [Nat.beq_refl] at this
      cases this
    · exact k3 j hj
theorem Ru (h : SP S w0 w es) (l : List Nat) (hn : Fd l = true) (he : es' = Ms es l) : SP (es'.flatMap Ent.fp) w w es' := by
  subst he
  exact ⟨Mod.refl _ _, (h.own.sel hn).widen fun e hm k hk _ => .inr (List.mem_flatMap.2 ⟨e, hm, hk⟩)⟩
theorem fps_own (h : SP S w0 w es) {l : List Nat} {k : Nat} (hk : k ∈ (Ms es l).flatMap Ent.fp) : (w0.heap.size ≤ k ∨ k ∈ S) ∧ k < w.heap.size := by
  obtain ⟨e, he, hke⟩ := List.mem_flatMap.1 hk
  obtain ⟨j, _, hj⟩ := Ce he
  exact (h.own.get hj).2 k hke
theorem SP.through (h : SP S w0 w es) {l : List Nat} (he : es' = Ms es l) (hm : Mod (es'.flatMap Ent.fp) w w') : Mod S w0 w' := by
  subst he
  have hs := h.mod.size
  refine ⟨hm.os.trans h.mod.os, hm.tape.trans h.mod.tape, hm.output.trans h.mod.output, Nat.le_trans hs hm.size, fun k hk hn => ?_⟩
  refine (hm.block k (Nat.lt_of_lt_of_le hk hs) fun hkT => ?_).trans (h.mod.block k hk hn)
  rcases (fps_own h hkT).1 with h1 | h1
  · omega
  · exact hn h1
theorem Jq (h : SP S w0 w es) (l m : List Nat) (hn : Fd (l ++ m) = true) {fs : List Ent} (hf : fs = Ms es l) (hc : SP (fs.flatMap Ent.fp) w w' es2) (he : es' = Ms es m ++ es2) : SP S w0 w' es' := by
  subst hf he
  obtain ⟨n1, n2, n3⟩ := M8 hn
  have hs := h.mod.size
  have hm := hc.mod
  have apart : ∀ f ∈ Ms es m, ∀ k ∈ f.fp, k ∉ (Ms es l).flatMap Ent.fp := fun f hf k hk hkl => by
    obtain ⟨j, hj, hfj⟩ := Ce hf
    obtain ⟨e, he, hke⟩ := List.mem_flatMap.1 hkl
    obtain ⟨i, hi, hei⟩ := Ce he
    exact h.own.apart hfj hei (fun e => n3 i hi (e ▸ hj)) k hk hke
  refine ⟨h.through rfl hm, ((h.own.sel n2).keep hm.size fun f hf k hk => hm.block k ((h.own.sel n2).mem hf |>.2 k hk).2 (apart f hf k hk)).append (hc.own.widen fun f hf k hk hor => ?_) fun f hf k hk f' hf' hk' => ?_⟩
  · rcases hor with h1 | h1
    · exact .inl (by omega)
    · exact (fps_own h h1).1
  · rcases ((hc.own.mem hf').2 k hk').1 with h1 | h1
    · have := ((h.own.sel n2).mem hf |>.2 k hk).2
      omega
    · exact apart f hf k hk h1
theorem Po (h : SP [] w0 w es) {l : List Nat} (he : es' = Ms es l) (hm : Mod (es'.flatMap Ent.fp) w w') : Below w0.heap.size w0 w' := (h.through he hm).below (Nat.le_refl _) (by simp)
end
end Go.Proofs.YtoflbpmbkmephaaGreatDoor
namespace Go.Proofs
open Go.Shelf
def Ev : Go.Shelf.Ren := ⟨fun | 169 => 62 | n => n, fun | 70 => 91 | 9 => 9 | 0 => 0 | 72 => 93 | 37 => 48 | 127 => 161 | 3 => 3 | 5 => 5 | n => n, fun | n => n⟩
theorem M9 : Go.Proofs.Lays.n169 Tryz.prog Ev := {
  mixed := by kernel_rfl
  f169 := Tryz.func62.trans (congrArg some (by kernel_rfl))
  t0 := Tryz.underlying0
  a0 := Tryz.isAgg0
  z0 := Tryz.sizeOf0
  v0 := Tryz.zeroValue0
  t3 := Tryz.underlying3
  a3 := Tryz.isAgg3
  z3 := Tryz.sizeOf3
  v3 := Tryz.zeroValue3
  t9 := Tryz.underlying9
  a9 := Tryz.isAgg9
  z9 := Tryz.sizeOf9
  v9 := Tryz.zeroValue9
  t37 := Tryz.underlying48
  a37 := Tryz.isAgg48
  z37 := Tryz.sizeOf48
  v37 := Tryz.zeroValue48
  t70 := Tryz.underlying91
  a70 := Tryz.isAgg91
  z70 := Tryz.sizeOf91
  v70 := Tryz.zeroValue91
  t72 := Tryz.underlying93
  a72 := Tryz.isAgg93
  z72 := Tryz.sizeOf93
  v72 := Tryz.zeroValue93
  t127 := Tryz.underlying161
  a127 := Tryz.isAgg161
  z127 := Tryz.sizeOf161
  v127 := Tryz.zeroValue161 }
theorem Ez : Builder.Extra Tryz.prog Ev := {
  sizeBuilder := by kernel_rfl
  liesBuilder := by kernel_rfl
  t5 := Tryz.underlying5
  a5 := Tryz.isAgg5
  z5 := Tryz.sizeOf5
  v5 := Tryz.zeroValue5
  infoByte := by kernel_rfl
  cellsByte := by kernel_rfl
  sizeByte := by kernel_rfl
  neB5 := by decide }
open Go.RowKit in
theorem Tryz.Builder_String_any (B b : Nat) (l : List UInt8) (w : World) (h : Lib.IsBuilder 93 5 B b (Lib.byteCells l) w) (hBw : B ≤ w.heap.size) :
    Calls Tryz.prog 62 #[.pointer (some ⟨b, 0, none⟩)] w fun e w' => e = .returned (.string ⟨l.toArray⟩) ∧ Below B w w' := Any.Builder_String_any M9 Ez B b l w h hBw
def Ew : Go.Shelf.Ren := ⟨fun | 156 => 58 | 165 => 106 | 166 => 57 | 169 => 62 | 240 => 105 | 241 => 151 | 276 => 150 | 277 => 174 | n => n, fun | 31 => 79 | 9 => 9 | 3 => 3 | 4 => 4 | 0 => 0 | 20 => 20 | 72 => 93 | 76 => 96 | 70 => 91 | 37 => 48 | 75 => 95 | 127 => 161 | 164 => 175 | 5 => 5 | 80 => 105 | n => n, fun | n => n⟩
theorem Ir : Go.Proofs.Lays.n156 Tryz.prog Ew := {
  mixed := by kernel_rfl
  f156 := Tryz.func58.trans (congrArg some (by kernel_rfl))
  f165 := Tryz.func106.trans (congrArg some (by kernel_rfl))
  f166 := Tryz.func57.trans (congrArg some (by kernel_rfl))
  f169 := Tryz.func62.trans (congrArg some (by kernel_rfl))
  f240 := Tryz.func105.trans (congrArg some (by kernel_rfl))
  f241 := Tryz.func151.trans (congrArg some (by kernel_rfl))
  f276 := Tryz.func150.trans (congrArg some (by kernel_rfl))
  f277 := Tryz.func174.trans (congrArg some (by kernel_rfl))
  t0 := Tryz.underlying0
  a0 := Tryz.isAgg0
  z0 := Tryz.sizeOf0
  v0 := Tryz.zeroValue0
  t3 := Tryz.underlying3
  a3 := Tryz.isAgg3
  z3 := Tryz.sizeOf3
  v3 := Tryz.zeroValue3
  t4 := Tryz.underlying4
  a4 := Tryz.isAgg4
  z4 := Tryz.sizeOf4
  v4 := Tryz.zeroValue4
  t9 := Tryz.underlying9
  a9 := Tryz.isAgg9
  z9 := Tryz.sizeOf9
  v9 := Tryz.zeroValue9
  t20 := Tryz.underlying20
  a20 := Tryz.isAgg20
  z20 := Tryz.sizeOf20
  v20 := Tryz.zeroValue20
  t31 := Tryz.underlying79
  a31 := Tryz.isAgg79
  z31 := Tryz.sizeOf79
  v31 := Tryz.zeroValue79
  t37 := Tryz.underlying48
  a37 := Tryz.isAgg48
  z37 := Tryz.sizeOf48
  v37 := Tryz.zeroValue48
  t70 := Tryz.underlying91
  a70 := Tryz.isAgg91
  z70 := Tryz.sizeOf91
  v70 := Tryz.zeroValue91
  t72 := Tryz.underlying93
  a72 := Tryz.isAgg93
  z72 := Tryz.sizeOf93
  v72 := Tryz.zeroValue93
  t75 := Tryz.underlying95
  a75 := Tryz.isAgg95
  z75 := Tryz.sizeOf95
  v75 := Tryz.zeroValue95
  t76 := Tryz.underlying96
  a76 := Tryz.isAgg96
  z76 := Tryz.sizeOf96
  v76 := Tryz.zeroValue96
  t127 := Tryz.underlying161
  a127 := Tryz.isAgg161
  z127 := Tryz.sizeOf161
  v127 := Tryz.zeroValue161
  t164 := Tryz.underlying175
  a164 := Tryz.isAgg175
  z164 := Tryz.sizeOf175
  v164 := Tryz.zeroValue175 }
theorem Dw : Builder.Extra Tryz.prog Ew := {
  sizeBuilder := by kernel_rfl
  liesBuilder := by kernel_rfl
  t5 := Tryz.underlying5
  a5 := Tryz.isAgg5
  z5 := Tryz.sizeOf5
  v5 := Tryz.zeroValue5
  infoByte := by kernel_rfl
  cellsByte := by kernel_rfl
  sizeByte := by kernel_rfl
  neB5 := by decide }
open Go.RowKit in
theorem Tryz.strings_Join_none (a : Option Addr) (c : Nat) (sep : ByteArray) (w : World) :
    Calls Tryz.prog 58 #[.slice a 0 c, .string sep] w fun e w' => e = .returned (.string ⟨#[]⟩) ∧ w' = w := Any.strings_Join_none Ir Dw a c sep w
open Go.RowKit in
theorem Tryz.strings_Join (bk o c : Nat) (xs : List ByteArray) (sep : ByteArray) (w : World) (hcells : ∀ (j : Nat) x, xs[j]? = some x → w.cell? ⟨bk, o + j, none⟩ = some (.string x)) (hbk : bk < w.heap.size) (hN : xs.length ≤ 140737488355328) (hcap : xs.length ≤ c) (hlen : (Lib.join (xs.map (·.data.toList)) sep.data.toList).length ≤ 140737488355328) :
    Calls Tryz.prog 58 #[.slice (some ⟨bk, o, none⟩) xs.length c, .string sep] w fun e w' => e = .returned (.string ⟨(Lib.join (xs.map (·.data.toList)) sep.data.toList).toArray⟩) ∧ Below w.heap.size w w' := Any.strings_Join Ir Dw bk o c xs sep w hcells hbk hN hcap hlen
def Iv : Go.Shelf.Ren := ⟨fun | 160 => 148 | 232 => 168 | 231 => 167 | 227 => 169 | 234 => 171 | 233 => 170 | 236 => 173 | 235 => 172 | 228 => 184 | 271 => 186 | 151 => 185 | 197 => 180 | 120 => 198 | 152 => 197 | 260 => 192 | 137 => 89 | 119 => 203 | 224 => 194 | 225 => 193 | 217 => 140 | 266 => 162 | n => n, fun | 9 => 9 | 4 => 4 | 3 => 3 | 5 => 5 | 117 => 189 | 116 => 188 | 0 => 0 | 124 => 192 | 21 => 21 | 105 => 202 | 46 => 160 | 119 => 216 | 139 => 219 | 138 => 218 | n => n, fun | 3 => 2 | 4 => 3 | n => n⟩
theorem Oa : Go.Proofs.Lays.n160 Tryz.prog Iv := {
  mixed := by kernel_rfl
  f119 := Tryz.func203.trans (congrArg some (by kernel_rfl))
  f120 := Tryz.func198.trans (congrArg some (by kernel_rfl))
  f137 := Tryz.func89.trans (congrArg some (by kernel_rfl))
  f151 := Tryz.func185.trans (congrArg some (by kernel_rfl))
  f152 := Tryz.func197.trans (congrArg some (by kernel_rfl))
  f160 := Tryz.func148.trans (congrArg some (by kernel_rfl))
  f197 := Tryz.func180.trans (congrArg some (by kernel_rfl))
  f217 := Tryz.func140.trans (congrArg some (by kernel_rfl))
  f224 := Tryz.func194.trans (congrArg some (by kernel_rfl))
  f225 := Tryz.func193.trans (congrArg some (by kernel_rfl))
  f227 := Tryz.func169.trans (congrArg some (by kernel_rfl))
  f228 := Tryz.func184.trans (congrArg some (by kernel_rfl))
  f231 := Tryz.func167.trans (congrArg some (by kernel_rfl))
  f232 := Tryz.func168.trans (congrArg some (by kernel_rfl))
  f233 := Tryz.func170.trans (congrArg some (by kernel_rfl))
  f234 := Tryz.func171.trans (congrArg some (by kernel_rfl))
  f235 := Tryz.func172.trans (congrArg some (by kernel_rfl))
  f236 := Tryz.func173.trans (congrArg some (by kernel_rfl))
  f260 := Tryz.func192.trans (congrArg some (by kernel_rfl))
  f266 := Tryz.func162.trans (congrArg some (by kernel_rfl))
  f271 := Tryz.func186.trans (congrArg some (by kernel_rfl))
  t0 := Tryz.underlying0
  a0 := Tryz.isAgg0
  z0 := Tryz.sizeOf0
  v0 := Tryz.zeroValue0
  t3 := Tryz.underlying3
  a3 := Tryz.isAgg3
  z3 := Tryz.sizeOf3
  v3 := Tryz.zeroValue3
  t4 := Tryz.underlying4
  a4 := Tryz.isAgg4
  z4 := Tryz.sizeOf4
  v4 := Tryz.zeroValue4
  t5 := Tryz.underlying5
  a5 := Tryz.isAgg5
  z5 := Tryz.sizeOf5
  v5 := Tryz.zeroValue5
  t9 := Tryz.underlying9
  a9 := Tryz.isAgg9
  z9 := Tryz.sizeOf9
  v9 := Tryz.zeroValue9
  t21 := Tryz.underlying21
  a21 := Tryz.isAgg21
  z21 := Tryz.sizeOf21
  v21 := Tryz.zeroValue21
  t46 := Tryz.underlying160
  a46 := Tryz.isAgg160
  z46 := Tryz.sizeOf160
  v46 := Tryz.zeroValue160
  t105 := Tryz.underlying202
  a105 := Tryz.isAgg202
  z105 := Tryz.sizeOf202
  v105 := Tryz.zeroValue202
  t116 := Tryz.underlying188
  a116 := Tryz.isAgg188
  z116 := Tryz.sizeOf188
  t117 := Tryz.underlying189
  a117 := Tryz.isAgg189
  z117 := Tryz.sizeOf189
  v117 := Tryz.zeroValue189
  t119 := Tryz.underlying216
  a119 := Tryz.isAgg216
  z119 := Tryz.sizeOf216
  t124 := Tryz.underlying192
  a124 := Tryz.isAgg192
  z124 := Tryz.sizeOf192
  v124 := Tryz.zeroValue192
  t138 := Tryz.underlying218
  a138 := Tryz.isAgg218
  z138 := Tryz.sizeOf218
  v138 := Tryz.zeroValue218
  t139 := Tryz.underlying219
  a139 := Tryz.isAgg219
  z139 := Tryz.sizeOf219
  v139 := Tryz.zeroValue219
  g3 := by kernel_rfl
  g4 := by kernel_rfl }
def Iw : Go.Shelf.Ren := ⟨fun | 137 => 89 | 217 => 140 | 266 => 162 | n => n, fun | 9 => 9 | 5 => 5 | 3 => 3 | n => n, fun | n => n⟩
theorem Ob : Go.Proofs.Lays.n137 Tryz.prog Iw := {
  mixed := by kernel_rfl
  f137 := Tryz.func89.trans (congrArg some (by kernel_rfl))
  f217 := Tryz.func140.trans (congrArg some (by kernel_rfl))
  f266 := Tryz.func162.trans (congrArg some (by kernel_rfl))
  t3 := Tryz.underlying3
  a3 := Tryz.isAgg3
  z3 := Tryz.sizeOf3
  v3 := Tryz.zeroValue3
  t5 := Tryz.underlying5
  a5 := Tryz.isAgg5
  z5 := Tryz.sizeOf5
  v5 := Tryz.zeroValue5
  t9 := Tryz.underlying9
  a9 := Tryz.isAgg9
  z9 := Tryz.sizeOf9
  v9 := Tryz.zeroValue9 }
open Go.RowKit in
theorem Tryz.strings_IndexByte (s : ByteArray) (c : Int) (w : World) :
    Calls Tryz.prog 89 #[.string s, .int .u8 c] w fun e w' => e = .returned (.int .i64 (Lib.indexByte s.data.toList c.toNat.toUInt8)) ∧ w' = w := Any.strings_IndexByte Ob s c w
def H7 : Go.Shelf.Ren := ⟨fun | 173 => 107 | 246 => 152 | 283 => 175 | 284 => 176 | 285 => 177 | 286 => 178 | 129 => 188 | 317 => 187 | 318 => 189 | 319 => 190 | 320 => 191 | 337 => 199 | 338 => 200 | n => n, fun | 2 => 2 | 3 => 3 | 9 => 9 | 4 => 4 | 171 => 195 | 0 => 0 | 53 => 196 | 37 => 48 | 5 => 5 | 173 => 199 | 212 => 209 | 51 => 50 | 20 => 20 | 213 => 210 | 46 => 160 | 232 => 223 | 233 => 224 | n => n, fun | 17 => 1 | 18 => 4 | 19 => 5 | n => n⟩
theorem Md : Go.Proofs.LaysM.n173 Tryz.prog H7 := {
  mixed := by kernel_rfl
  f129 := Tryz.func188.trans (congrArg some (by kernel_rfl))
  f173 := Tryz.func107.trans (congrArg some (by kernel_rfl))
  f246 := Tryz.func152.trans (congrArg some (by kernel_rfl))
  f283 := Tryz.func175.trans (congrArg some (by kernel_rfl))
  f284 := Tryz.func176.trans (congrArg some (by kernel_rfl))
  f285 := Tryz.func177.trans (congrArg some (by kernel_rfl))
  f286 := Tryz.func178.trans (congrArg some (by kernel_rfl))
  f317 := Tryz.func187.trans (congrArg some (by kernel_rfl))
  f318 := Tryz.func189.trans (congrArg some (by kernel_rfl))
  f319 := Tryz.func190.trans (congrArg some (by kernel_rfl))
  f320 := Tryz.func191.trans (congrArg some (by kernel_rfl))
  f337 := Tryz.func199.trans (congrArg some (by kernel_rfl))
  f338 := Tryz.func200.trans (congrArg some (by kernel_rfl))
  t0 := Tryz.underlying0
  a0 := Tryz.isAgg0
  z0 := Tryz.sizeOf0
  v0 := Tryz.zeroValue0
  t2 := Tryz.underlying2
  a2 := Tryz.isAgg2
  z2 := Tryz.sizeOf2
  v2 := Tryz.zeroValue2
  t3 := Tryz.underlying3
  a3 := Tryz.isAgg3
  z3 := Tryz.sizeOf3
  v3 := Tryz.zeroValue3
  t4 := Tryz.underlying4
  a4 := Tryz.isAgg4
  z4 := Tryz.sizeOf4
  v4 := Tryz.zeroValue4
  t5 := Tryz.underlying5
  a5 := Tryz.isAgg5
  z5 := Tryz.sizeOf5
  v5 := Tryz.zeroValue5
  t9 := Tryz.underlying9
  a9 := Tryz.isAgg9
  z9 := Tryz.sizeOf9
  v9 := Tryz.zeroValue9
  t20 := Tryz.underlying20
  a20 := Tryz.isAgg20
  z20 := Tryz.sizeOf20
  v20 := Tryz.zeroValue20
  t37 := Tryz.underlying48
  a37 := Tryz.isAgg48
  z37 := Tryz.sizeOf48
  v37 := Tryz.zeroValue48
  t46 := Tryz.underlying160
  a46 := Tryz.isAgg160
  z46 := Tryz.sizeOf160
  v46 := Tryz.zeroValue160
  t51 := Tryz.underlying50
  a51 := Tryz.isAgg50
  z51 := Tryz.sizeOf50
  v51 := Tryz.zeroValue50
  t53 := Tryz.underlying196
  a53 := Tryz.isAgg196
  z53 := Tryz.sizeOf196
  v53 := Tryz.zeroValue196
  t171 := Tryz.underlying195
  a171 := Tryz.isAgg195
  z171 := Tryz.sizeOf195
  v171 := Tryz.zeroValue195
  t173 := Tryz.underlying199
  a173 := Tryz.isAgg199
  z173 := Tryz.sizeOf199
  v173 := Tryz.zeroValue199
  t212 := Tryz.underlying209
  a212 := Tryz.isAgg209
  z212 := Tryz.sizeOf209
  v212 := Tryz.zeroValue209
  t213 := Tryz.underlying210
  a213 := Tryz.isAgg210
  z213 := Tryz.sizeOf210
  t232 := Tryz.underlying223
  a232 := Tryz.isAgg223
  z232 := Tryz.sizeOf223
  v232 := Tryz.zeroValue223
  t233 := Tryz.underlying224
  a233 := Tryz.isAgg224
  z233 := Tryz.sizeOf224
  v233 := Tryz.zeroValue224
  g17 := by kernel_rfl
  g18 := by kernel_rfl
  g19 := by kernel_rfl
  i0 := by kernel_rfl
  i2 := by kernel_rfl
  i3 := by kernel_rfl
  i4 := by kernel_rfl
  i5 := by kernel_rfl
  i9 := by kernel_rfl
  i20 := by kernel_rfl
  i37 := by kernel_rfl
  i46 := by kernel_rfl
  i51 := by kernel_rfl
  i53 := by kernel_rfl
  i171 := by kernel_rfl
  i173 := by kernel_rfl
  i212 := by kernel_rfl
  i232 := by kernel_rfl
  i233 := by kernel_rfl
  m17 := by kernel_rfl
  m18 := by kernel_rfl
  m19 := by kernel_rfl }
open Go.RowKit Go.Sort Go.Lib in
theorem Tryz.strconv_FormatInt_10 (n : Int) (h0 : -9223372036854775808 ≤ n) (h1 : n ≤ 9223372036854775807) (w : World) (htab : Lib.TabIs Tryz.prog w "internal/strconv.uint64pow10" .u64 Lib.pow10Tab) :
    Calls Tryz.prog 107 #[.int .i64 n, .int .i64 10] w fun e w' => e = .returned (.string ⟨(Lib.itoa n).toArray⟩) ∧ ∃ k os, w' = grow (w.drewN k) os := Any.strconv_FormatInt_10 Md n h0 h1 w htab
def Iy : Go.Shelf.Ren := ⟨fun | 219 => 182 | 217 => 140 | 225 => 193 | 224 => 194 | 267 => 195 | 266 => 162 | 314 => 201 | n => n, fun | 9 => 9 | 3 => 3 | 4 => 4 | 5 => 5 | 46 => 160 | 146 => 220 | 51 => 50 | n => n, fun | 1 => 0 | n => n⟩
theorem Oc : Go.Proofs.Lays.n219 Tryz.prog Iy := {
  mixed := by kernel_rfl
  f217 := Tryz.func140.trans (congrArg some (by kernel_rfl))
  f219 := Tryz.func182.trans (congrArg some (by kernel_rfl))
  f224 := Tryz.func194.trans (congrArg some (by kernel_rfl))
  f225 := Tryz.func193.trans (congrArg some (by kernel_rfl))
  f266 := Tryz.func162.trans (congrArg some (by kernel_rfl))
  f267 := Tryz.func195.trans (congrArg some (by kernel_rfl))
  f314 := Tryz.func201.trans (congrArg some (by kernel_rfl))
  t3 := Tryz.underlying3
  a3 := Tryz.isAgg3
  z3 := Tryz.sizeOf3
  v3 := Tryz.zeroValue3
  t4 := Tryz.underlying4
  a4 := Tryz.isAgg4
  z4 := Tryz.sizeOf4
  v4 := Tryz.zeroValue4
  t5 := Tryz.underlying5
  a5 := Tryz.isAgg5
  z5 := Tryz.sizeOf5
  v5 := Tryz.zeroValue5
  t9 := Tryz.underlying9
  a9 := Tryz.isAgg9
  z9 := Tryz.sizeOf9
  v9 := Tryz.zeroValue9
  t46 := Tryz.underlying160
  a46 := Tryz.isAgg160
  z46 := Tryz.sizeOf160
  v46 := Tryz.zeroValue160
  t51 := Tryz.underlying50
  a51 := Tryz.isAgg50
  z51 := Tryz.sizeOf50
  v51 := Tryz.zeroValue50
  t146 := Tryz.underlying220
  a146 := Tryz.isAgg220
  z146 := Tryz.sizeOf220
  v146 := Tryz.zeroValue220
  g1 := by kernel_rfl }
open Go.RowKit Go.Lib in
theorem Tryz.stringslite_Index_one (s : ByteArray) (c : UInt8) (w : World) :
    Calls Tryz.prog 182 #[.string s, .string ⟨#[c]⟩] w fun e w' => e = .returned (.int .i64 (Lib.indexByte s.data.toList c)) ∧ w' = w := Any.stringslite_Index_one Oc s c w
def Iz : Go.Shelf.Ren := ⟨fun | 143 => 156 | 219 => 182 | 217 => 140 | 225 => 193 | 224 => 194 | 267 => 195 | 266 => 162 | 314 => 201 | n => n, fun | 9 => 9 | 3 => 3 | 4 => 4 | 5 => 5 | 46 => 160 | 146 => 220 | 51 => 50 | n => n, fun | 1 => 0 | n => n⟩
theorem Od : Go.Proofs.Lays.n143 Tryz.prog Iz := {
  mixed := by kernel_rfl
  f143 := Tryz.func156.trans (congrArg some (by kernel_rfl))
  f217 := Tryz.func140.trans (congrArg some (by kernel_rfl))
  f219 := Tryz.func182.trans (congrArg some (by kernel_rfl))
  f224 := Tryz.func194.trans (congrArg some (by kernel_rfl))
  f225 := Tryz.func193.trans (congrArg some (by kernel_rfl))
  f266 := Tryz.func162.trans (congrArg some (by kernel_rfl))
  f267 := Tryz.func195.trans (congrArg some (by kernel_rfl))
  f314 := Tryz.func201.trans (congrArg some (by kernel_rfl))
  t3 := Tryz.underlying3
  a3 := Tryz.isAgg3
  z3 := Tryz.sizeOf3
  v3 := Tryz.zeroValue3
  t4 := Tryz.underlying4
  a4 := Tryz.isAgg4
  z4 := Tryz.sizeOf4
  v4 := Tryz.zeroValue4
  t5 := Tryz.underlying5
  a5 := Tryz.isAgg5
  z5 := Tryz.sizeOf5
  v5 := Tryz.zeroValue5
  t9 := Tryz.underlying9
  a9 := Tryz.isAgg9
  z9 := Tryz.sizeOf9
  v9 := Tryz.zeroValue9
  t46 := Tryz.underlying160
  a46 := Tryz.isAgg160
  z46 := Tryz.sizeOf160
  v46 := Tryz.zeroValue160
  t51 := Tryz.underlying50
  a51 := Tryz.isAgg50
  z51 := Tryz.sizeOf50
  v51 := Tryz.zeroValue50
  t146 := Tryz.underlying220
  a146 := Tryz.isAgg220
  z146 := Tryz.sizeOf220
  v146 := Tryz.zeroValue220
  g1 := by kernel_rfl }
open Go.RowKit Go.Lib in
theorem Tryz.strings_Index_one (s : ByteArray) (c : UInt8) (w : World) :
    Calls Tryz.prog 156 #[.string s, .string ⟨#[c]⟩] w fun e w' => e = .returned (.int .i64 (Lib.indexByte s.data.toList c)) ∧ w' = w := Any.strings_Index_one Od s c w
def I0 : Go.Shelf.Ren := ⟨fun | 138 => 155 | 195 => 179 | 218 => 181 | 143 => 156 | 219 => 182 | 217 => 140 | 225 => 193 | 224 => 194 | 267 => 195 | 266 => 162 | 314 => 201 | n => n, fun | 9 => 9 | 3 => 3 | 4 => 4 | 5 => 5 | 0 => 0 | 46 => 160 | 146 => 220 | 51 => 50 | n => n, fun | 1 => 0 | n => n⟩
theorem Oe : Go.Proofs.Lays.n138 Tryz.prog I0 := {
  mixed := by kernel_rfl
  f138 := Tryz.func155.trans (congrArg some (by kernel_rfl))
  f143 := Tryz.func156.trans (congrArg some (by kernel_rfl))
  f195 := Tryz.func179.trans (congrArg some (by kernel_rfl))
  f217 := Tryz.func140.trans (congrArg some (by kernel_rfl))
  f218 := Tryz.func181.trans (congrArg some (by kernel_rfl))
  f219 := Tryz.func182.trans (congrArg some (by kernel_rfl))
  f224 := Tryz.func194.trans (congrArg some (by kernel_rfl))
  f225 := Tryz.func193.trans (congrArg some (by kernel_rfl))
  f266 := Tryz.func162.trans (congrArg some (by kernel_rfl))
  f267 := Tryz.func195.trans (congrArg some (by kernel_rfl))
  f314 := Tryz.func201.trans (congrArg some (by kernel_rfl))
  t0 := Tryz.underlying0
  a0 := Tryz.isAgg0
  z0 := Tryz.sizeOf0
  v0 := Tryz.zeroValue0
  t3 := Tryz.underlying3
  a3 := Tryz.isAgg3
  z3 := Tryz.sizeOf3
  v3 := Tryz.zeroValue3
  t4 := Tryz.underlying4
  a4 := Tryz.isAgg4
  z4 := Tryz.sizeOf4
  v4 := Tryz.zeroValue4
  t5 := Tryz.underlying5
  a5 := Tryz.isAgg5
  z5 := Tryz.sizeOf5
  v5 := Tryz.zeroValue5
  t9 := Tryz.underlying9
  a9 := Tryz.isAgg9
  z9 := Tryz.sizeOf9
  v9 := Tryz.zeroValue9
  t46 := Tryz.underlying160
  a46 := Tryz.isAgg160
  z46 := Tryz.sizeOf160
  v46 := Tryz.zeroValue160
  t51 := Tryz.underlying50
  a51 := Tryz.isAgg50
  z51 := Tryz.sizeOf50
  v51 := Tryz.zeroValue50
  t146 := Tryz.underlying220
  a146 := Tryz.isAgg220
  z146 := Tryz.sizeOf220
  v146 := Tryz.zeroValue220
  g1 := by kernel_rfl }
open Go.RowKit Go.Lib in
theorem Tryz.strings_Count_one (s : ByteArray) (c : UInt8) (w : World) :
    Calls Tryz.prog 155 #[.string s, .string ⟨#[c]⟩] w fun e w' => e = .returned (.int .i64 (Lib.countByte s.data.toList c)) ∧ w' = w := Any.strings_Count_one Oe s c w
end Go.Proofs
namespace Go.Proofs.YtoflbpmbkmephaaGreatDoor
open Go.RowKit
theorem Kk {w w' : World} (h : Below w.heap.size w w') : SP [] w w' [] := ⟨J3 h [], trivial⟩
def ba (l : List UInt8) : ByteArray := ⟨l.toArray⟩
def G2 (l : List (List UInt8)) (sep : List UInt8) : Option (List UInt8) :=
  cond (Nat.ble l.length 140737488355328 && Nat.ble (Lib.join l sep).length 140737488355328) (some (Lib.join l sep)) none
theorem map_ba (l : List (List UInt8)) : (l.map ba).map (·.data.toList) = l := by
  rw [List.map_map]
  conv => rhs; rw [← List.map_id l]
  rfl
theorem Bz (A : Option Addr) (c : Nat) (l : List (List UInt8)) (sep : List UInt8) (w0 : World) (hr : RdT Qj w0 A c l) (r : List UInt8) (H : G2 l sep = some r) :
    Calls Tryz.prog 58 #[(.slice A (List.length l) c), (.string ⟨List.toArray sep⟩)] w0 (fun e w' => e = .returned (.string ⟨List.toArray r⟩) ∧ SP [] w0 w' []) := by
  unfold G2 at H
  cases hc : (Nat.ble l.length 140737488355328 && Nat.ble (Lib.join l sep).length 140737488355328) <;> rw [hc] at H
  · cases H
  injection H with H
  subst H
  rw [Bool.and_eq_true] at hc
  have h1 := Nat.le_of_ble_eq_true hc.1
  have h2 := Nat.le_of_ble_eq_true hc.2
  obtain ⟨_, hle, _, h4⟩ := hr
  by_cases h0 : l = []
  · subst h0
    refine (Tryz.strings_Join_none A c ⟨sep.toArray⟩ w0).mono ?_
    rintro e w' ⟨rfl, rfl⟩
    exact ⟨rfl, Qw [] w'⟩
  · obtain ⟨b, off, rfl, hb, hcell⟩ := h4 (by cases l with | nil => exact absurd rfl h0 | cons x r => simp)
    have hlen : (l.map ba).length = l.length := by simp
    have := Tryz.strings_Join b off c (l.map ba) ⟨sep.toArray⟩ w0 (fun j x hj => by
      rw [List.getElem?_map] at hj
      cases hx : l[j]? with
      | none => rw [hx] at hj; cases hj
      | some y =>
        rw [hx] at hj
        injection hj with hj
        subst hj
        have := Bw Qj (l := l) (i := j) (x := y) hx (j := 0) (u := .string ⟨y.toArray⟩) rfl
        have h9 := hcell _ _ this
        simpa [Qj, ba] using h9) hb (by rw [hlen]; exact h1) (by rw [hlen]; exact hle) (by rw [map_ba]; exact h2)
    rw [map_ba, hlen] at this
    refine this.mono ?_
    rintro e w' ⟨rfl, hbel⟩
    exact ⟨rfl, Kk hbel⟩
def R2 (s cs : List UInt8) : Option (List UInt8) :=
  cond (Nat.ble s.length 9223372036854775807 && (Nat.ble cs.length 4294967280 && cs.all (fun b => Nat.ble b.toNat 127))) (some (Lib.trimS s cs)) none
theorem Hb (s cs : List UInt8) (w0 : World) (r : List UInt8) (H : R2 s cs = some r) :
    Calls Tryz.prog 148 #[(.string ⟨List.toArray s⟩), (.string ⟨List.toArray cs⟩)] w0 (fun e w' => e = .returned (.string ⟨List.toArray r⟩) ∧ SP [] w0 w' []) := by
  unfold R2 at H
  cases hc : (Nat.ble s.length 9223372036854775807 && (Nat.ble cs.length 4294967280 && cs.all (fun b => Nat.ble b.toNat 127))) <;> rw [hc] at H
  · cases H
  injection H with H
  subst H
  rw [Bool.and_eq_true, Bool.and_eq_true, List.all_eq_true] at hc
  have h1 := Nat.le_of_ble_eq_true hc.1
  have h2 := Nat.le_of_ble_eq_true hc.2.1
  refine (Any.strings_Trim_laid Oa (by kernel_rfl) ⟨s.toArray⟩ ⟨cs.toArray⟩ w0 (by rw [Ra]; exact h1) (by rw [Ra]; omega) (fun j b hj => by
    have := Nat.le_of_ble_eq_true (hc.2.2 b (List.mem_of_getElem? hj))
    omega)).mono ?_
  rintro e w' ⟨rfl, hbel⟩
  exact ⟨rfl, Kk hbel⟩
end Go.Proofs.YtoflbpmbkmephaaGreatDoor
namespace Go.Proofs.YtoflbpmbkmephaaGreatDoor
open Go.RowKit
def Ff : String := "internal/strconv.uint64pow10"
theorem Th : ∃ g, Tryz.prog.globalNamed Ff = some g := Option.isSome_iff_exists.mp (by kernel_rfl)
structure Be (w : World) : Prop where
  tab : Lib.TabIs Tryz.prog w Ff .u64 Lib.pow10Tab
  here : ∀ g, Tryz.prog.globalNamed Ff = some g → g < w.heap.size
theorem Q4 {w w' : World} (h : Be w) (hb : Below w.heap.size w w') : Be w' := by
  obtain ⟨g, hg⟩ := Th
  refine ⟨?_, fun k hk => Nat.lt_of_lt_of_le (h.here k hk) hb.size⟩
  exact Go.var?_below hb hg (h.here g hg) h.tab
def Gq (n base : Int) : Option (List UInt8) := cond (base == 10 && (decide (-9223372036854775808 ≤ n) && decide (n ≤ 9223372036854775807))) (some (Lib.itoa n)) none
theorem Ct (n base : Int) (w0 : World) (hL : Be w0) (r : List UInt8) (H : Gq n base = some r) :
    Calls Tryz.prog 107 #[(.int .i64 n), (.int .i64 base)] w0 (fun e w' => e = .returned (.string ⟨List.toArray r⟩) ∧ SP [] w0 w' []) := by
  unfold Gq at H
  cases hc : (base == 10 && (decide (-9223372036854775808 ≤ n) && decide (n ≤ 9223372036854775807))) <;> rw [hc] at H
  · cases H
  injection H with H
  subst H
  simp only [Bool.and_eq_true, beq_iff_eq, decide_eq_true_eq] at hc
  obtain ⟨rfl, h0, h1⟩ := hc
  refine (Tryz.strconv_FormatInt_10 n h0 h1 w0 hL.tab).mono ?_
  rintro e w' ⟨rfl, k, os, rfl⟩
  exact ⟨rfl, J3 (Go.Lib.below_grow w0.heap.size w0 (Nat.le_refl _) k os) [], trivial⟩
end Go.Proofs.YtoflbpmbkmephaaGreatDoor
namespace Go.Proofs.YtoflbpmbkmephaaGreatDoor
open Go.RowKit
def Gx (p1 : Int) (v3 : Bool) : Option ((List UInt8)) :=
  (cond v3 (some (([] : List UInt8))) ((Gq p1 10).bind fun z7 => (some (z7))))
def Xv (p1 : Int) : Option ((List UInt8)) :=
  (cond (decide (p1 < 0)) (Gx p1 true) (Gx p1 (decide (p1 > 1099511627776))))
set_option maxHeartbeats 40000000 in
theorem Z2  (p1 : Int) (w0 : World) (hL : Be w0)  (r : (Bs)) (H : Xv p1 = some r) :
  Calls Tryz.prog 59 #[(iv p1)] w0 (fun e W => e = .returned (sv r) ∧ SP [] w0 W []) := by
 unfold Xv at H
 refine Qt (n := 11) Tryz.func59 K K K ?_
 have b := Qw [] w0
 refine aC ?_
 refine iR 1 1 [(2, (sv ([] : Bs)))] ?_
 refine iF ?_
 refine aQ ?_
 refine aQ ?_
 refine At.join (fun ρ w => ∃ (v3 : Bool), Vq ρ [(0, (iv p1)), (8, (bv v3))] ∧ SP [] w0 w [] ∧ Gx p1 v3 = some r) ?_ ?_
 ·refine aR ?_
  refine iR 3 3 [(3, (iv p1)), (4, (bv (decide (p1 < 0)))), (5, (bv (decide (p1 < 0))))] ?_
  refine gD 5 H (fun H => ?_) fun H => ?_
  ·refine iR 3 6 [(6, undef), (7, undef), (8, (bv true))] ?_
   refine iF ?_
   exact ⟨true, ⟨K, K, trivial⟩, SP.sel b [] rfl rfl, H⟩
  refine iR 3 6 [(6, (iv p1)), (7, (bv (decide (p1 > 1099511627776)))), (8, (bv (decide (p1 > 1099511627776))))] ?_
  refine iF ?_
  exact ⟨(decide (p1 > 1099511627776)), ⟨K, K, trivial⟩, SP.sel b [] rfl rfl, H⟩
 rintro ρ w4 ⟨v3, hk, a, H⟩
 unfold Gx at H
 first | refine At.known _ hk ?_ | rw [← Qo hk]
 refine cD 8 H (fun H => ?_) fun H => ?_
 ·refine aC ?_
  refine iR 1 1 [(2, (sv ([] : Bs)))] ?_
  refine iF ?_
  refine At.ret K ?_
  refine ⟨(sv ([] : Bs)), K, ?_⟩
  obtain rfl := Qe H
  exact ⟨rfl, SP.sel a [] rfl rfl⟩
 refine At.skip K ?_
 refine aC ?_
 refine iR 1 1 [(9, (iv p1))] ?_
 obtain ⟨z7, c, H⟩ := Qd H
 refine iS 2 ?_
 refine cS a 107 #[(.tmp 9), (.const (.int .i64 (10)))] #[2, 3] 10 Tryz.call107 (Ct  p1 10 w4 (Q4 hL (SP.keeps a)) z7 c) ?_
 intro w9 d
 refine iR 1 3 [(2, (sv z7))] ?_
 refine iF ?_
 refine At.ret K ?_
 refine ⟨(sv z7), K, ?_⟩
 obtain rfl := Qe H
 exact ⟨rfl, SP.sel d [] rfl rfl⟩
def G3 (a : Int → Int → Option (Int × Bool)) (b : Int) (c : Int) (d : UInt8) (e : Bool) : Option (Int × Bool) :=
  (cond e (some (0, false)) (a (IntKind.wrap .i64 ((IntKind.wrap .i64 (10 * b)) + (IntKind.wrap .i64 (IntKind.wrap .u8 (((d).toNat : Int) - 48))))) (IntKind.wrap .i64 (c + 1))))
def Ga (d : Int → Int → Option (Int × Bool)) (p1 : (List UInt8)) (a : Int) (b : Int) : Option (Int × Bool) :=
  (cond (decide (b < ((List.length p1 : Nat) : Int))) ((idx p1 b).bind fun c => (cond (decide (((c).toNat : Int) < 48)) (G3 d a b c true) (cond (decide (((c).toNat : Int) > 57)) (G3 d a b c true) (G3 d a b c (decide (a > 1099511627776)))))) ((Xv a).bind fun e => (cond (!(e == p1)) (some (0, false)) (some (a, true)))))
def U6 (p1 : (List UInt8)) : Nat → Int → Int → Option (Int × Bool)
  | 0, _, _ => none
  | f + 1, a, b => Ga  (U6 p1 f) p1 a b
def D1 (p1 : (List UInt8)) : Option (Int × Bool) :=
  ((chk (Nat.ble (List.length p1) 281474976710656)).bind fun _ => (U6 p1 Zj 0 0))
set_option maxHeartbeats 40000000 in
theorem Ns  (p1 : Bs) (w0 : World) (hL : Be w0)  (r : (Int × Bool)) (H : D1 p1 = some r) :
  Calls Tryz.prog 135 #[(sv p1)] w0 (fun e W => e = .returned (.tuple #[(iv r.1), (bv r.2)]) ∧ SP [] w0 W []) := by
 unfold D1 at H
 refine Qt (n := 36) Tryz.func135 K K K ?_
 have v := Qw [] w0
 refine aC ?_
 refine iR 2 2 [(2, (iv 0)), (3, (bv false))] ?_
 refine iF ?_
 refine aC ?_
 refine iR 1 1 [(4, (iv 0))] ?_
 refine iF ?_
 refine aQ ?_
 refine aC ?_
 refine iR 1 1 [(7, (sv p1))] ?_
 obtain ⟨z, H⟩ := Dh H
 refine iS 2 ?_
 refine Fa (S' := 9) (T := 48) (E := 5) (x := (.tmp 7)) (l := p1) (d := (some 8)) (k := 1) K rfl K K K K (Fc z) v ?_
 intro g3 c4 w5 p _
 have a0 : SP [] w0 w5 [rdE eU8 (some ⟨g3, 0, none⟩) c4 p1] := p
 clear p
 refine iR 2 4 [(9, (iv (ln p1))), (10, (iv 0))] ?_
 refine iF ?_
 refine Z3 K (id := 0) K ?_
 refine Gm K (fun f3 ρ w => ∃ (c : Int) (g : Int), Vq ρ [(0, (sv p1)), (4, (iv c)), (8, (lv (some ⟨g3, 0, none⟩) p1 c4)), (9, (iv (ln p1))), (10, (iv g))] ∧ SP [] w0 w [rdE eU8 (some ⟨g3, 0, none⟩) c4 p1] ∧ U6 p1 f3 c g = some r) (by rintro ρ w ⟨c, g, hk, hs, H⟩; cases H) ?_ Zj ?_
 ·rintro f3 ρ a1 ⟨c, g, hk, h, H⟩
  refine At.known _ hk ?_
  replace H := (show Ga (U6 p1 f3) p1 c g = some r from H)
  unfold Ga at H
  refine aC ?_
  refine iR 1 1 [(11, (bv (decide (g < (ln p1)))))] ?_
  refine iF ?_
  refine aQ ?_
  refine cD 11 H (fun H => ?_) fun H => ?_
  ·refine At.skip K ?_
   refine aQ ?_
   refine Z3 K (id := 1) K ?_
   refine aC ?_
   obtain ⟨f, q, s, a2, H⟩ := Qu H
   refine jE 1 eU8 p1 (some ⟨g3, 0, none⟩) c4 48 5 (.tmp 8) (.tmp 10) g 12 (So (SP.get h (i := 0) rfl)) q s ?_
   intro a3 a4 a5 a7 hc71
   refine jX 2 5 12 a3 (a4 + Int.toNat g * eU8.sz) (.int .u8 ((f).toNat : Int)) 13 (Ql (e := eU8) (Qh (So (SP.get h (i := 0) rfl)) a5 q s) a2 (j := 0) rfl) ?_
   refine iR 1 3 [(6, (.int .u8 ((f).toNat : Int)))] ?_
   refine iF ?_
   refine aQ ?_
   refine aQ ?_
   refine At.join (fun ρ w => ∃ (m : Bool), Vq ρ [(0, (sv p1)), (4, (iv c)), (6, (.int .u8 ((f).toNat : Int))), (8, (lv (some ⟨g3, 0, none⟩) p1 c4)), (9, (iv (ln p1))), (10, (iv g)), (23, (bv m))] ∧ SP [] w0 w [rdE eU8 (some ⟨g3, 0, none⟩) c4 p1] ∧ G3 (U6 p1 f3) c g f m = some r) ?_ ?_
   ·refine aR ?_
    refine iR 3 3 [(14, (.int .u8 ((f).toNat : Int))), (15, (bv (decide (((f).toNat : Int) < 48)))), (16, (bv (decide (((f).toNat : Int) < 48))))] ?_
    refine gD 16 H (fun H => ?_) fun H => ?_
    ·refine iR 7 10 (uN 17 2 ((19, (bv true)) :: (20, (bv true)) :: (uN 21 2 [(23, (bv true))]))) ?_
     refine iF ?_
     exact ⟨true, ⟨K, K, K, K, K, K, K, trivial⟩, SP.sel h [0] rfl rfl, H⟩
    refine iR 4 7 [(17, (.int .u8 ((f).toNat : Int))), (18, (bv (decide (((f).toNat : Int) > 57)))), (19, (bv (decide (((f).toNat : Int) > 57)))), (20, (bv (decide (((f).toNat : Int) > 57))))] ?_
    refine gD 20 H (fun H => ?_) fun H => ?_
    ·refine iR 3 10 [(21, undef), (22, undef), (23, (bv true))] ?_
     refine iF ?_
     exact ⟨true, ⟨K, K, K, K, K, K, K, trivial⟩, SP.sel h [0] rfl rfl, H⟩
    refine iR 3 10 [(21, (iv c)), (22, (bv (decide (c > 1099511627776)))), (23, (bv (decide (c > 1099511627776))))] ?_
    refine iF ?_
    exact ⟨(decide (c > 1099511627776)), ⟨K, K, K, K, K, K, K, trivial⟩, SP.sel h [0] rfl rfl, H⟩
   rintro ρ a8 ⟨m, hk, t, H⟩
   unfold G3 at H
   first | refine At.known _ hk ?_ | rw [← Qo hk]
   refine cD 23 H (fun H => ?_) fun H => ?_
   ·refine aC ?_
    refine iR 2 2 [(2, (iv 0)), (3, (bv false))] ?_
    refine iF ?_
    refine At.ret K ?_
    refine ⟨(.tuple #[(iv 0), (bv false)]), K, ?_⟩
    obtain rfl := Qe H
    exact ⟨rfl, SP.sel t [] rfl rfl⟩
   refine At.skip K ?_
   refine aR ?_
   refine iR 7 7 [(24, (iv c)), (25, (iv (IntKind.wrap .i64 (10 * c)))), (26, (.int .u8 ((f).toNat : Int))), (27, (.int .u8 (IntKind.wrap .u8 (((f).toNat : Int) - 48)))), (28, (iv (IntKind.wrap .i64 (IntKind.wrap .u8 (((f).toNat : Int) - 48))))), (29, (iv (IntKind.wrap .i64 ((IntKind.wrap .i64 (10 * c)) + (IntKind.wrap .i64 (IntKind.wrap .u8 (((f).toNat : Int) - 48))))))), (4, (iv (IntKind.wrap .i64 ((IntKind.wrap .i64 (10 * c)) + (IntKind.wrap .i64 (IntKind.wrap .u8 (((f).toNat : Int) - 48)))))))] ?_
   refine iF ?_
   refine aR ?_
   refine iR 2 2 [(30, (iv (IntKind.wrap .i64 (g + 1)))), (10, (iv (IntKind.wrap .i64 (g + 1))))] ?_
   refine iF ?_
   exact ⟨(IntKind.wrap .i64 ((IntKind.wrap .i64 (10 * c)) + (IntKind.wrap .i64 (IntKind.wrap .u8 (((f).toNat : Int) - 48))))), (IntKind.wrap .i64 (g + 1)), ⟨K, K, K, K, K, trivial⟩, SP.sel t [0] rfl rfl, H⟩
  refine At.exit K (id := 0) K ?_
  refine aQ ?_
  refine aC ?_
  refine iR 1 1 [(31, (iv c))] ?_
  obtain ⟨o, a6, H⟩ := Qd H
  refine iS 2 ?_
  refine cS h 59 #[(.tmp 31)] #[2] 32 Tryz.call59 (Z2  c a1 (Q4 hL (SP.keeps h)) o a6) ?_
  intro a9 u
  refine iR 1 3 [(33, (sv p1))] ?_
  refine iS 4 ?_
  refine U7 (op := .neq) (T := 9) (T' := 9) (x := (.tmp 32)) (y := (.tmp 33)) (a := o) (b := p1) (r := (bv (!(o == p1)))) (d := (some 34)) (k := 3) K rfl K K rfl ?_
  refine iF ?_
  refine cD 34 H (fun H => ?_) fun H => ?_
  ·refine aC ?_
   refine iR 2 2 [(2, (iv 0)), (3, (bv false))] ?_
   refine iF ?_
   refine At.ret K ?_
   refine ⟨(.tuple #[(iv 0), (bv false)]), K, ?_⟩
   obtain rfl := Qe H
   exact ⟨rfl, SP.sel u [] rfl rfl⟩
  refine At.skip K ?_
  refine aC ?_
  refine iR 3 3 [(35, (iv c)), (2, (iv c)), (3, (bv true))] ?_
  refine iF ?_
  refine At.ret K ?_
  refine ⟨(.tuple #[(iv c), (bv true)]), K, ?_⟩
  obtain rfl := Qe H
  exact ⟨rfl, SP.sel u [] rfl rfl⟩
 exact ⟨0, 0, ⟨K, K, K, K, K, trivial⟩, SP.sel a0 [0] rfl rfl, H⟩
end Go.Proofs.YtoflbpmbkmephaaGreatDoor
namespace Go.Proofs.YtoflbpmbkmephaaGreatDoor
open Go.RowKit
def Y4 (a : Bool) : Option (Bool) :=
  (some (a))
def Nw (p1 : (List UInt8)) : Option (Bool) :=
  (cond (!(p1 == ([] : List UInt8))) (cond (decide (((List.length p1 : Nat) : Int) ≤ 20)) ((R2 p1 ([97, 98, 99, 100, 101, 102, 103, 104, 105, 106, 107, 108, 109, 110, 111, 112, 113, 114, 115, 116, 117, 118, 119, 120, 121, 122, 48, 49, 50, 51, 52, 53, 54, 55, 56, 57, 45] : List UInt8)).bind fun a => (cond (a == ([] : List UInt8)) ((idx p1 0).bind fun b => (cond (((b).toNat : Int) != 45) ((idx p1 (IntKind.wrap .i64 (((List.length p1 : Nat) : Int) - 1))).bind fun c => (Y4 (((c).toNat : Int) != 45))) (Y4 false))) (Y4 false))) (Y4 false)) (Y4 false))
set_option maxHeartbeats 40000000 in
theorem Cf  (p1 : Bs) (w0 : World)  (r : (Bool)) (H : Nw p1 = some r) :
  Calls Tryz.prog 101 #[(sv p1)] w0 (fun e W => e = .returned (bv r) ∧ SP [] w0 W []) := by
 unfold Nw at H
 refine Qt (n := 28) Tryz.func101 K K K ?_
 have i := Qw [] w0
 refine aC ?_
 refine iR 1 1 [(2, (bv false))] ?_
 refine iF ?_
 refine aQ ?_
 refine At.join (fun ρ w => ∃ (f : Bool), Vq ρ [(2, (bv f))] ∧ SP [] w0 w [] ∧ Y4 f = some r) ?_ ?_
 ·refine aR ?_
  refine iR 1 1 [(3, (sv p1))] ?_
  refine iS 2 ?_
  refine U7 (op := .neq) (T := 9) (T' := 9) (x := (.tmp 3)) (y := (.const (.string ⟨List.toArray ([] : Bs)⟩))) (a := p1) (b := ([] : Bs)) (r := (bv (!(p1 == ([] : Bs))))) (d := (some 4)) (k := 1) K rfl K K rfl ?_
  refine iR 1 3 [(5, (bv (!(p1 == ([] : Bs)))))] ?_
  refine gD 5 H (fun H => ?_) fun H => ?_
  ·refine iR 5 8 [(6, (sv p1)), (7, (iv (ln p1))), (8, (bv (decide ((ln p1) ≤ 20)))), (9, (bv (decide ((ln p1) ≤ 20)))), (10, (bv (decide ((ln p1) ≤ 20))))] ?_
   refine gD 10 H (fun H => ?_) fun H => ?_
   ·refine iR 1 9 [(11, (sv p1))] ?_
    obtain ⟨g, l, H⟩ := Qd H
    refine iS 10 ?_
    refine cS i 148 #[(.tmp 11), (.const (.string ⟨List.toArray ([97, 98, 99, 100, 101, 102, 103, 104, 105, 106, 107, 108, 109, 110, 111, 112, 113, 114, 115, 116, 117, 118, 119, 120, 121, 122, 48, 49, 50, 51, 52, 53, 54, 55, 56, 57, 45] : Bs)⟩))] #[9, 9] 12 Tryz.call148 (Hb  p1 ([97, 98, 99, 100, 101, 102, 103, 104, 105, 106, 107, 108, 109, 110, 111, 112, 113, 114, 115, 116, 117, 118, 119, 120, 121, 122, 48, 49, 50, 51, 52, 53, 54, 55, 56, 57, 45] : Bs) w0  g l) ?_
    intro t j
    refine jO 11 9 (.tmp 12) (.const (.string ⟨List.toArray ([] : Bs)⟩)) g ([] : Bs) 13 ?_
    refine iR 2 13 [(14, (bv (g == ([] : Bs)))), (15, (bv (g == ([] : Bs))))] ?_
    refine gD 15 H (fun H => ?_) fun H => ?_
    ·refine iR 1 14 [(16, (sv p1))] ?_
     obtain ⟨h, m, v, o, H⟩ := Qu H
     refine iS 15 ?_
     refine Xg (a := p1) (u := h) (T := 9) (x := (.tmp 16)) (ix := (.const (.int .i64 (0)))) (ki := .i64) (iz := 0) (d := (some 17)) (k := 14) K rfl K K K m o ?_
     refine iR 3 18 [(18, (bv (((h).toNat : Int) != 45))), (19, (bv (((h).toNat : Int) != 45))), (20, (bv (((h).toNat : Int) != 45)))] ?_
     refine gD 20 H (fun H => ?_) fun H => ?_
     ·refine iR 4 22 [(21, (sv p1)), (22, (sv p1)), (23, (iv (ln p1))), (24, (iv (IntKind.wrap .i64 ((ln p1) - 1))))] ?_
      obtain ⟨c, p, z, q, H⟩ := Qu H
      refine iS 23 ?_
      refine Xg (a := p1) (u := c) (T := 9) (x := (.tmp 21)) (ix := (.tmp 24)) (ki := .i64) (iz := (IntKind.wrap .i64 ((ln p1) - 1))) (d := (some 25)) (k := 22) K rfl K K K p q ?_
      refine iR 3 26 [(26, (bv (((c).toNat : Int) != 45))), (27, (bv (((c).toNat : Int) != 45))), (2, (bv (((c).toNat : Int) != 45)))] ?_
      refine iF ?_
      exact ⟨(((c).toNat : Int) != 45), ⟨K, trivial⟩, SP.sel j [] rfl rfl, H⟩
     refine iR 8 26 (uN 21 6 [(27, (bv false)), (2, (bv false))]) ?_
     refine iF ?_
     exact ⟨false, ⟨K, trivial⟩, SP.sel j [] rfl rfl, H⟩
    refine iR 13 26 (uN 16 3 ((19, (bv false)) :: (20, (bv false)) :: (uN 21 6 [(27, (bv false)), (2, (bv false))]))) ?_
    refine iF ?_
    exact ⟨false, ⟨K, trivial⟩, SP.sel j [] rfl rfl, H⟩
   refine iR 18 26 (uN 11 3 ((14, (bv false)) :: (15, (bv false)) :: (uN 16 3 ((19, (bv false)) :: (20, (bv false)) :: (uN 21 6 [(27, (bv false)), (2, (bv false))]))))) ?_
   refine iF ?_
   exact ⟨false, ⟨K, trivial⟩, SP.sel i [] rfl rfl, H⟩
  refine iR 23 26 (uN 6 3 ((9, (bv false)) :: (10, (bv false)) :: (uN 11 3 ((14, (bv false)) :: (15, (bv false)) :: (uN 16 3 ((19, (bv false)) :: (20, (bv false)) :: (uN 21 6 [(27, (bv false)), (2, (bv false))]))))))) ?_
  refine iF ?_
  exact ⟨false, ⟨K, trivial⟩, SP.sel i [] rfl rfl, H⟩
 rintro ρ a0 ⟨f, hk, s, H⟩
 unfold Y4 at H
 first | refine At.known _ hk ?_ | rw [← Qo hk]
 refine At.ret K ?_
 refine ⟨(bv f), K, ?_⟩
 obtain rfl := Qe H
 exact ⟨rfl, SP.sel s [] rfl rfl⟩
def Ux (c : (List (List UInt8)) → Int → Option ((List UInt8))) (p1 : Int) (b : (List (List UInt8))) (a : Int) : Option ((List UInt8)) :=
  (cond (decide (a < 4)) ((chk (decide (0 ≤ (IntKind.wrap .i64 (24 - (IntKind.wrap .i64 (8 * a))))))).bind fun _ => ((Xv (IntKind.wrap .i64 (IntKind.wrap .u8 (Ip .u32 p1 (IntKind.wrap .i64 (24 - (IntKind.wrap .i64 (8 * a)))))))).bind fun d => ((app b ([d] : List (List UInt8))).bind fun e => (c e (IntKind.wrap .i64 (a + 1)))))) ((G2 b ([46] : List UInt8)).bind fun f => (some (f))))
def J4 (p1 : Int) : Nat → (List (List UInt8)) → Int → Option ((List UInt8))
  | 0, _, _ => none
  | f + 1, a, b => Ux  (J4 p1 f) p1 a b
def Dj (p1 : Int) : Option ((List UInt8)) :=
  (J4 p1 Zj ([] : List (List UInt8)) 0)
set_option maxHeartbeats 40000000 in
theorem Hk  (p1 : Int) (w0 : World) (hL : Be w0)  (r : (Bs)) (H : Dj p1 = some r) :
  Calls Tryz.prog 109 #[(.int .u32 p1)] w0 (fun e W => e = .returned (sv r) ∧ SP [] w0 W []) := by
 unfold Dj at H
 refine Qt (n := 22) Tryz.func109 K K K ?_
 have a2 := Qw [] w0
 refine aC ?_
 refine iR 1 1 [(2, (sv ([] : Bs)))] ?_
 refine iF ?_
 refine aC ?_
 refine iR 1 1 [(3, (lv none ([] : List Bs) 0))] ?_
 refine iF ?_
 refine aQ ?_
 refine aC ?_
 refine iR 1 1 [(5, (iv 0))] ?_
 refine iF ?_
 refine Z3 K (id := 0) K ?_
 refine Gm K (fun f1 ρ w => ∃ (g : (List Bs)) (f : Int) (h : Option Addr) (j : Nat), Vq ρ [(0, (.int .u32 p1)), (3, (lv h g j)), (5, (iv f))] ∧ SP [] w0 w [Vh 9 Qj h j g] ∧ J4 p1 f1 g f = some r) (by rintro ρ w ⟨g, f, h, j, hk, hs, H⟩; cases H) ?_ Zj ?_
 ·rintro f1 ρ t ⟨g, f, h, j, hk, p, H⟩
  refine At.known _ hk ?_
  replace H := (show Ux (J4 p1 f1) p1 g f = some r from H)
  unfold Ux at H
  refine aC ?_
  refine iR 1 1 [(6, (bv (decide (f < 4))))] ?_
  refine iF ?_
  refine aQ ?_
  refine cD 6 H (fun H => ?_) fun H => ?_
  ·refine At.skip K ?_
   refine aQ ?_
   refine Z3 K (id := 1) K ?_
   refine aC ?_
   refine iR 2 2 [(7, (iv f)), (4, (iv f))] ?_
   refine iF ?_
   refine aR ?_
   refine iR 5 5 [(8, (lv h g j)), (9, (.int .u32 p1)), (10, (iv f)), (11, (iv (IntKind.wrap .i64 (8 * f)))), (12, (iv (IntKind.wrap .i64 (24 - (IntKind.wrap .i64 (8 * f))))))] ?_
   obtain ⟨hl63, H⟩ := Dh H
   refine iS 6 ?_
   refine Qx.shift (op := .shr) (T := 50) (T' := 3) (x := (.tmp 9)) (y := (.tmp 12)) (kx := .u32) (ky := .i64) (a := p1) (b := (IntKind.wrap .i64 (24 - (IntKind.wrap .i64 (8 * f))))) (v := (.int .u32 (Ip .u32 p1 (IntKind.wrap .i64 (24 - (IntKind.wrap .i64 (8 * f))))))) (d := (some 13)) (k := 5) K rfl K K (of_decide_eq_true hl63) rfl ?_
   refine iR 2 8 [(14, (.int .u8 (IntKind.wrap .u8 (Ip .u32 p1 (IntKind.wrap .i64 (24 - (IntKind.wrap .i64 (8 * f)))))))), (15, (iv (IntKind.wrap .i64 (IntKind.wrap .u8 (Ip .u32 p1 (IntKind.wrap .i64 (24 - (IntKind.wrap .i64 (8 * f)))))))))] ?_
   obtain ⟨o, a3, H⟩ := Qd H
   refine iS 9 ?_
   refine cS p 59 #[(.tmp 15)] #[2] 16 Tryz.call59 (Z2  (IntKind.wrap .i64 (IntKind.wrap .u8 (Ip .u32 p1 (IntKind.wrap .i64 (24 - (IntKind.wrap .i64 (8 * f))))))) t (Q4 hL (SP.keeps p)) o a3) ?_
   intro a9 a4
   refine iS 10 ?_
   refine zN Qj 79 9 1 #[(0, (.tmp 16))] #[(sv o)] ([o] : List Bs) 17 a4 ?_
   intro a5 b0 u
   obtain ⟨hl74, H⟩ := Zx H
   obtain ⟨z, hyl75⟩ : ∃ y, g ++ ([o] : List Bs) = y := ⟨_, rfl⟩
   try rw [hyl75] at H
   refine iS 11 ?_
   refine Qx.append (e := Qj) (l := g) (m := ([o] : List Bs)) (A := h) (c := j) (T := 79) (TX := 79) (E := 9) (b := 16) (s := (.tmp 8)) (x := (.tmp 17)) (i := 0) (vx := (lv (some ⟨a5, 0, none⟩) ([o] : List Bs) (List.length ([o] : List Bs)))) (d := (some 18)) (k := 10) K rfl K K K K rfl u rfl (Rj (E := 9) K (Qz (SP.get u (i := 1) rfl))) hl74 ?_
   rw [hyl75]
   intro a0 a1 b1 a6
   refine iR 1 12 [(3, (lv a0 z a1))] ?_
   refine iF ?_
   refine aR ?_
   refine iR 2 2 [(19, (iv (IntKind.wrap .i64 (f + 1)))), (5, (iv (IntKind.wrap .i64 (f + 1))))] ?_
   refine iF ?_
   exact ⟨z, (IntKind.wrap .i64 (f + 1)), a0, a1, ⟨K, K, K, trivial⟩, SP.sel a6 [0] rfl rfl, H⟩
  refine At.exit K (id := 0) K ?_
  refine aC ?_
  refine iR 1 1 [(20, (lv h g j))] ?_
  obtain ⟨q, a7, H⟩ := Qd H
  refine iS 2 ?_
  refine cS p 58 #[(.tmp 20), (.const (.string ⟨List.toArray ([46] : Bs)⟩))] #[79, 9] 21 Tryz.call58 (Bz h j g ([46] : Bs) t (Qz (SP.get p (i := 0) rfl)) q a7) ?_
  intro b2 a8
  refine iR 1 3 [(2, (sv q))] ?_
  refine iF ?_
  refine At.ret K ?_
  refine ⟨(sv q), K, ?_⟩
  obtain rfl := Qe H
  exact ⟨rfl, SP.sel a8 [] rfl rfl⟩
 exact ⟨([] : List Bs), 0, none, 0, ⟨K, K, K, trivial⟩, SP.sel (Nu a2 9 Qj) [0] rfl rfl, H⟩
def Dk (p1 : Int) : Option (Int) :=
  ((chk (decide (0 ≤ (IntKind.wrap .i64 (32 - p1))))).bind fun _ => (some ((K4 .u32 4294967295 (IntKind.wrap .i64 (32 - p1))))))
set_option maxHeartbeats 40000000 in
theorem Hl  (p1 : Int) (w0 : World)  (r : (Int)) (H : Dk p1 = some r) :
  Calls Tryz.prog 153 #[(iv p1)] w0 (fun e W => e = .returned (.int .u32 r) ∧ SP [] w0 W []) := by
 unfold Dk at H
 refine Qt (n := 6) Tryz.func153 K K K ?_
 have c := Qw [] w0
 refine aC ?_
 refine iR 1 1 [(2, (.int .u32 0))] ?_
 refine iF ?_
 refine aC ?_
 refine iR 2 2 [(3, (iv p1)), (4, (iv (IntKind.wrap .i64 (32 - p1))))] ?_
 obtain ⟨hl2, H⟩ := Dh H
 refine iS 3 ?_
 refine Qx.shift (op := .shl) (T := 50) (T' := 3) (x := (.const (.int .u32 (4294967295)))) (y := (.tmp 4)) (kx := .u32) (ky := .i64) (a := 4294967295) (b := (IntKind.wrap .i64 (32 - p1))) (v := (.int .u32 (K4 .u32 4294967295 (IntKind.wrap .i64 (32 - p1))))) (d := (some 5)) (k := 2) K rfl K K (of_decide_eq_true hl2) rfl ?_
 refine iR 1 4 [(2, (.int .u32 (K4 .u32 4294967295 (IntKind.wrap .i64 (32 - p1)))))] ?_
 refine iF ?_
 refine At.ret K ?_
 refine ⟨(.int .u32 (K4 .u32 4294967295 (IntKind.wrap .i64 (32 - p1)))), K, ?_⟩
 obtain rfl := Qe H
 exact ⟨rfl, SP.sel c [] rfl rfl⟩
def U8 (a : Bool) : Option (Bool) :=
  (some (a))
def G4 (b : Int) (a : Int) : Option (Bool) :=
  (cond (decide (a ≥ 0)) (cond (decide (a ≤ 32)) ((Dk a).bind fun c => (U8 ((Fb .u32 b c) == 0))) (U8 false)) (U8 false))
set_option maxHeartbeats 40000000 in
theorem B0  (d : Int) (a : Int) (w0 : World)  (r : (Bool)) (H : G4 d a = some r) :
  Calls Tryz.prog 108 #[(.agg #[(.int .u32 d), (iv a)])] w0 (fun e W => e = .returned (bv r) ∧ SP [] w0 W []) := by
 unfold G4 at H
 refine Qt (n := 20) Tryz.func108 K K K ?_
 have k := Qw [] w0
 refine aC ?_
 refine iS 1 ?_
 refine zB 102 (.tmp 0) (.agg #[(.int .u32 d), (iv a)]) 1 k ?_
 intro g3 w4 j
 refine iR 1 2 [(2, (bv false))] ?_
 refine iF ?_
 refine aQ ?_
 refine At.join (fun ρ w => ∃ (i : Bool), Vq ρ [(2, (bv i))] ∧ SP [] w0 w [] ∧ U8 i = some r) ?_ ?_
 ·rcases Bool.eq_false_or_eq_true (decide (a ≥ 0)) with g | g
  ·have H := ct H g
   rcases Bool.eq_false_or_eq_true (decide (a ≤ 32)) with f | f
   ·have H := ct H f
    obtain ⟨h, l, H⟩ := Qd H
    refine aG [GEq (pt g3 1), GEq (iv a), GEq (bv (decide (a ≥ 0))), GEq (bv (decide (a ≥ 0))), GEq (pt g3 1), GEq (iv a), GEq (bv (decide (a ≤ 32))), GEq (bv (decide (a ≤ 32))), GEq (bv (decide (a ≤ 32))), GEq (pt g3 0), GEq (.int .u32 d), GEq (pt g3 1), GEq (iv a), GEq (.int .u32 h), GEq (.int .u32 (Fb .u32 d h)), GEq (bv ((Fb .u32 d h) == 0)), GEq (bv ((Fb .u32 d h) == 0)), GEq (bv ((Fb .u32 d h) == 0))] [13] (tG [] w0 [Qs g3 102 #[(.int .u32 d), (iv a)]] [([], []), ([13], [(.int .u32 h)])]) 18 1 ⟨trivial, SP.drew j⟩ ?_ ?_
    iterate 18 refine And.intro ?_ ?_
    exact trivial
    ·exact oU (hC (hS 1 (pt g3 0)) (h0))
    ·refine oL 0 ?_
     rintro P W hs b ⟨-, m⟩
     refine kM (kc (kA b 0 3) k0) fun c => ?_
     refine sL 3 3 g3 1 0 (iv a) 4 m rfl ?_
     exact eK c
    ·exact oU (hC (hA 1 4) (h0))
    ·exact oU (hC (hA 2 5) (h0))
    ·exact oU (hC (hS 1 (pt g3 0)) (hC (hB 3 6 g) (h0)))
    ·refine oL 0 ?_
     rintro P W hs b ⟨-, o⟩
     refine kM (kc (kA b 4 7) (kc (eb (kA b 3 6) g) k0)) fun c => ?_
     refine sL 3 7 g3 1 0 (iv a) 8 o rfl ?_
     exact eK c
    ·exact oU (hC (hA 5 8) (hC (hB 3 6 g) (h0)))
    ·exact oU (hC (hB 3 6 g) (hC (hA 6 9) (h0)))
    ·exact oU (hC (hA 7 10) (h0))
    ·exact oU (hC (hS 1 (pt g3 0)) (hC (hB 8 11 f) (h0)))
    ·refine Owe.light K [0, 1] K (Qc ?_ (Qc ?_ Qq))
     ·rintro P W hs b ⟨-, p⟩
      refine kM (kc (kA b 9 12) (kc (eb (kA b 8 11) f) k0)) fun c => ?_
      refine sL 50 12 g3 0 0 (.int .u32 d) 13 p rfl ?_
      exact eK c
     rintro P W hs b ⟨⟨a3, -⟩, q⟩
     refine kM (kc (kA b 9 12) (kc (eb (kA b 8 11) f) k0)) fun c => ?_
     refine sL 50 12 g3 0 0 (.int .u32 d) 13 q rfl ?_
     exact eK c
    ·exact oU (hC (hS 1 (pt g3 0)) (hC (hB 8 11 f) (h0)))
    ·refine oL 0 ?_
     rintro P W hs b ⟨-, s⟩
     refine kM (kc (kA b 11 14) (kc (eb (kA b 8 11) f) k0)) fun c => ?_
     refine sL 3 14 g3 1 0 (iv a) 15 s rfl ?_
     exact eK c
    ·refine oH 0 1 ?_
     rintro P W hs b ⟨-, t⟩
     refine kM (kc (kA b 12 15) (kc (eb (kA b 8 11) f) k0)) fun c => ?_
     refine cS t 153 #[(.tmp 15)] #[3] 16 Tryz.call153 (Hl  a W  h l) ?_
     intro a4 u
     refine ⟨_, Qa c, rfl, ?_⟩
     exact (ai (ai rfl (trivial)) u)
    ·exact oU (hC (hA 10 13) (hC (hA 13 16) (hC (hB 8 11 f) (h0))))
    ·exact oU (hC (hA 14 17) (hC (hB 8 11 f) (h0)))
    ·exact oU (hC (hB 8 11 f) (hC (hA 15 18) (h0)))
    ·exact oU (hC (hA 16 19) (h0))
    rintro P a5 hs hf ⟨⟨a6, -⟩, v⟩
    refine Qy _ (kc (kF hf 17 2) k0) ?_
    exact ⟨((Fb .u32 d h) == 0), ⟨K, trivial⟩, SP.sel v [] rfl rfl, H⟩
   have H := cf H f
   refine aG [GEq (pt g3 1), GEq (iv a), GEq (bv (decide (a ≥ 0))), GEq (bv (decide (a ≥ 0))), GEq (pt g3 1), GEq (iv a), GEq (bv (decide (a ≤ 32))), GEq (bv (decide (a ≤ 32))), GEq (bv (decide (a ≤ 32))), GEq undef, GEq undef, GEq undef, GEq undef, GEq undef, GEq undef, GEq undef, GEq (bv false), GEq (bv false)] [] (tG [] w0 [Qs g3 102 #[(.int .u32 d), (iv a)]] [([], [])]) 18 0 ⟨trivial, SP.drew j⟩ ?_ ?_
   iterate 18 refine And.intro ?_ ?_
   exact trivial
   ·exact oU (hC (hS 1 (pt g3 0)) (h0))
   ·refine oL 0 ?_
    rintro P W hs b ⟨-, x⟩
    refine kM (kc (kA b 0 3) k0) fun c => ?_
    refine sL 3 3 g3 1 0 (iv a) 4 x rfl ?_
    exact eK c
   ·exact oU (hC (hA 1 4) (h0))
   ·exact oU (hC (hA 2 5) (h0))
   ·exact oU (hC (hS 1 (pt g3 0)) (hC (hB 3 6 g) (h0)))
   ·refine oL 0 ?_
    rintro P W hs b ⟨-, y⟩
    refine kM (kc (kA b 4 7) (kc (eb (kA b 3 6) g) k0)) fun c => ?_
    refine sL 3 7 g3 1 0 (iv a) 8 y rfl ?_
    exact eK c
   ·exact oU (hC (hA 5 8) (hC (hB 3 6 g) (h0)))
   ·exact oU (hC (hB 3 6 g) (hC (hA 6 9) (h0)))
   ·exact oU (hC (hA 7 10) (h0))
   iterate 7 exact oY (hC (hB 8 11 f) (h0))
   ·exact oU (hC (hB 8 11 f) (hC (hA 15 18) (h0)))
   ·exact oU (hC (hA 16 19) (h0))
   rintro P a7 hs hf ⟨-, z⟩
   refine Qy _ (kc (kF hf 17 2) k0) ?_
   exact ⟨false, ⟨K, trivial⟩, SP.sel z [] rfl rfl, H⟩
  have H := cf H g
  refine aG [GEq (pt g3 1), GEq (iv a), GEq (bv (decide (a ≥ 0))), GEq (bv (decide (a ≥ 0))), GEq undef, GEq undef, GEq undef, GEq (bv false), GEq (bv false), GEq undef, GEq undef, GEq undef, GEq undef, GEq undef, GEq undef, GEq undef, GEq (bv false), GEq (bv false)] [] (tG [] w0 [Qs g3 102 #[(.int .u32 d), (iv a)]] [([], [])]) 18 0 ⟨trivial, SP.drew j⟩ ?_ ?_
  iterate 18 refine And.intro ?_ ?_
  exact trivial
  ·exact oU (hC (hS 1 (pt g3 0)) (h0))
  ·refine oL 0 ?_
   rintro P W hs b ⟨-, a0⟩
   refine kM (kc (kA b 0 3) k0) fun c => ?_
   refine sL 3 3 g3 1 0 (iv a) 4 a0 rfl ?_
   exact eK c
  ·exact oU (hC (hA 1 4) (h0))
  ·exact oU (hC (hA 2 5) (h0))
  iterate 3 exact oY (hC (hB 3 6 g) (h0))
  ·exact oU (hC (hB 3 6 g) (hC (hA 6 9) (h0)))
  ·exact oU (hC (hA 7 10) (h0))
  iterate 7 exact oY (hC (hA 8 11) (h0))
  ·exact oU (hC (hA 8 11) (hC (hA 15 18) (h0)))
  ·exact oU (hC (hA 16 19) (h0))
  rintro P a8 hs hf ⟨-, a1⟩
  refine Qy _ (kc (kF hf 17 2) k0) ?_
  exact ⟨false, ⟨K, trivial⟩, SP.sel a1 [] rfl rfl, H⟩
 rintro ρ a9 ⟨i, hk, a2, H⟩
 unfold U8 at H
 first | refine At.known _ hk ?_ | rw [← Qo hk]
 refine At.ret K ?_
 refine ⟨(bv i), K, ?_⟩
 obtain rfl := Qe H
 exact ⟨rfl, SP.sel a2 [] rfl rfl⟩
def G5 (a : Int) (b : Int) : Option ((List UInt8)) :=
  ((G4 a b).bind fun z7 => (cond (!z7) (some (([] : List UInt8))) ((Dj a).bind fun c => ((app c ([47] : List UInt8)).bind fun d => ((Xv b).bind fun e => ((app d e).bind fun f => (some (f))))))))
set_option maxHeartbeats 40000000 in
theorem B1  (i : Int) (g : Int) (w0 : World) (hL : Be w0)  (r : (Bs)) (H : G5 i g = some r) :
  Calls Tryz.prog 60 #[(.agg #[(.int .u32 i), (iv g)])] w0 (fun e W => e = .returned (sv r) ∧ SP [] w0 W []) := by
 unfold G5 at H
 refine Qt (n := 14) Tryz.func60 K K K ?_
 have u := Qw [] w0
 refine aC ?_
 refine iS 1 ?_
 refine zB 102 (.tmp 0) (.agg #[(.int .u32 i), (iv g)]) 1 u ?_
 intro g3 w4 p
 refine iR 1 2 [(2, (sv ([] : Bs)))] ?_
 refine iF ?_
 refine aQ ?_
 refine aC ?_
 refine jL 1 102 1 g3 0 0 (.agg #[(.int .u32 i), (iv g)]) 3 p rfl ?_
 obtain ⟨z7, v, H⟩ := Qd H
 refine iS 2 ?_
 refine cS p 108 #[(.tmp 3)] #[102] 4 Tryz.call108 (B0  i g w4  z7 v) ?_
 intro w9 q
 refine iR 1 3 [(5, (bv (!z7)))] ?_
 refine iF ?_
 refine cD 5 H (fun H => ?_) fun H => ?_
 ·refine aC ?_
  refine iR 1 1 [(2, (sv ([] : Bs)))] ?_
  refine iF ?_
  refine At.ret K ?_
  refine ⟨(sv ([] : Bs)), K, ?_⟩
  obtain rfl := Qe H
  exact ⟨rfl, SP.sel q [] rfl rfl⟩
 refine At.skip K ?_
 refine aQ ?_
 obtain ⟨j, w, H⟩ := Qd H
 obtain ⟨hl21, H⟩ := Zx H
 obtain ⟨m, hyl20⟩ : ∃ y, j ++ ([47] : Bs) = y := ⟨_, rfl⟩
 rw [hyl20] at H
 obtain ⟨l, z, H⟩ := Qd H
 obtain ⟨hl29, H⟩ := Zx H
 obtain ⟨o, hyl28⟩ : ∃ y, m ++ l = y := ⟨_, rfl⟩
 rw [hyl28] at H
 refine aG [GEq (pt g3 0), GEq (.int .u32 i), GEq (sv j), GEq (sv m), GEq (pt g3 1), GEq (iv g), GEq (sv l), GEq (sv o), GEq (sv o)] [2, 6] (tG [] w0 [Qs g3 102 #[(.int .u32 i), (iv g)]] [([], []), ([2], [(sv j)]), ([2, 6], [(sv j), (sv l)])]) 9 2 ⟨trivial, SP.drew q⟩ ?_ ?_
 iterate 9 refine And.intro ?_ ?_
 exact trivial
 ·exact oU (hC (hS 1 (pt g3 0)) (h0))
 ·refine oL 0 ?_
  rintro P W hs f ⟨-, a0⟩
  refine kM (kc (kA f 0 6) k0) fun c => ?_
  refine sL 50 6 g3 0 0 (.int .u32 i) 7 a0 rfl ?_
  exact eK c
 ·refine oH 0 1 ?_
  rintro P W hs f ⟨-, s⟩
  refine kM (kc (kA f 1 7) k0) fun c => ?_
  refine cS s 109 #[(.tmp 7)] #[50] 8 Tryz.call109 (Hk  i W (Q4 hL (SP.keeps s)) j w) ?_
  intro b0 a1
  refine ⟨_, Qa c, rfl, ?_⟩
  exact (ai (ai rfl (trivial)) a1)
 ·refine Owe.light K [1, 2] K (Qc ?_ (Qc ?_ Qq))
  ·rintro P W hs f ⟨⟨a2, -⟩, b1⟩
   refine kN [(8, (sv j))] ⟨(Qr (h := 2) K).symm.trans a2, trivial⟩ fun c => ?_
   refine Yn (T := 9) (T' := 9) (x := (.tmp 8)) (y := (.const (.string ⟨List.toArray ([47] : Bs)⟩))) (a := j) (b := ([47] : Bs)) (d := (some 9)) (k := 3) K rfl K K hl21 ?_
   rw [hyl20]
   exact eK c
  rintro P W hs f ⟨⟨a3, b2, -⟩, b3⟩
  refine kN [(8, (sv j))] ⟨(Qr (h := 2) K).symm.trans a3, trivial⟩ fun c => ?_
  refine Yn (T := 9) (T' := 9) (x := (.tmp 8)) (y := (.const (.string ⟨List.toArray ([47] : Bs)⟩))) (a := j) (b := ([47] : Bs)) (d := (some 9)) (k := 3) K rfl K K hl21 ?_
  rw [hyl20]
  exact eK c
 ·exact oU (hC (hS 1 (pt g3 0)) (h0))
 ·refine Owe.light K [0, 1] K (Qc ?_ (Qc ?_ Qq))
  ·rintro P W hs f ⟨-, a4⟩
   refine kM (kc (kA f 4 10) k0) fun c => ?_
   refine sL 3 10 g3 1 0 (iv g) 11 a4 rfl ?_
   exact eK c
  rintro P W hs f ⟨⟨b4, -⟩, a5⟩
  refine kM (kc (kA f 4 10) k0) fun c => ?_
  refine sL 3 10 g3 1 0 (iv g) 11 a5 rfl ?_
  exact eK c
 ·refine oH 1 2 ?_
  rintro P W hs f ⟨⟨a6, -⟩, t⟩
  refine kM (kc (kA f 5 11) k0) fun c => ?_
  refine cS t 59 #[(.tmp 11)] #[2] 12 Tryz.call59 (Z2  g W (Q4 hL (SP.keeps t)) l z) ?_
  intro b5 a7
  refine ⟨_, Qa c, rfl, ?_⟩
  exact (ai (ai a6 (ai rfl (trivial))) a7)
 ·refine oL 2 ?_
  rintro P W hs f ⟨⟨b6, a8, -⟩, b7⟩
  refine kN [(9, (sv m)), (12, (sv l))] ⟨f 3 9 K, (Qr (h := 6) K).symm.trans a8, trivial⟩ fun c => ?_
  refine Yn (T := 9) (T' := 9) (x := (.tmp 9)) (y := (.tmp 12)) (a := m) (b := l) (d := (some 13)) (k := 7) K rfl K K hl29 ?_
  rw [hyl28]
  exact eK c
 ·exact oU (hC (hA 7 13) (h0))
 rintro P b8 hs hf ⟨⟨b9, c0, -⟩, a9⟩
 refine Qy _ (kc (kF hf 8 2) k0) ?_
 refine At.ret K ?_
 refine ⟨(sv o), K, ?_⟩
 obtain rfl := Qe H
 exact ⟨rfl, SP.sel a9 [] rfl rfl⟩
end Go.Proofs.YtoflbpmbkmephaaGreatDoor
namespace Go.Proofs.YtoflbpmbkmephaaGreatDoor
open Go.RowKit
def Ja (c : Int → (List UInt8) → Option ((List UInt8))) (a : Int) (b : (List UInt8)) : Option ((List UInt8)) :=
  (cond (decide (a > 0)) ((app ([(Ex (IntKind.wrap .u8 (IntKind.wrap .i64 (48 + (Int.tmod a 10)))))] : List UInt8) b).bind fun d => (c (IntKind.wrap .i64 (Int.tdiv a 10)) d)) (some (b)))
def Xy  : Nat → Int → (List UInt8) → Option ((List UInt8))
  | 0, _, _ => none
  | f + 1, a, b => Ja  (Xy  f) a b
def Jb (p1 : Int) (v3 : Bool) : Option ((List UInt8)) :=
  (cond v3 (some (([] : List UInt8))) (Xy  Zj (IntKind.wrap .i64 (Int.tdiv p1 10)) ([(Ex (IntKind.wrap .u8 (IntKind.wrap .i64 (48 + (Int.tmod p1 10)))))] : List UInt8)))
def X8 (p1 : Int) : Option ((List UInt8)) :=
  (cond (decide (p1 < 0)) (Jb p1 true) (Jb p1 (decide (p1 > 1099511627776))))
set_option maxHeartbeats 40000000 in
theorem Nr  (p1 : Int) (w0 : World)  (r : (Bs)) (H : X8 p1 = some r) :
  Calls Tryz.prog 110 #[(iv p1)] w0 (fun e W => e = .returned (sv r) ∧ SP [] w0 W []) := by
 unfold X8 at H
 refine Qt (n := 31) Tryz.func110 K K K ?_
 have h := Qw [] w0
 refine aC ?_
 refine iR 1 1 [(2, (sv ([] : Bs)))] ?_
 refine iF ?_
 refine aQ ?_
 refine aQ ?_
 refine At.join (fun ρ w => ∃ (v3 : Bool), Vq ρ [(0, (iv p1)), (9, (bv v3))] ∧ SP [] w0 w [] ∧ Jb p1 v3 = some r) ?_ ?_
 ·refine aR ?_
  refine iR 3 3 [(4, (iv p1)), (5, (bv (decide (p1 < 0)))), (6, (bv (decide (p1 < 0))))] ?_
  refine gD 6 H (fun H => ?_) fun H => ?_
  ·refine iR 3 6 [(7, undef), (8, undef), (9, (bv true))] ?_
   refine iF ?_
   exact ⟨true, ⟨K, K, trivial⟩, SP.sel h [] rfl rfl, H⟩
  refine iR 3 6 [(7, (iv p1)), (8, (bv (decide (p1 > 1099511627776)))), (9, (bv (decide (p1 > 1099511627776))))] ?_
  refine iF ?_
  exact ⟨(decide (p1 > 1099511627776)), ⟨K, K, trivial⟩, SP.sel h [] rfl rfl, H⟩
 rintro ρ w4 ⟨v3, hk, j, H⟩
 unfold Jb at H
 first | refine At.known _ hk ?_ | rw [← Qo hk]
 refine cD 9 H (fun H => ?_) fun H => ?_
 ·refine aC ?_
  refine iR 1 1 [(2, (sv ([] : Bs)))] ?_
  refine iF ?_
  refine At.ret K ?_
  refine ⟨(sv ([] : Bs)), K, ?_⟩
  obtain rfl := Qe H
  exact ⟨rfl, SP.sel j [] rfl rfl⟩
 refine At.skip K ?_
 refine aC ?_
 refine iR 4 4 [(10, (iv p1)), (11, (iv (Int.tmod p1 10))), (12, (iv (IntKind.wrap .i64 (48 + (Int.tmod p1 10))))), (13, (.int .u8 (IntKind.wrap .u8 (IntKind.wrap .i64 (48 + (Int.tmod p1 10))))))] ?_
 refine iS 5 ?_
 refine Di (e := eU8) (T := 48) (E := 5) (len := 1) (parts := #[(0, (.tmp 13))]) (cs := #[(.int .u8 (IntKind.wrap .u8 (IntKind.wrap .i64 (48 + (Int.tmod p1 10)))))]) ([(Ex (IntKind.wrap .u8 (IntKind.wrap .i64 (48 + (Int.tmod p1 10)))))] : Bs) (d := (some 14)) (k := 4) K rfl (fun _ => K) j (By (Or.inr ⟨rfl, (H3 _)⟩) rfl) rfl rfl rfl ?_
 intro g7 w8 m
 refine iS 6 ?_
 refine Gf (T := 48) (S' := 9) (E := 5) (x := (.tmp 14)) (A := (some ⟨g7, 0, none⟩)) (c := (List.length ([(Ex (IntKind.wrap .u8 (IntKind.wrap .i64 (48 + (Int.tmod p1 10)))))] : Bs))) (l := ([(Ex (IntKind.wrap .u8 (IntKind.wrap .i64 (48 + (Int.tmod p1 10)))))] : Bs)) (d := (some 15)) (k := 5) K rfl K K K K (Qz (SP.get m (i := 0) rfl)) ?_
 refine iR 1 7 [(3, (sv ([(Ex (IntKind.wrap .u8 (IntKind.wrap .i64 (48 + (Int.tmod p1 10)))))] : Bs)))] ?_
 refine iF ?_
 refine aQ ?_
 refine aC ?_
 refine iR 3 3 [(16, (iv p1)), (17, (iv (IntKind.wrap .i64 (Int.tdiv p1 10)))), (0, (iv (IntKind.wrap .i64 (Int.tdiv p1 10))))] ?_
 refine iF ?_
 refine Z3 K (id := 0) K ?_
 refine Gm K (fun f2 ρ w => ∃ (f : Int) (g : Bs), Vq ρ [(0, (iv f)), (3, (sv g))] ∧ SP [] w0 w [] ∧ Xy  f2 f g = some r) (by rintro ρ w ⟨f, g, hk, hs, H⟩; cases H) ?_ Zj ?_
 ·rintro f2 ρ t ⟨f, g, hk, o, H⟩
  refine At.known _ hk ?_
  replace H := (show Ja (Xy f2) f g = some r from H)
  unfold Ja at H
  refine aQ ?_
  refine aC ?_
  refine iR 2 2 [(18, (iv f)), (19, (bv (decide (f > 0))))] ?_
  refine iF ?_
  refine cD 19 H (fun H => ?_) fun H => ?_
  ·refine At.skip K ?_
   refine aQ ?_
   refine Z3 K (id := 1) K ?_
   refine aR ?_
   refine iR 4 4 [(22, (iv f)), (23, (iv (Int.tmod f 10))), (24, (iv (IntKind.wrap .i64 (48 + (Int.tmod f 10))))), (25, (.int .u8 (IntKind.wrap .u8 (IntKind.wrap .i64 (48 + (Int.tmod f 10))))))] ?_
   refine iS 5 ?_
   refine Di (e := eU8) (T := 48) (E := 5) (len := 1) (parts := #[(0, (.tmp 25))]) (cs := #[(.int .u8 (IntKind.wrap .u8 (IntKind.wrap .i64 (48 + (Int.tmod f 10)))))]) ([(Ex (IntKind.wrap .u8 (IntKind.wrap .i64 (48 + (Int.tmod f 10)))))] : Bs) (d := (some 26)) (k := 4) K rfl (fun _ => K) o (By (Or.inr ⟨rfl, (H3 _)⟩) rfl) rfl rfl rfl ?_
   intro s u p
   refine iS 6 ?_
   refine Gf (T := 48) (S' := 9) (E := 5) (x := (.tmp 26)) (A := (some ⟨s, 0, none⟩)) (c := (List.length ([(Ex (IntKind.wrap .u8 (IntKind.wrap .i64 (48 + (Int.tmod f 10)))))] : Bs))) (l := ([(Ex (IntKind.wrap .u8 (IntKind.wrap .i64 (48 + (Int.tmod f 10)))))] : Bs)) (d := (some 27)) (k := 5) K rfl K K K K (Qz (SP.get p (i := 0) rfl)) ?_
   refine iR 1 7 [(28, (sv g))] ?_
   obtain ⟨hl37, H⟩ := Zx H
   obtain ⟨q, hyl36⟩ : ∃ y, ([(Ex (IntKind.wrap .u8 (IntKind.wrap .i64 (48 + (Int.tmod f 10)))))] : Bs) ++ g = y := ⟨_, rfl⟩
   rw [hyl36] at H
   refine iS 8 ?_
   refine Yn (T := 9) (T' := 9) (x := (.tmp 27)) (y := (.tmp 28)) (a := ([(Ex (IntKind.wrap .u8 (IntKind.wrap .i64 (48 + (Int.tmod f 10)))))] : Bs)) (b := g) (d := (some 29)) (k := 7) K rfl K K hl37 ?_
   rw [hyl36]
   refine iR 1 9 [(3, (sv q))] ?_
   refine iF ?_
   refine aR ?_
   refine iR 3 3 [(20, (iv f)), (21, (iv (IntKind.wrap .i64 (Int.tdiv f 10)))), (0, (iv (IntKind.wrap .i64 (Int.tdiv f 10))))] ?_
   refine iF ?_
   exact ⟨(IntKind.wrap .i64 (Int.tdiv f 10)), q, ⟨K, K, trivial⟩, SP.sel p [] rfl rfl, H⟩
  refine At.exit K (id := 0) K ?_
  refine aC ?_
  refine iR 2 2 [(30, (sv g)), (2, (sv g))] ?_
  refine iF ?_
  refine At.ret K ?_
  refine ⟨(sv g), K, ?_⟩
  obtain rfl := Qe H
  exact ⟨rfl, SP.sel o [] rfl rfl⟩
 exact ⟨(IntKind.wrap .i64 (Int.tdiv p1 10)), ([(Ex (IntKind.wrap .u8 (IntKind.wrap .i64 (48 + (Int.tmod p1 10)))))] : Bs), ⟨K, K, trivial⟩, SP.sel m [] rfl rfl, H⟩
def Yw (b : Int → Int → Option (Int × Bool)) (p1 : (List UInt8)) (c : Int) (a : Int) (d : Bool) : Option (Int × Bool) :=
  (cond d (some (0, false)) ((idx p1 a).bind fun e => (b (IntKind.wrap .i64 ((IntKind.wrap .i64 (10 * c)) + (IntKind.wrap .i64 (IntKind.wrap .u8 (((e).toNat : Int) - 48))))) (IntKind.wrap .i64 (a + 1)))))
def Xh (c : Int → Int → Option (Int × Bool)) (a : Int) (b : Bool) : Option (Int × Bool) :=
  (cond b (some (0, false)) (some (a, true)))
def Xi (b : Int → Int → Option (Int × Bool)) (p1 : (List UInt8)) (a : Int) (c : Int) : Option (Int × Bool) :=
  (cond (decide (c < ((List.length p1 : Nat) : Int))) ((idx p1 c).bind fun d => (cond (decide (((d).toNat : Int) < 48)) (Yw b p1 a c true) ((idx p1 c).bind fun e => (cond (decide (((e).toNat : Int) > 57)) (Yw b p1 a c true) (Yw b p1 a c (decide (c ≥ 13))))))) (cond (((List.length p1 : Nat) : Int) == 0) (Xh b a true) ((idx p1 0).bind fun f => (cond (((f).toNat : Int) == 48) (cond (decide (((List.length p1 : Nat) : Int) > 1)) (Xh b a true) (Xh b a (decide (a > 1099511627776)))) (Xh b a (decide (a > 1099511627776)))))))
def Vy (p1 : (List UInt8)) : Nat → Int → Int → Option (Int × Bool)
  | 0, _, _ => none
  | f + 1, a, b => Xi  (Vy p1 f) p1 a b
def Y7 (p1 : (List UInt8)) : Option (Int × Bool) :=
  (Vy p1 Zj 0 0)
set_option maxHeartbeats 40000000 in
theorem Up  (p1 : Bs) (w0 : World)  (r : (Int × Bool)) (H : Y7 p1 = some r) :
  Calls Tryz.prog 71 #[(sv p1)] w0 (fun e W => e = .returned (.tuple #[(iv r.1), (bv r.2)]) ∧ SP [] w0 W []) := by
 unfold Y7 at H
 refine Qt (n := 52) Tryz.func71 K K K ?_
 have q := Qw [] w0
 refine aC ?_
 refine iR 2 2 [(2, (iv 0)), (3, (bv false))] ?_
 refine iF ?_
 refine aC ?_
 refine iR 1 1 [(4, (iv 0))] ?_
 refine iF ?_
 refine aQ ?_
 refine aC ?_
 refine iR 1 1 [(5, (iv 0))] ?_
 refine iF ?_
 refine Z3 K (id := 0) K ?_
 refine Gm K (fun f5 ρ w => ∃ (b : Int) (c : Int), Vq ρ [(0, (sv p1)), (4, (iv b)), (5, (iv c))] ∧ SP [] w0 w [] ∧ Vy p1 f5 b c = some r) (by rintro ρ w ⟨b, c, hk, hs, H⟩; cases H) ?_ Zj ?_
 ·rintro f5 ρ a3 ⟨b, c, hk, f, H⟩
  refine At.known _ hk ?_
  replace H := (show Xi (Vy p1 f5) p1 b c = some r from H)
  unfold Xi at H
  refine aQ ?_
  refine aC ?_
  refine iR 4 4 [(6, (iv c)), (7, (sv p1)), (8, (iv (ln p1))), (9, (bv (decide (c < (ln p1)))))] ?_
  refine iF ?_
  refine cD 9 H (fun H => ?_) fun H => ?_
  ·refine At.skip K ?_
   refine aQ ?_
   refine Z3 K (id := 1) K ?_
   refine aQ ?_
   refine aQ ?_
   refine At.join (fun ρ w => ∃ (i : Bool), Vq ρ [(0, (sv p1)), (4, (iv b)), (5, (iv c)), (25, (bv i))] ∧ SP [] w0 w [] ∧ Yw (Vy p1 f5) p1 b c i = some r) ?_ ?_
   ·refine aR ?_
    refine iR 2 2 [(12, (sv p1)), (13, (iv c))] ?_
    obtain ⟨j, s, a4, t, H⟩ := Qu H
    refine iS 3 ?_
    refine Xg (a := p1) (u := j) (T := 9) (x := (.tmp 12)) (ix := (.tmp 13)) (ki := .i64) (iz := c) (d := (some 14)) (k := 2) K rfl K K K s t ?_
    refine iR 2 5 [(15, (bv (decide (((j).toNat : Int) < 48)))), (16, (bv (decide (((j).toNat : Int) < 48))))] ?_
    refine gD 16 H (fun H => ?_) fun H => ?_
    ·refine iR 9 14 (uN 17 4 ((21, (bv true)) :: (22, (bv true)) :: (uN 23 2 [(25, (bv true))]))) ?_
     refine iF ?_
     exact ⟨true, ⟨K, K, K, K, trivial⟩, SP.sel f [] rfl rfl, H⟩
    refine iR 2 7 [(17, (sv p1)), (18, (iv c))] ?_
    obtain ⟨h, v, a5, y, H⟩ := Qu H
    refine iS 8 ?_
    refine Xg (a := p1) (u := h) (T := 9) (x := (.tmp 17)) (ix := (.tmp 18)) (ki := .i64) (iz := c) (d := (some 19)) (k := 7) K rfl K K K v y ?_
    refine iR 3 11 [(20, (bv (decide (((h).toNat : Int) > 57)))), (21, (bv (decide (((h).toNat : Int) > 57)))), (22, (bv (decide (((h).toNat : Int) > 57))))] ?_
    refine gD 22 H (fun H => ?_) fun H => ?_
    ·refine iR 3 14 [(23, undef), (24, undef), (25, (bv true))] ?_
     refine iF ?_
     exact ⟨true, ⟨K, K, K, K, trivial⟩, SP.sel f [] rfl rfl, H⟩
    refine iR 3 14 [(23, (iv c)), (24, (bv (decide (c ≥ 13)))), (25, (bv (decide (c ≥ 13))))] ?_
    refine iF ?_
    exact ⟨(decide (c ≥ 13)), ⟨K, K, K, K, trivial⟩, SP.sel f [] rfl rfl, H⟩
   rintro ρ a6 ⟨i, hk, o, H⟩
   unfold Yw at H
   first | refine At.known _ hk ?_ | rw [← Qo hk]
   refine cD 25 H (fun H => ?_) fun H => ?_
   ·refine aC ?_
    refine iR 2 2 [(2, (iv 0)), (3, (bv false))] ?_
    refine iF ?_
    refine At.ret K ?_
    refine ⟨(.tuple #[(iv 0), (bv false)]), K, ?_⟩
    obtain rfl := Qe H
    exact ⟨rfl, SP.sel o [] rfl rfl⟩
   refine At.skip K ?_
   refine aR ?_
   refine iR 4 4 [(26, (iv b)), (27, (iv (IntKind.wrap .i64 (10 * b)))), (28, (sv p1)), (29, (iv c))] ?_
   obtain ⟨g, z, a7, a0, H⟩ := Qu H
   refine iS 5 ?_
   refine Xg (a := p1) (u := g) (T := 9) (x := (.tmp 28)) (ix := (.tmp 29)) (ki := .i64) (iz := c) (d := (some 30)) (k := 4) K rfl K K K z a0 ?_
   refine iR 4 9 [(31, (.int .u8 (IntKind.wrap .u8 (((g).toNat : Int) - 48)))), (32, (iv (IntKind.wrap .i64 (IntKind.wrap .u8 (((g).toNat : Int) - 48))))), (33, (iv (IntKind.wrap .i64 ((IntKind.wrap .i64 (10 * b)) + (IntKind.wrap .i64 (IntKind.wrap .u8 (((g).toNat : Int) - 48))))))), (4, (iv (IntKind.wrap .i64 ((IntKind.wrap .i64 (10 * b)) + (IntKind.wrap .i64 (IntKind.wrap .u8 (((g).toNat : Int) - 48)))))))] ?_
   refine iF ?_
   refine aR ?_
   refine iR 3 3 [(10, (iv c)), (11, (iv (IntKind.wrap .i64 (c + 1)))), (5, (iv (IntKind.wrap .i64 (c + 1))))] ?_
   refine iF ?_
   exact ⟨(IntKind.wrap .i64 ((IntKind.wrap .i64 (10 * b)) + (IntKind.wrap .i64 (IntKind.wrap .u8 (((g).toNat : Int) - 48))))), (IntKind.wrap .i64 (c + 1)), ⟨K, K, K, trivial⟩, SP.sel o [] rfl rfl, H⟩
  refine At.exit K (id := 0) K ?_
  refine aQ ?_
  refine aQ ?_
  refine At.join (fun ρ w => ∃ (l : Bool), Vq ρ [(4, (iv b)), (50, (bv l))] ∧ SP [] w0 w [] ∧ Xh (Vy p1 f5) b l = some r) ?_ ?_
  ·refine aR ?_
   refine iR 4 4 [(34, (sv p1)), (35, (iv (ln p1))), (36, (bv ((ln p1) == 0))), (37, (bv ((ln p1) == 0)))] ?_
   refine gD 37 H (fun H => ?_) fun H => ?_
   ·refine iR 13 17 (uN 38 8 ((46, (bv true)) :: (47, (bv true)) :: (uN 48 2 [(50, (bv true))]))) ?_
    refine iF ?_
    exact ⟨true, ⟨K, K, trivial⟩, SP.sel f [] rfl rfl, H⟩
   refine iR 1 5 [(38, (sv p1))] ?_
   obtain ⟨m, a1, a8, a2, H⟩ := Qu H
   refine iS 6 ?_
   refine Xg (a := p1) (u := m) (T := 9) (x := (.tmp 38)) (ix := (.const (.int .i64 (0)))) (ki := .i64) (iz := 0) (d := (some 39)) (k := 5) K rfl K K K a1 a2 ?_
   refine iR 2 8 [(40, (bv (((m).toNat : Int) == 48))), (41, (bv (((m).toNat : Int) == 48)))] ?_
   refine gD 41 H (fun H => ?_) fun H => ?_
   ·refine iR 6 14 [(42, (sv p1)), (43, (iv (ln p1))), (44, (bv (decide ((ln p1) > 1)))), (45, (bv (decide ((ln p1) > 1)))), (46, (bv (decide ((ln p1) > 1)))), (47, (bv (decide ((ln p1) > 1))))] ?_
    refine gD 47 H (fun H => ?_) fun H => ?_
    ·refine iR 3 17 [(48, undef), (49, undef), (50, (bv true))] ?_
     refine iF ?_
     exact ⟨true, ⟨K, K, trivial⟩, SP.sel f [] rfl rfl, H⟩
    refine iR 3 17 [(48, (iv b)), (49, (bv (decide (b > 1099511627776)))), (50, (bv (decide (b > 1099511627776))))] ?_
    refine iF ?_
    exact ⟨(decide (b > 1099511627776)), ⟨K, K, trivial⟩, SP.sel f [] rfl rfl, H⟩
   refine iR 9 17 (uN 42 3 [(45, (bv false)), (46, (bv false)), (47, (bv false)), (48, (iv b)), (49, (bv (decide (b > 1099511627776)))), (50, (bv (decide (b > 1099511627776))))]) ?_
   refine iF ?_
   exact ⟨(decide (b > 1099511627776)), ⟨K, K, trivial⟩, SP.sel f [] rfl rfl, H⟩
  rintro ρ a9 ⟨l, hk, p, H⟩
  unfold Xh at H
  first | refine At.known _ hk ?_ | rw [← Qo hk]
  refine cD 50 H (fun H => ?_) fun H => ?_
  ·refine aC ?_
   refine iR 2 2 [(2, (iv 0)), (3, (bv false))] ?_
   refine iF ?_
   refine At.ret K ?_
   refine ⟨(.tuple #[(iv 0), (bv false)]), K, ?_⟩
   obtain rfl := Qe H
   exact ⟨rfl, SP.sel p [] rfl rfl⟩
  refine At.skip K ?_
  refine aC ?_
  refine iR 3 3 [(51, (iv b)), (2, (iv b)), (3, (bv true))] ?_
  refine iF ?_
  refine At.ret K ?_
  refine ⟨(.tuple #[(iv b), (bv true)]), K, ?_⟩
  obtain rfl := Qe H
  exact ⟨rfl, SP.sel p [] rfl rfl⟩
 exact ⟨0, 0, ⟨K, K, K, trivial⟩, SP.sel q [] rfl rfl, H⟩
end Go.Proofs.YtoflbpmbkmephaaGreatDoor
