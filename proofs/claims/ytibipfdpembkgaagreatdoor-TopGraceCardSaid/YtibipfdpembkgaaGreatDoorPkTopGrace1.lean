import Derived.WalkKit
import Derived.WalkSpells
import Derived.WalkLawsBesides
import Derived.BigQuiet
import Derived.Deep.QuietTactic
import Derived.Deep.RegionWith
import Derived.Deep.RegionHeld3
import Derived.Deep.RegionLaw
import Derived.Deep.LoopGhost
import Derived.Deep.DeepCutAuto
import Derived.Deep.DeepFit
import Derived.StillTailTactics
import Derived.Laws.EntriesVeiled
import Derived.Laws.BytesString
import Derived.Lib.Hide
import Derived.Orders
import Derived.Deep.AppendSrc
import Derived.Laws.BytesArg
import Derived.Laws.CopyRow
import Derived.Lib.SmallJoins
import Derived.Laws.IdiomStrings
import Derived.Shelf.Strings.Builder1
import Derived.Shelf.Strings.Builder2
import Derived.Shelf.Strings.OnBuilder
import Derived.Shelf.Strings.Trim
import Derived.Shelf.Small.Utf8
import Derived.Shelf.Small.Bits
import Derived.Shelf.Small.Strs
import Derived.Shelf.Strings.BuilderF
import Derived.Shelf.Strings.BuilderK
import Derived.Shelf.Strings.Builder2Cap
import Derived.Shelf.Strconv.Itoa0
import Derived.Shelf.Strconv.Itoa1
import Derived.Shelf.LaysM
import Derived.Shelf.Strconv.Itoa2
import Derived.Shelf.Strconv.Itoa3
import Derived.Shelf.Strconv.Itoa4
import Derived.Shelf.Strings.Search1
import Derived.Shelf.Unicode.Decode
import Derived.Shelf.Strings.Runes
import Derived.Shelf.Strings.AsciiSet
import Derived.Shelf.Unicode.DecodeSlow
import Derived.Shelf.Unicode.DecodeAny
import Derived.Shelf.Unicode.DecodeLast
import Derived.Shelf.Strings.BuilderCap
import Derived.Ground.Names2Prog
import Derived.Shelf.Slices.Clone
import Derived.Shelf.Slices.SearchI
import Derived.Ground.SlgnProg
import Derived.Shelf.SlicesE.Clone
import Derived.Shelf.Strings.SlTrimAscii
import Derived.Laws.OwnMore
import GoSem.Step
import Derived.RangeFuncLeaves
import Derived.OrdersIn
import Derived.Below
import Derived.Laws.StructEq
import Derived.Laws.Strings2
import Derived.Laws.Concat
import Derived.Lib.Join
import Derived.WalkSmall
import Derived.Lib.AppendIntMem
import Derived.ProofKit
import Derived.OpenShut
import Derived.ShutString
import Derived.ChangeOld
import Derived.Deep.Strs
import Derived.Deep.DeepHandedRow
import Derived.Lib.LaidTab
import Derived.LaidSub
import Derived.SevenTiedAt
import Derived.DataReads
import Derived.SizedLaws
import Derived.Test.YtibipfdpembkgaaGreatDoorRows
import Derived.Test.YtibipfdpembkgaaGreatDoorProg
import Derived.Test.YtibipfdpembkgaaGreatDoorCards
import Derived.Test.YtibipfdpembkgaaGreatDoorTie
set_option linter.unusedSimpArgs false
set_option linter.unusedVariables false
set_option linter.unusedSectionVars false
set_option maxRecDepth 100000
set_option maxHeartbeats 40000000
namespace Go.Proofs.YtibipfdpembkgaaGreatDoor
open Go.RowKit
def Rd (w : World) (A : Option Addr) (n c : Nat) (l : List UInt8) : Prop :=
  l.length = n ∧ n ≤ c ∧ c ≤ maxLen ∧
    (0 < n → ∃ b off, A = some ⟨b, off, none⟩ ∧ b < w.heap.size ∧ ∀ i, i < n → w.cell? ⟨b, off + i, none⟩ = some (.int .u8 ((l.getD i 0).toNat : Int)))
section
variable {w w' : World} {A : Option Addr} {n c : Nat} {l : List UInt8}
theorem Rd.keep (h : Rd w A n c l) (hs : w.heap.size ≤ w'.heap.size) (hk : ∀ b o, b < w.heap.size → w'.cell? ⟨b, o, none⟩ = w.cell? ⟨b, o, none⟩) : Rd w' A n c l := by
  obtain ⟨h1, h2, h3, h4⟩ := h
  refine ⟨h1, h2, h3, fun hn => ?_⟩
  obtain ⟨b, off, hA, hb, hc⟩ := h4 hn
  exact ⟨b, off, hA, by omega, fun i hi => (hk _ _ hb).trans (hc i hi)⟩
theorem Rd.below (h : Rd w A n c l) (hb : Below w.heap.size w w') : Rd w' A n c l :=
  h.keep hb.size fun _ _ hlt => hb.cell hlt
theorem Rd.alloc (h : Rd w A n c l) (o : Obj) : Rd (w.alloc o) A n c l :=
  h.below ((Below.refl _ _).alloc (Nat.le_refl _) o)
theorem Rd.drew (h : Rd w A n c l) : Rd w.drew A n c l := h
theorem Rd.nil (w : World) : Rd w none 0 0 [] := ⟨rfl, Nat.le_refl _, Nat.zero_le _, fun h => absurd h (by omega)⟩
theorem Rd.len (h : Rd w A n c l) : l.length = n := h.1
theorem Rd.le (h : Rd w A n c l) : n ≤ c := h.2.1
end
structure Mod (S : List Nat) (w w' : World) : Prop where
  os : w'.os = w.os
  tape : w'.tape = w.tape
  output : w'.output = w.output
  size : w.heap.size ≤ w'.heap.size
  block : ∀ k, k < w.heap.size → k ∉ S → w'.heap[k]? = w.heap[k]?
section
variable {S S' : List Nat} {a w w' : World}
theorem Mod.refl (S : List Nat) (w : World) : Mod S w w := ⟨rfl, rfl, rfl, Nat.le_refl _, fun _ _ _ => rfl⟩
theorem Mod.trans (h : Mod S a w) (k : Mod S w w') : Mod S a w' :=
  ⟨k.os.trans h.os, k.tape.trans h.tape, k.output.trans h.output, Nat.le_trans h.size k.size, fun i hi hn => (k.block i (Nat.lt_of_lt_of_le hi h.size) hn).trans (h.block i hi hn)⟩
theorem Mod.more (h : Mod S w w') (hS : ∀ k ∈ S, k ∈ S') : Mod S' w w' := ⟨h.os, h.tape, h.output, h.size, fun i hi hn => h.block i hi (fun hm => hn (hS i hm))⟩
theorem Mod.drew (h : Mod S a w) : Mod S a w.drew := ⟨h.os, h.tape, h.output, h.size, h.block⟩
theorem Mod.alloc (h : Mod S a w) (o : Obj) : Mod S a (w.alloc o) :=
  ⟨h.os, h.tape, h.output, Nat.le_trans h.size (by simp), fun i hi hn => (Below.heap_alloc w o i (Nat.lt_of_lt_of_le hi h.size)).trans (h.block i hi hn)⟩
theorem Yl (h : Below w.heap.size w w') (S : List Nat) : Mod S w w' := ⟨h.os, h.tape, h.output, h.size, fun i hi _ => h.block i hi⟩
theorem Mod.below {B : Nat} (h : Mod S w w') (hB : B ≤ w.heap.size) (hS : ∀ k ∈ S, B ≤ k) : Below B w w' :=
  ⟨h.os, h.tape, h.output, h.size, fun i hi => h.block i (by omega) (fun hm => by have := hS i hm; omega)⟩
theorem B8 {row : Option Nat} (h : w.grownBy w' row) (hr : ∀ k, row = some k → k ∈ S) : Mod S w w' :=
  ⟨h.os, h.tape, h.output, h.size, fun i hi hn => h.block i hi (fun e => hn (hr i e.symm))⟩
theorem Mod.cell (h : Mod S w w') {b o : Nat} (hb : b < w.heap.size) (hn : b ∉ S) : w'.cell? ⟨b, o, none⟩ = w.cell? ⟨b, o, none⟩ := World.cell?_of_block (h.block b hb hn)
theorem Rd.mod {A : Option Addr} {n c : Nat} {l : List UInt8} (h : Rd w A n c l) (hm : Mod S w w') (hS : ∀ b o, A = some ⟨b, o, none⟩ → b ∉ S) : Rd w' A n c l := by
  obtain ⟨h1, h2, h3, h4⟩ := h
  refine ⟨h1, h2, h3, fun hn => ?_⟩
  obtain ⟨b, off, hA, hb, hc⟩ := h4 hn
  exact ⟨b, off, hA, Nat.lt_of_lt_of_le hb hm.size, fun i hi => (hm.cell hb (hS _ _ hA)).trans (hc i hi)⟩
end
theorem Rd.cut {w : World} {A : Option Addr} {n c k : Nat} {l : List UInt8} (h : Rd w A n c l) (hk : k ≤ n) :
    Rd w (if c = k then A else A.map (·.add k)) (n - k) (c - k) (l.drop k) := by
  obtain ⟨h1, h2, h3, h4⟩ := h
  refine ⟨by rw [List.length_drop, h1], by omega, by omega, fun hn => ?_⟩
  obtain ⟨b, off, rfl, hb, hc⟩ := h4 (by omega)
  rw [if_neg (by omega)]
  refine ⟨b, off + k, ?_, hb, fun i hi => ?_⟩
  · have hadd : (⟨b, off, none⟩ : Addr).add k = ⟨b, off + k, none⟩ := by unfold Addr.add; split <;> simp_all
    simp [hadd]
  · have := hc (k + i) (by omega)
    rw [Nat.add_assoc, this]
    simp [List.getD, List.getElem?_drop]
theorem Rd.take {w : World} {A : Option Addr} {n c k : Nat} {l : List UInt8} (h : Rd w A n c l) (hk : k ≤ n) : Rd w A k c (l.take k) := by
  obtain ⟨h1, h2, h3, h4⟩ := h
  refine ⟨by rw [List.length_take, h1]; omega, by omega, h3, fun hn => ?_⟩
  obtain ⟨b, off, rfl, hb, hc⟩ := h4 (by omega)
  refine ⟨b, off, rfl, hb, fun i hi => ?_⟩
  rw [hc i (by omega)]
  simp [List.getD, List.getElem?_take, hi]
end Go.Proofs.YtibipfdpembkgaaGreatDoor
namespace Go.Proofs.YtibipfdpembkgaaGreatDoor
abbrev Fr := Nat → Value
def upd (ρ : Fr) (d : Nat) (v : Value) : Fr := fun t => match Nat.beq t d with | true => v | false => ρ t
def X8 (ρ : Fr) (d : Option Nat) (v : Value) : Fr := match d with | some d => upd ρ d v | none => ρ
def opv (ρ : Fr) : Operand → Value
  | .tmp t => ρ t
  | .const v => v
  | .global g => .pointer (some ⟨g, 0, none⟩)
  | .func f => .func (.func f) #[] #[]
theorem D2 (ρ : Fr) (d : Nat) (v : Value) : upd ρ d v d = v := by simp [upd]
theorem G4 {ρ : Fr} {d t : Nat} {v : Value} (h : t ≠ d) : upd ρ d v t = ρ t := by
  unfold upd
  have : Nat.beq t d = false := by
    cases hb : Nat.beq t d with
    | false => rfl
    | true => exact absurd (Nat.eq_of_beq_eq_true hb) h
  rw [this]
theorem D3 {ρ : Fr} {d : Nat} {v : Value} (h : ρ d = v) : upd ρ d v = ρ := by
  funext t
  by_cases ht : t = d
  · subst ht; rw [D2, h]
  · exact G4 ht
structure FA (n : Nat) (ρ : Fr) (a : Act) : Prop where
  defers : a.defers = []
  size : a.tmps.size = n
  get : ∀ t, a.tmps.getD t undef = ρ t
theorem FA.eval {n : Nat} {ρ : Fr} {a : Act} (h : FA n ρ a) : a.eval = opv ρ := by
  funext x
  cases x with
  | tmp t => exact h.get t
  | _ => rfl
theorem FA.put {n : Nat} {ρ : Fr} {a : Act} (h : FA n ρ a) {d : Nat} (hd : d < n) (v : Value) : FA n (upd ρ d v) (a.put (some d) v) := by
  refine ⟨h.defers, by simpa [Act.put] using h.size, fun t => ?_⟩
  have hs := h.size
  by_cases ht : t = d
  · subst ht
    rw [D2]
    simp [Act.put, hs, hd]
  · rw [G4 ht, ← h.get t]
    simp [Act.put, Array.getElem?_setIfInBounds_ne (fun e => ht e.symm)]
def Zj (n : Nat) (d : Option Nat) : Bool := match d with | some d => Nat.blt d n | none => true
theorem FA.putO {n : Nat} {ρ : Fr} {a : Act} (h : FA n ρ a) {d : Option Nat} (hd : Zj n d = true) (v : Value) : FA n (X8 ρ d v) (a.put d v) := by
  cases d with
  | none => exact h
  | some d => exact h.put (by simp only [Zj] at hd; exact Nat.le_of_ble_eq_true hd) v
abbrev Gg := Exit → Fr → World → Prop
def Er (n : Nat) (Q : Gg) : Exit → Act → World → Prop := fun e a w => ∃ ρ, FA n ρ a ∧ Q e ρ w
def W (P : Program) (n : Nat) (c : Code) (Q : Gg) (ρ : Fr) (w : World) : Prop := ∀ a, FA n ρ a → c.wp P (Er n Q) a w
def R5 (K : Fr → World → Prop) (Q : Gg) : Gg
  | .normal, ρ, w => K ρ w
  | e, ρ, w => Q e ρ w
def B9 (id : Nat) (Q : Gg) : Gg
  | .exit k, ρ, w => match Nat.beq k id with | true => Q .normal ρ w | false => Q (.exit k) ρ w
  | e, ρ, w => Q e ρ w
section
variable {P : Program} {n : Nat} {Q : Gg} {ρ : Fr} {w : World}
theorem W.mono {c : Code} {Q' : Gg} (h : W P n c Q' ρ w) (hq : ∀ e ρ w, Q' e ρ w → Q e ρ w) : W P n c Q ρ w :=
  fun a ha => Code.wp_mono (fun e a' w' ⟨ρ', h1, h2⟩ => ⟨ρ', h1, hq _ _ _ h2⟩) (h a ha)
theorem W.seq {x y : Code} (h : W P n x (R5 (W P n y Q) Q) ρ w) : W P n (.seq x y) Q ρ w := by
  intro a ha
  refine wp_seq (Code.wp_mono ?_ (h a ha))
  rintro e a' w' ⟨ρ', ha', hq⟩
  cases e with
  | normal => exact hq a' ha'
  | _ => exact ⟨ρ', ha', hq⟩
theorem W.skip (h : Q .normal ρ w) : W P n .skip Q ρ w := fun _ ha => wp_skip ⟨ρ, ha, h⟩
theorem W.ret (h : Q .ret ρ w) : W P n .ret Q ρ w := fun _ ha => wp_ret ⟨ρ, ha, h⟩
theorem W.exit {id : Nat} (h : Q (.exit id) ρ w) : W P n (.exit id) Q ρ w := fun _ ha => wp_exit ⟨ρ, ha, h⟩
theorem W.block {id : Nat} {c : Code} (h : W P n c (B9 id Q) ρ w) : W P n (.block id c) Q ρ w := by
  intro a ha
  refine wp_block (Code.wp_mono ?_ (h a ha))
  rintro e a' w' ⟨ρ', ha', hq⟩
  cases e with
  | exit k =>
    by_cases hk : k = id
    · subst hk
      simp only [Exit.inBlock, if_true]
      simp only [B9, Nat.beq_refl] at hq
      exact ⟨ρ', ha', hq⟩
    · simp only [Exit.inBlock, if_neg hk]
      have : Nat.beq k id = false := by
        cases hb : Nat.beq k id with
        | false => rfl
        | true => exact absurd (Nat.eq_of_beq_eq_true hb) hk
      simp only [B9, this] at hq
      exact ⟨ρ', ha', hq⟩
  | _ => exact ⟨ρ', ha', hq⟩
theorem W.cond {c : Operand} {x y : Code} {b : Bool} (hc : opv ρ c = .bool b) (h1 : b = true → W P n x Q ρ w) (h2 : b = false → W P n y Q ρ w) : W P n (.cond c x y) Q ρ w := by
  intro a ha
  exact wp_cond_split (by rw [ha.eval]; exact hc) (fun h => h1 h a ha) (fun h => h2 h a ha)
theorem W.join {c : Code} (Mid : Fr → World → Prop) (h : W P n c (R5 Mid Q) ρ w) (hm : ∀ ρ w, Mid ρ w → Q .normal ρ w) : W P n c Q ρ w :=
  h.mono fun e ρ w hq => by cases e <;> first | exact hm _ _ hq | exact hq
theorem Ca {c : Code} {Q : Exit → Act → World → Prop} (I : Nat → Act → World → Prop)
    (round : ∀ f a w, I f a w → c.wp P (Exit.then (fun a' w' => ∃ f', f' < f ∧ I f' a' w') Q) a w) : ∀ (f : Nat) (a : Act) (w : World), I f a w → (Code.loop c).wp P Q a w := by
  intro f a w h₀ b k cs
  have key : ∀ f a w, I f a w → ∃ e a' w', Q e a' w' ∧ Arrives P (lone (b.at a (.code c :: .inLoop c :: k)) cs w) b k cs e a' w' := by
    intro f
    induction f using Nat.strongRecOn with
    | _ f ih =>
      intro a w hI
      obtain ⟨e, a₁, w₁, hq, harr⟩ := round f a w hI b (.inLoop c :: k) cs
      cases e with
      | normal =>
        obtain ⟨f', hlt, hI₁⟩ := hq
        obtain ⟨e₂, a₂, w₂, hq₂, harr₂⟩ := ih f' hlt a₁ w₁ hI₁
        exact ⟨e₂, a₂, w₂, hq₂, .of_steps (Steps.trans harr (.one step_inLoop)) harr₂⟩
      | exit id => exact ⟨_, a₁, w₁, hq, .pass (x := .inLoop c) rfl (fun _ _ => .inl (by simp)) harr⟩
      | goto l => exact ⟨_, a₁, w₁, hq, .pass (x := .inLoop c) rfl (fun _ _ => .inl (by simp)) harr⟩
      | ret => exact ⟨_, a₁, w₁, hq, .pass (x := .inLoop c) rfl (fun _ _ => .inl (by simp)) harr⟩
      | panic ch => exact ⟨_, a₁, w₁, hq, .pass (x := .inLoop c) rfl (fun _ _ => .inl (by simp)) harr⟩
      | outgrown => exact ⟨_, a₁, w₁, hq, .pass (x := .inLoop c) rfl (fun _ _ => .inl (by simp)) harr⟩
  obtain ⟨e, a', w', hq, harr⟩ := key f a w h₀
  exact ⟨e, a', w', hq, .of_steps (.one step_loop) harr⟩
theorem W.loop {c : Code} (I : Nat → Fr → World → Prop) (h0 : ∀ ρ w, ¬ I 0 ρ w) (hr : ∀ f ρ w, I (f + 1) ρ w → W P n c (R5 (I f) Q) ρ w) (f : Nat) (h : I f ρ w) : W P n (.loop c) Q ρ w := by
  intro a ha
  refine Ca (fun f a w => ∃ ρ, FA n ρ a ∧ I f ρ w) ?_ f a w ⟨ρ, ha, h⟩
  rintro f a w ⟨ρ, ha, hI⟩
  cases f with
  | zero => exact absurd hI (h0 _ _)
  | succ f =>
    refine Code.wp_mono ?_ (hr f ρ w hI a ha)
    rintro e a' w' ⟨ρ', ha', hq⟩
    cases e with
    | normal => exact ⟨f, Nat.lt_succ_self f, ρ', ha', hq⟩
    | _ => exact ⟨ρ', ha', hq⟩
end
def Qh : Code → List Bool → Code
  | c, [] => c
  | .seq a _, false :: p => Qh a p
  | .seq _ b, true :: p => Qh b p
  | .cond _ a _, false :: p => Qh a p
  | .cond _ _ b, true :: p => Qh b p
  | .block _ c, _ :: p => Qh c p
  | .loop c, _ :: p => Qh c p
  | .scope c, _ :: p => Qh c p
  | _, _ :: _ => .skip
theorem Et (q : List Bool) : Qh .skip q = .skip := by
  cases q with
  | nil => rfl
  | cons b q => cases b <;> rfl
theorem Zo : ∀ (p : List Bool) (c : Code) (q : List Bool), Qh c (p ++ q) = Qh (Qh c p) q
  | [], c, q => by cases c <;> rfl
  | b :: p, c, q => by
    cases c <;> cases b <;> first
      | exact Zo p _ q
      | (simp only [List.cons_append, Qh]; exact (Et q).symm)
def X9 : Code → Nat × Nat × Operand
  | .seq _ _ => (1, 0, .const undef)
  | .cond c _ _ => (2, 0, c)
  | .block id _ => (3, id, .const undef)
  | .loop _ => (4, 0, .const undef)
  | .region id _ d => (5, id, .const (.bool d))
  | .exit id => (6, id, .const undef)
  | .ret => (7, 0, .const undef)
  | .skip => (8, 0, .const undef)
  | .scope _ => (9, 0, .const undef)
  | _ => (0, 0, .const undef)
def Z4 (k : Nat) (c : Code) : Bool := Nat.beq (X9 c).1 k
def Eu (c : Code) : Nat := (X9 c).2.1
def Cb (c : Code) : Operand := (X9 c).2.2
def Qq : Code → Array Oper
  | .region _ ops _ => ops
  | _ => #[]
def Up : Code → Bool
  | .region _ _ d => d
  | _ => true
section
variable {P : Program} {n : Nat} {Q : Gg} {ρ : Fr} {w : World} {B : Code} {p : List Bool}
theorem seq_of {c : Code} (h : Z4 1 c = true) : c = .seq (Qh c [false]) (Qh c [true]) := by
  cases c <;> first | exact absurd h (by decide) | (simp [Z4, X9] at h; done) | skip
  rename_i a b
  show Code.seq a b = Code.seq (Qh a []) (Qh b [])
  cases a <;> cases b <;> rfl
theorem Uq (c : Code) : Qh c [] = c := by cases c <;> rfl
theorem cond_of {c : Code} (h : Z4 2 c = true) : c = .cond (Cb c) (Qh c [false]) (Qh c [true]) := by
  cases c <;> first | (simp [Z4, X9] at h; done) | skip
  simp [Cb, X9, Qh, Uq]
theorem block_of {c : Code} (h : Z4 3 c = true) : c = .block (Eu c) (Qh c [false]) := by
  cases c <;> first | (simp [Z4, X9] at h; done) | skip
  simp [Eu, X9, Qh, Uq]
theorem loop_of {c : Code} (h : Z4 4 c = true) : c = .loop (Qh c [false]) := by
  cases c <;> first | (simp [Z4, X9] at h; done) | skip
  simp [Qh, Uq]
theorem Cc {c : Code} (h : Z4 5 c = true) : c = .region (Eu c) (Qq c) (Up c) := by
  cases c <;> first | (simp [Z4, X9] at h; done) | skip
  rfl
theorem exit_of {c : Code} (h : Z4 6 c = true) : c = .exit (Eu c) := by
  cases c <;> first | (simp [Z4, X9] at h; done) | skip
  rfl
theorem ret_of {c : Code} (h : Z4 7 c = true) : c = .ret := by
  cases c <;> first | (simp [Z4, X9] at h; done) | skip
  rfl
theorem skip_of {c : Code} (h : Z4 8 c = true) : c = .skip := by
  cases c <;> first | (simp [Z4, X9] at h; done) | skip
  rfl
def At (P : Program) (n : Nat) (B : Code) (p : List Bool) (Q : Gg) (ρ : Fr) (w : World) : Prop := W P n (Qh B p) Q ρ w
theorem At.seq (h : Z4 1 (Qh B p) = true) {p0 p1 : List Bool} (e0 : p0 = p ++ [false]) (e1 : p1 = p ++ [true]) (k : At P n B p0 (R5 (At P n B p1 Q) Q) ρ w) : At P n B p Q ρ w := by
  subst e0 e1
  unfold At
  rw [seq_of h]
  refine W.seq ?_
  rw [← Zo, ← Zo]
  exact k
theorem At.cond (h : Z4 2 (Qh B p) = true) {o : Operand} (ho : Cb (Qh B p) = o) {b : Bool} (hb : opv ρ o = .bool b) {p0 p1 : List Bool} (e0 : p0 = p ++ [false]) (e1 : p1 = p ++ [true])
    (k0 : b = true → At P n B p0 Q ρ w) (k1 : b = false → At P n B p1 Q ρ w) : At P n B p Q ρ w := by
  subst e0 e1
  unfold At at *
  rw [cond_of h, ho]
  refine W.cond hb ?_ ?_
  · rw [← Zo]; exact k0
  · rw [← Zo]; exact k1
theorem At.block (h : Z4 3 (Qh B p) = true) {id : Nat} (hid : Eu (Qh B p) = id) {p0 : List Bool} (e0 : p0 = p ++ [false]) (k : At P n B p0 (B9 id Q) ρ w) : At P n B p Q ρ w := by
  subst e0
  unfold At at *
  rw [block_of h, hid]
  refine W.block ?_
  rw [← Zo]
  exact k
theorem At.loop (h : Z4 4 (Qh B p) = true) {p0 : List Bool} (e0 : p0 = p ++ [false]) (I : Nat → Fr → World → Prop) (h0 : ∀ ρ w, ¬ I 0 ρ w)
    (hr : ∀ f ρ w, I (f + 1) ρ w → At P n B p0 (R5 (I f) Q) ρ w) (f : Nat) (k : I f ρ w) : At P n B p Q ρ w := by
  subst e0
  unfold At at *
  rw [loop_of h]
  refine W.loop I h0 ?_ f k
  rw [← Zo]
  exact hr
theorem At.exit (h : Z4 6 (Qh B p) = true) {id : Nat} (hid : Eu (Qh B p) = id) (k : Q (.exit id) ρ w) : At P n B p Q ρ w := by
  unfold At
  rw [exit_of h, hid]
  exact W.exit k
theorem At.ret (h : Z4 7 (Qh B p) = true) (k : Q .ret ρ w) : At P n B p Q ρ w := by
  unfold At
  rw [ret_of h]
  exact W.ret k
theorem At.skip (h : Z4 8 (Qh B p) = true) (k : Q .normal ρ w) : At P n B p Q ρ w := by
  unfold At
  rw [skip_of h]
  exact W.skip k
theorem At.join (Mid : Fr → World → Prop) (h : At P n B p (R5 Mid Q) ρ w) (hm : ∀ ρ w, Mid ρ w → Q .normal ρ w) : At P n B p Q ρ w := W.join Mid h hm
theorem At.frame {ρ' : Fr} (h : ρ = ρ') (k : At P n B p Q ρ' w) : At P n B p Q ρ w := by subst h; exact k
def Jd (ops : Array Oper) (ρ : Fr) (o : Oper) : Bool :=
  match o.guard with
  | none => true
  | some (j, want) => match (ops[j]?).bind (·.dst) with
    | none => false
    | some d => match ρ d with
      | .bool b => match b, want with | true, true => true | false, false => true | _, _ => false
      | _ => false
theorem Jh {ops : Array Oper} {ρ : Fr} {a : Act} {n : Nat} (ha : FA n ρ a) (o : Oper) : Region.wanted o (yielded ops a.tmps) = Jd ops ρ o := by
  unfold Region.wanted Jd
  cases hg : o.guard with
  | none => rfl
  | some gw =>
    obtain ⟨j, want⟩ := gw
    simp only [yielded]
    cases hd : (ops[j]?).bind (·.dst) with
    | none => cases want <;> rfl
    | some d =>
      have hget := ha.get d
      simp only [Option.bind_some]
      cases hx : a.tmps[d]? with
      | none =>
        have : ρ d = undef := by rw [← hget]; simp [Array.getD_eq_getD_getElem?, hx]
        rw [this]
        cases want <;> rfl
      | some v =>
        have : ρ d = v := by rw [← hget]; simp [Array.getD_eq_getD_getElem?, hx]
        rw [this]
        cases v <;> cases want <;> first | rfl | (rename_i b; cases b <;> rfl)
def Ya (P : Program) (n : Nat) (ops : Array Oper) : List Oper → Fr → World → Option (Fr × World)
  | [], ρ, w => some (ρ, w)
  | o :: l, ρ, w =>
    match Zj n o.dst with
    | false => none
    | true =>
      match Jd ops ρ o with
      | false => Ya P n ops l (X8 ρ o.dst undef) w
      | true =>
        match (execOp (opv ρ) o).run P w with
        | .ok (.value v) w' => Ya P n ops l (X8 ρ o.dst v) w'
        | .ok .skip w' => Ya P n ops l (X8 ρ o.dst undef) w'
        | _ => none
def In (P : Program) (n : Nat) (B : Code) (p : List Bool) (k : Nat) (Q : Gg) (ρ : Fr) (w : World) : Prop :=
  ∀ a, FA n ρ a → wpList P (Qq (Qh B p)) (Er n Q) ((Qq (Qh B p)).toList.drop k) a w
theorem At.region (h : Z4 5 (Qh B p) = true) (hd : Up (Qh B p) = false) (k : In P n B p 0 Q ρ w) : At P n B p Q ρ w := by
  intro a ha
  have := Cc h
  rw [this, hd]
  exact wp_region_list (k a ha)
theorem In.fin {k : Nat} (hk : (Qq (Qh B p)).size = k) (h : Q .normal ρ w) : In P n B p k Q ρ w := by
  intro a ha
  rw [List.drop_of_length_le (by rw [Array.length_toList]; omega)]
  exact ⟨ρ, ha, h⟩
theorem Yg {ops : Array Oper} {rest : List Oper} : ∀ (l : List Oper) (ρ : Fr) (w : World) (ρ' : Fr) (w' : World), Ya P n ops l ρ w = some (ρ', w') →
    (∀ a, FA n ρ' a → wpList P ops (Er n Q) rest a w') → ∀ a, FA n ρ a → wpList P ops (Er n Q) (l ++ rest) a w
  | [], ρ, w, ρ', w', h, hk, a, ha => by
    simp only [Ya, Option.some.injEq, Prod.mk.injEq] at h
    obtain ⟨rfl, rfl⟩ := h
    exact hk a ha
  | o :: l, ρ, w, ρ', w', h, hk, a, ha => by
    simp only [Ya] at h
    cases hdst : Zj n o.dst with
    | false => rw [hdst] at h; cases h
    | true =>
      rw [hdst] at h
      simp only at h
      show wpList P ops (Er n Q) (o :: (l ++ rest)) a w
      unfold wpList
      rw [Jh ha o]
      cases hw : Jd ops ρ o with
      | false =>
        rw [hw] at h
        simp only [Bool.false_eq_true, if_false]
        exact Yg l _ _ _ _ h hk _ (ha.putO hdst _)
      | true =>
        rw [hw] at h
        simp only at h
        simp only [if_true]
        refine .inl ?_
        unfold Oper.wp
        rw [ha.eval]
        cases hr : (execOp (opv ρ) o).run P w with
        | halt x w1 => rw [hr] at h; cases h
        | ok nx w1 =>
          rw [hr] at h
          cases nx <;> first | (cases h; done) | skip
          · exact Yg l _ _ _ _ h hk _ (ha.putO hdst _)
          · exact Yg l _ _ _ _ h hk _ (ha.putO hdst _)
theorem In.run {k k' : Nat} (m : Nat) (hk : k' = k + m) (ρ' : Fr) (h : Ya P n (Qq (Qh B p)) (((Qq (Qh B p)).toList.drop k).take m) ρ w = some (ρ', w))
    (next : In P n B p k' Q ρ' w) : In P n B p k Q ρ w := by
  subst hk
  intro a ha
  have hl : (Qq (Qh B p)).toList.drop k = ((Qq (Qh B p)).toList.drop k).take m ++ (Qq (Qh B p)).toList.drop (k + m) := by
    rw [← List.drop_drop, List.take_append_drop]
  rw [hl]
  exact Yg _ _ _ _ _ h next a ha
def Uf (c : Code) (k : Nat) (ρ : Fr) : Option (Op × Option Nat) :=
  match (Qq c)[k]? with
  | some o => match Jd (Qq c) ρ o with
    | true => some (o.op, o.dst)
    | false => none
  | none => none
theorem Na {c : Code} {k : Nat} {ρ : Fr} {op : Op} {d : Option Nat} (h : Uf c k ρ = some (op, d)) : ∃ o, (Qq c)[k]? = some o ∧ o.op = op ∧ o.dst = d ∧ Jd (Qq c) ρ o = true := by
  unfold Uf at h
  cases ho : (Qq c)[k]? with
  | none => rw [ho] at h; cases h
  | some o =>
    rw [ho] at h
    simp only at h
    split at h
    · rename_i hg
      simp only [Option.some.injEq, Prod.mk.injEq] at h
      exact ⟨o, rfl, h.1, h.2, hg⟩
    · cases h
theorem Cd {ops : Array Oper} {k : Nat} {o : Oper} (h : ops[k]? = some o) : ops.toList.drop k = o :: ops.toList.drop (k + 1) := by
  obtain ⟨hk, hv⟩ := Array.getElem?_eq_some_iff.1 h
  rw [List.drop_eq_getElem_cons (by simpa using hk)]
  simp [hv]
def Qr (P : Program) (n : Nat) (B : Code) (p : List Bool) (k : Nat) (K : Fr → World → Prop) (ρ : Fr) (w : World) : Prop :=
  ∀ a, FA n ρ a → ∀ Q' : Exit → Act → World → Prop, wpOp P (Qq (Qh B p)) Q' k (fun a' w' => ∃ ρ', FA n ρ' a' ∧ K ρ' w') a w
theorem In.step {k k' : Nat} (hk : k' = k + 1) (hs : Nat.blt k (Qq (Qh B p)).size = true) (h : Qr P n B p k (In P n B p k' Q) ρ w) : In P n B p k Q ρ w := by
  subst hk
  intro a ha
  have hlt : k < (Qq (Qh B p)).size := Nat.le_of_ble_eq_true hs
  have ho : (Qq (Qh B p))[k]? = some (Qq (Qh B p))[k] := Array.getElem?_eq_getElem hlt
  have h1 := wpOp_mono (K' := fun a' w' => wpList P (Qq (Qh B p)) (Er n Q) ((Qq (Qh B p)).toList.drop (k + 1)) a' w') (fun a' w' ⟨ρ', ha', hn⟩ => hn a' ha') (h a ha (Er n Q))
  rw [Cd ho]
  unfold wpOp at h1
  rw [ho] at h1
  exact h1
section
variable {K : Fr → World → Prop}
theorem Qr.val {k : Nat} {op : Op} {d : Option Nat} (ho : Uf (Qh B p) k ρ = some (op, d)) (hd : Zj n d = true) {v : Value} {w' : World}
    (hrun : ∀ o : Oper, o.op = op → (execOp (opv ρ) o).run P w = .ok (.value v) w') (next : K (X8 ρ d v) w') : Qr P n B p k K ρ w := by
  intro a ha Q'
  obtain ⟨o, h1, h2, h3, h4⟩ := Na ho
  unfold wpOp
  rw [h1]
  simp only [Jh ha o, h4, if_true]
  refine .inl ?_
  unfold Oper.wp
  rw [ha.eval, hrun o h2]
  refine ⟨_, ?_, next⟩
  rw [h3]
  exact ha.putO hd v
theorem Fv {k : Nat} {op : Op} {d : Option Nat} (ho : Uf (Qh B p) k ρ = some (op, d)) (hd : Zj n d = true) {w' : World}
    (hrun : ∀ o : Oper, o.op = op → (execOp (opv ρ) o).run P w = .ok .skip w') (next : K (X8 ρ d undef) w') : Qr P n B p k K ρ w := by
  intro a ha Q'
  obtain ⟨o, h1, h2, h3, h4⟩ := Na ho
  unfold wpOp
  rw [h1]
  simp only [Jh ha o, h4, if_true]
  refine .inl ?_
  unfold Oper.wp
  rw [ha.eval, hrun o h2]
  refine ⟨_, ?_, next⟩
  rw [h3]
  exact ha.putO hd undef
theorem Qr.call {k : Nat} {op : Op} {d : Option Nat} (ho : Uf (Qh B p) k ρ = some (op, d)) (hd : Zj n d = true) {f : FuncId} {args : Array Value}
    (hrun : ∀ o : Oper, o.op = op → (execOp (opv ρ) o).run P w = .ok (.enter f args) w) {R : Ending → World → Prop} (hc : Calls P f args w R)
    (next : ∀ e w', R e w' → ∃ v, e = .returned v ∧ K (X8 ρ d v) w') : Qr P n B p k K ρ w := by
  intro a ha Q'
  obtain ⟨o, h1, h2, h3, h4⟩ := Na ho
  unfold wpOp
  rw [h1]
  simp only [Jh ha o, h4, if_true]
  refine .inl ?_
  unfold Oper.wp
  rw [ha.eval, hrun o h2, Oper.upon_enter]
  refine hc.mono fun e w' hR => ?_
  obtain ⟨v, rfl, hn⟩ := next e w' hR
  refine ⟨_, ?_, hn⟩
  rw [h3]
  exact ha.putO hd v
theorem Fw {k : Nat} {d : Option Nat} (ho : (Qq (Qh B p))[k]?.map (fun o => (Jd (Qq (Qh B p)) ρ o, o.dst)) = some (false, d)) (hd : Zj n d = true) (next : K (X8 ρ d undef) w) : Qr P n B p k K ρ w := by
  intro a ha Q'
  cases hk : (Qq (Qh B p))[k]? with
  | none => rw [hk] at ho; cases ho
  | some o =>
    rw [hk] at ho
    simp only [Option.map_some, Option.some.injEq, Prod.mk.injEq] at ho
    unfold wpOp
    rw [hk]
    simp only [Jh ha o, ho.1, Bool.false_eq_true, if_false]
    refine ⟨_, ?_, next⟩
    rw [ho.2]
    exact ha.putO hd undef
end
end
def Ce (f : Func) : Code := f.body.getD .skip
def Ur (fn : Func) (ρ : Fr) : Sem Value := do
  let vs ← fn.results.mapM fun
    | .tmp t => pure (ρ t)
    | .cell a t => do loadVar t (← asAddr (ρ a))
  pure (if h : vs.size = 1 then vs[0] else .tuple vs)
theorem G5 {fn : Func} {ρ : Fr} {a : Act} {n : Nat} (ha : FA n ρ a) : results fn a.tmps = Ur fn ρ := by
  unfold results Ur
  congr 1
  congr 1
  funext x
  cases x with
  | tmp t => simp only [ha.get t]
  | cell b t => simp only [ha.get b]
def retF (P : Program) (fn : Func) (R : Ending → World → Prop) : Gg
  | .normal, ρ, w | .ret, ρ, w => ∃ v, (Ur fn ρ).run P w = .ok v w ∧ R (.returned v) w
  | _, _, _ => False
theorem Cf {P : Program} {f : FuncId} {fn : Func} {args : Array Value} {w : World} {R : Ending → World → Prop} {n : Nat} {ρ : Fr}
    (hf : P.funcs[f]? = some fn) (hb : fn.body.isSome = true) (hn : fn.ntmps = n) (hle : args.size ≤ n) (hρ : ∀ t, (args ++ Array.replicate (n - args.size) undef).getD t undef = ρ t)
    (h : At P n (Ce fn) [] (retF P fn R) ρ w) : Calls P f args w R := by
  obtain ⟨c, hc⟩ := Option.isSome_iff_exists.1 hb
  refine calls_of_wp hf hc ?_
  have hbody : Qh (Ce fn) [] = c := by rw [Uq]; simp [Ce, hc]
  unfold At at h
  rw [hbody] at h
  have ha : FA n ρ { tmps := args ++ Array.replicate (fn.ntmps - args.size) undef, defers := [] } := by
    rw [hn]
    exact ⟨rfl, by simp; omega, hρ⟩
  refine Code.wp_mono ?_ (h _ ha)
  rintro e a' w' ⟨ρ', ha', hq⟩
  cases e with
  | normal =>
    obtain ⟨v, h1, h2⟩ := hq
    exact ⟨ha'.defers, v, by rw [G5 ha']; exact h1, h2⟩
  | ret =>
    obtain ⟨v, h1, h2⟩ := hq
    exact ⟨ha'.defers, v, by rw [G5 ha']; exact h1, h2⟩
  | _ => exact hq.elim
def G6 : List Value → Nat → Fr
  | [], _ => fun _ => undef
  | v :: l, i => upd (G6 l (i + 1)) i v
theorem Dc : ∀ (l : List Value) (i t : Nat), G6 l i t = if i ≤ t then l.getD (t - i) undef else undef
  | [], i, t => by simp [G6]
  | v :: l, i, t => by
    unfold G6
    by_cases ht : t = i
    · subst ht; rw [D2]; simp
    · rw [G4 ht, Dc l (i + 1) t]
      by_cases hlt : i ≤ t
      · rw [if_pos (by omega), if_pos hlt, show t - i = (t - (i + 1)) + 1 by omega]
        rfl
      · rw [if_neg (by omega), if_neg hlt]
theorem Ew (l : List Value) (n : Nat) (h : l.length ≤ n) (t : Nat) : (l.toArray ++ Array.replicate (n - l.toArray.size) undef).getD t undef = G6 l 0 t := by
  rw [Dc, if_pos (Nat.zero_le _), Nat.sub_zero]
  simp only [Array.getD_eq_getD_getElem?, List.getD]
  by_cases ht : t < l.length
  · rw [Array.getElem?_append_left (by simpa using ht)]
    simp
  · rw [Array.getElem?_append_right (by simpa using ht), List.getElem?_eq_none (by omega)]
    simp only [Array.getElem?_replicate]
    split <;> rfl
theorem Ey {P : Program} {f : FuncId} {fn : Func} {l : List Value} {w : World} {R : Ending → World → Prop} {n : Nat}
    (hf : P.funcs[f]? = some fn) (hb : fn.body.isSome = true) (hn : fn.ntmps = n) (hle : Nat.ble l.length n = true)
    (h : At P n (Ce fn) [] (retF P fn R) (G6 l 0) w) : Calls P f l.toArray w R :=
  Cf hf hb hn (by simpa using Nat.le_of_ble_eq_true hle) (Ew l n (Nat.le_of_ble_eq_true hle)) h
theorem K {p : Prop} (h : p := by kernel_rfl) : p := h
abbrev pt (b o : Nat) : Value := .pointer (some ⟨b, o, none⟩)
section
variable {P : Program} {n : Nat} {B : Code} {q : List Bool} {Q : Gg} {ρ : Fr} {w : World}
theorem At.sq (h : Z4 1 (Qh B q.reverse) = true) (k : At P n B (false :: q).reverse (R5 (At P n B (true :: q).reverse Q) Q) ρ w) : At P n B q.reverse Q ρ w :=
  At.seq h List.reverse_cons List.reverse_cons k
theorem At.cd (h : Z4 2 (Qh B q.reverse) = true) {o : Operand} (ho : Cb (Qh B q.reverse) = o) {b : Bool} (hb : opv ρ o = .bool b)
    (k0 : b = true → At P n B (false :: q).reverse Q ρ w) (k1 : b = false → At P n B (true :: q).reverse Q ρ w) : At P n B q.reverse Q ρ w :=
  At.cond h ho hb List.reverse_cons List.reverse_cons k0 k1
theorem Xu (h : Z4 3 (Qh B q.reverse) = true) {id : Nat} (hid : Eu (Qh B q.reverse) = id) (k : At P n B (false :: q).reverse (B9 id Q) ρ w) : At P n B q.reverse Q ρ w :=
  At.block h hid List.reverse_cons k
theorem U1 (h : Z4 4 (Qh B q.reverse) = true) (I : Nat → Fr → World → Prop) (h0 : ∀ ρ w, ¬ I 0 ρ w)
    (hr : ∀ f ρ w, I (f + 1) ρ w → At P n B (false :: q).reverse (R5 (I f) Q) ρ w) (f : Nat) (k : I f ρ w) : At P n B q.reverse Q ρ w :=
  At.loop h List.reverse_cons I h0 hr f k
theorem Z1 {P : Program} {f : FuncId} {fn : Func} {l : List Value} {w : World} {R : Ending → World → Prop} {n : Nat}
    (hf : P.funcs[f]? = some fn) (hb : fn.body.isSome = true) (hn : fn.ntmps = n) (hle : Nat.ble l.length n = true)
    (h : At P n (Ce fn) (List.reverse []) (retF P fn R) (G6 l 0) w) : Calls P f l.toArray w R := Ey hf hb hn hle h
end
end Go.Proofs.YtibipfdpembkgaaGreatDoor
namespace Go.Proofs.YtibipfdpembkgaaGreatDoor
open Go.RowKit
section
variable {P : Program} (w : World)
theorem R6 (base : Nat) (t tx ty e : TypeId) (i : TypeInfo) (z : Value) (size bytes : Nat) (ht : P.underlying t = some (.slice e)) (hi : P.info? e = some i) (hz : i.zero = some z)
    (hsize : i.size = size) (hby : i.bytes = bytes) (hzs : z.cells.size = size) (hsz : 0 < size)
    (v : Value) (n : Nat) (xs : List Value) (hown : w.ownsRow base e size v n xs) (x : Value) (m : Nat) (news : List Value) (hs : Src P size tx x m news w)
    (h63 : n + m ≤ maxLen) (hbytes : (n + m) * bytes ≤ 140737488355328) (hbase : base ≤ w.heap.size) :
    ∃ v' w', (Builtin.append_ #[t, tx] ty #[v, x]).run P w = .ok v' w' ∧ w'.ownsRow base e size v' (n + m) (xs ++ news) ∧ w.grownBy w' v.ownBlock ∧
      (v'.ownBlock = v.ownBlock ∨ v'.ownBlock = some w.heap.size) := by
  subst hsize
  subst hby
  have hl := hs.newsLen
  have hsmall : n + m ≤ 9223372036854775807 := by simp only [maxLen] at h63; omega
  have hlen : (xs ++ news).length = (n + m) * i.size := by rw [List.length_append, hown.1, hl, Nat.add_mul]
  have grown : ∀ (old : Nat), old < n + m → ∀ (row : Option Nat),
      (w.drew.alloc (.cells ((xs ++ news).toArray ++ Builtin.zeroCells z.cells (grownCap w (n + m) old e - (n + m))) e)).ownsRow base e i.size
        (.slice (some ⟨w.heap.size, 0, none⟩) (n + m) (grownCap w (n + m) old e)) (n + m) (xs ++ news) ∧
      w.grownBy (w.drew.alloc (.cells ((xs ++ news).toArray ++ Builtin.zeroCells z.cells (grownCap w (n + m) old e - (n + m))) e)) row := by
    intro old ho row
    have hge := grownCap_ge w (n + m) old e
    have hcm : grownCap w (n + m) old e ≤ maxLen := grownCap_le_maxLen w (n + m) old e h63
    refine ⟨⟨hlen, .inr ⟨w.heap.size, _, _, rfl, hbase, heap_alloc_new w.drew _, hge, hcm, ?_, ?_⟩⟩, ⟨rfl, rfl, rfl, by simp, fun k hk _ => Below.heap_alloc w.drew _ k hk⟩⟩
    · rw [Array.size_append, List.size_toArray, size_zeroCells, hzs, hlen, ← Nat.add_mul]
      congr 1
      omega
    · rw [Array.toList_append, ← hlen]
      exact List.take_left
  rcases hown.2 with ⟨rfl, rfl⟩ | ⟨g, cap, cur, rfl, hbg, hg, hnc, hcm, hcs, htake⟩
  · have hx : xs = [] := List.eq_nil_of_length_eq_zero (by simpa using hown.1)
    subst hx
    by_cases hm : m = 0
    · subst hm
      have hn : news = [] := List.eq_nil_of_length_eq_zero (by simpa using hl)
      subst hn
      refine ⟨.slice none 0 0, w, ?_, World.ownsRow_nil w base e i.size, World.grownBy.refl w _, .inl rfl⟩
      have h1 := hs.len w
      have h2 := hs.cells
      rcases hs.kind with ⟨e', hk⟩ | hk <;> simp [Builtin.append_, run_underlying ht, run_underlying hk, sizeOf, typeInfo, hi, h1, h2, storeCells]
    · have hr := run_append_grow_src (P := P) w t tx ty e i z ht hi hz none 0 0 [] (by simpa using run_firstCells_none w.drew i.size 0 0 0) x m news hs (by omega) (by omega)
        (growslice_fits (by omega) (by simpa using hbytes))
      have hgr := grown 0 (by omega) (Value.ownBlock (.slice none 0 0))
      simp only [Nat.zero_add, List.nil_append] at hgr hr ⊢
      exact ⟨_, _, hr, hgr.1, hgr.2, .inr rfl⟩
  · by_cases hroom : n + m ≤ cap
    · have hfit : n * i.size + news.length ≤ cur.size := by rw [hl, hcs, ← Nat.add_mul]; exact Nat.mul_le_mul_right _ hroom
      have hst := run_storeCells_at P g (n * i.size) e news 0 cur w hg (by simpa using hfit) hs.one
      simp only [Nat.add_zero] at hst
      have h2 := hs.len
      have h3 := hs.cells
      have hr : (Builtin.append_ #[t, tx] ty #[.slice (some ⟨g, 0, none⟩) n cap, x]).run P w =
          .ok (.slice (some ⟨g, 0, none⟩) (n + m) cap) (w.setRow g (cur.toList.take (n * i.size) ++ news ++ cur.toList.drop (n * i.size + news.length)).toArray) := by
        rcases hs.kind with ⟨e', hk⟩ | hk <;> simp [Builtin.append_, run_underlying ht, run_underlying hk, sizeOf, typeInfo, hi, h2, hroom, h3, Addr.add_lit, hst]
      refine ⟨_, _, hr, ⟨hlen, .inr ⟨g, cap, _, rfl, hbg, setRow_heap w g cur _ e _ hg, hroom, hcm, ?_, ?_⟩⟩, ⟨rfl, rfl, rfl, by simp, fun k _ hk => setRow_other w g k _ (fun e => hk (by simp [Value.ownBlock, e]))⟩, .inl rfl⟩
      · simp only [List.size_toArray, List.length_append, List.length_take, List.length_drop, Array.length_toList]
        omega
      · rw [htake, ← hlen]
        exact List.take_left
    · have holds : ∀ j u, xs[j]? = some u → w.drew.cell? ((⟨g, 0, none⟩ : Addr).add j) = some u := hown.drew.cells (g := g) rfl
      have hr := run_append_grow_src (P := P) w t tx ty e i z ht hi hz (some ⟨g, 0, none⟩) n cap xs (run_firstCells_some w.drew i.size n ⟨g, 0, none⟩ n cap xs hown.1 holds) x m news hs (by omega) (by omega)
        (growslice_fits (by omega) hbytes)
      have hgr := grown cap (by omega) (Value.ownBlock (.slice (some ⟨g, 0, none⟩) n cap))
      exact ⟨_, _, hr, hgr.1, hgr.2, .inr rfl⟩
end
end Go.Proofs.YtibipfdpembkgaaGreatDoor
namespace Go.Proofs.YtibipfdpembkgaaGreatDoor
open Go.RowKit
structure Ent where
  fp : List Nat
  ok : World → Prop
  loc : ∀ w w' : World, (∀ k ∈ fp, w'.heap[k]? = w.heap[k]?) → ok w → ok w'
def HL (S : List Nat) (B : Nat) (w : World) : List Ent → Prop
  | [] => True
  | e :: es => e.ok w ∧ (∀ k ∈ e.fp, (B ≤ k ∨ k ∈ S) ∧ k < w.heap.size ∧ ∀ e' ∈ es, k ∉ e'.fp) ∧ HL S B w es
section
variable {S : List Nat} {B : Nat} {w w' : World}
theorem HL.get : ∀ {es : List Ent} {i : Nat} {e : Ent}, HL S B w es → es[i]? = some e → e.ok w ∧ ∀ k ∈ e.fp, (B ≤ k ∨ k ∈ S) ∧ k < w.heap.size
  | [], i, e, _, h => by simp at h
  | x :: es, 0, e, h, hi => by
    simp at hi; subst hi
    exact ⟨h.1, fun k hk => ⟨(h.2.1 k hk).1, (h.2.1 k hk).2.1⟩⟩
  | x :: es, i + 1, e, h, hi => HL.get (es := es) h.2.2 (by simpa using hi)
theorem HL.mem : ∀ {es : List Ent} {e : Ent}, HL S B w es → e ∈ es → e.ok w ∧ ∀ k ∈ e.fp, (B ≤ k ∨ k ∈ S) ∧ k < w.heap.size := by
  intro es e h he
  obtain ⟨i, hi⟩ := List.mem_iff_getElem?.1 he
  exact h.get hi
theorem HL.keep : ∀ {es : List Ent}, HL S B w es → w.heap.size ≤ w'.heap.size → (∀ e ∈ es, ∀ k ∈ e.fp, w'.heap[k]? = w.heap[k]?) → HL S B w' es
  | [], _, _, _ => trivial
  | e :: es, h, hs, hk => ⟨e.loc w w' (hk e (by simp)) h.1, fun k hm => ⟨(h.2.1 k hm).1, Nat.lt_of_lt_of_le (h.2.1 k hm).2.1 hs, (h.2.1 k hm).2.2⟩, HL.keep h.2.2 hs fun e' he' => hk e' (List.mem_cons_of_mem _ he')⟩
theorem HL.below {es : List Ent} (h : HL S B w es) (hb : Below w.heap.size w w') : HL S B w' es :=
  h.keep hb.size fun e he k hk => hb.block k (h.mem he |>.2 k hk).2
theorem HL.append : ∀ {es fs : List Ent}, HL S B w es → HL S B w fs → (∀ e ∈ es, ∀ k ∈ e.fp, ∀ f ∈ fs, k ∉ f.fp) → HL S B w (es ++ fs)
  | [], fs, _, h, _ => h
  | e :: es, fs, h, hf, hd => ⟨h.1, fun k hk => ⟨(h.2.1 k hk).1, (h.2.1 k hk).2.1, fun e' he' => by
      rcases List.mem_append.1 he' with h1 | h1
      · exact (h.2.1 k hk).2.2 e' h1
      · exact hd e (by simp) k hk e' h1⟩, HL.append h.2.2 hf fun e' he' => hd e' (List.mem_cons_of_mem _ he')⟩
theorem HL.widen : ∀ {es : List Ent} {S' : List Nat} {B' : Nat}, HL S B w es → (∀ e ∈ es, ∀ k ∈ e.fp, (B ≤ k ∨ k ∈ S) → B' ≤ k ∨ k ∈ S') → HL S' B' w es
  | [], _, _, _, _ => trivial
  | e :: es, S', B', h, hw => ⟨h.1, fun k hk => ⟨hw e (by simp) k hk (h.2.1 k hk).1, (h.2.1 k hk).2⟩, HL.widen h.2.2 fun e' he' => hw e' (List.mem_cons_of_mem _ he')⟩
theorem HL.other : ∀ {es : List Ent} {i : Nat} {e : Ent}, HL S B w es → es[i]? = some e → ∀ e' ∈ es.eraseIdx i, ∀ k ∈ e.fp, k ∉ e'.fp
  | [], i, e, _, h => by simp at h
  | x :: es, 0, e, h, hi => by
    simp at hi; subst hi
    intro e' he' k hk
    exact (h.2.1 k hk).2.2 e' (by simpa using he')
  | x :: es, i + 1, e, h, hi => by
    intro e' he' k hk
    have hi' : es[i]? = some e := by simpa using hi
    simp only [List.eraseIdx_cons_succ, List.mem_cons] at he'
    rcases he' with rfl | he'
    · exact fun hk' => (h.2.1 k hk').2.2 e (List.mem_of_getElem? hi') hk
    · exact HL.other h.2.2 hi' e' he' k hk
theorem HL.set : ∀ {es : List Ent} {i : Nat} {e e' : Ent}, HL S B w es → es[i]? = some e → w.heap.size ≤ w'.heap.size → (∀ f ∈ es.eraseIdx i, ∀ k ∈ f.fp, w'.heap[k]? = w.heap[k]?) → e'.ok w' →
    (∀ k ∈ e'.fp, (k ∈ e.fp ∨ (w.heap.size ≤ k ∧ B ≤ k)) ∧ k < w'.heap.size) → HL S B w' (es.set i e')
  | [], i, e, e', _, h, _, _, _, _ => by simp at h
  | x :: es, 0, e, e', h, hi, hs, hk, hok, hfp => by
    simp at hi; subst hi
    refine ⟨hok, fun k hm => ?_, h.2.2.keep hs (by simpa using hk)⟩
    obtain ⟨h1, h2⟩ := hfp k hm
    rcases h1 with h1 | ⟨h1, h1'⟩
    · exact ⟨(h.2.1 k h1).1, h2, (h.2.1 k h1).2.2⟩
    · exact ⟨.inl h1', h2, fun f hf hkf => by have := (h.2.2.mem hf).2 k hkf; omega⟩
  | x :: es, i + 1, e, e', h, hi, hs, hk, hok, hfp => by
    have hi' : es[i]? = some e := by simpa using hi
    simp only [List.eraseIdx_cons_succ, List.mem_cons, forall_eq_or_imp] at hk
    refine ⟨x.loc w w' hk.1 h.1, fun k hm => ⟨(h.2.1 k hm).1, Nat.lt_of_lt_of_le (h.2.1 k hm).2.1 hs, fun f hf hkf => ?_⟩, HL.set h.2.2 hi' hs hk.2 hok hfp⟩
    rcases List.mem_or_eq_of_mem_set hf with hf | rfl
    · exact (h.2.1 k hm).2.2 f hf hkf
    · rcases (hfp k hkf).1 with h1 | ⟨h1, _⟩
      · exact (h.2.1 k hm).2.2 e (List.mem_of_getElem? hi') h1
      · have := (h.2.1 k hm).2.1; omega
end
structure SP (S : List Nat) (w0 w : World) (es : List Ent) : Prop where
  mod : Mod S w0 w
  own : HL S w0.heap.size w es
section
variable {S T : List Nat} {w0 w w' : World} {es : List Ent}
theorem SP.start (S : List Nat) (w : World) : SP S w w [] := ⟨Mod.refl S w, trivial⟩
theorem SP.get {i : Nat} {e : Ent} (h : SP S w0 w es) (hi : es[i]? = some e) : e.ok w := (h.own.get hi).1
theorem SP.below (h : SP S w0 w es) (hb : Below w.heap.size w w') : SP S w0 w' es := ⟨h.mod.trans (Yl hb S), h.own.below hb⟩
theorem SP.drew (h : SP S w0 w es) : SP S w0 w.drew es := h.below ((Below.refl _ _).drew)
theorem SP.push {e : Ent} (h : SP S w0 w es) (hb : Below w.heap.size w w') (hok : e.ok w') (hfp : ∀ k ∈ e.fp, w.heap.size ≤ k ∧ k < w'.heap.size) : SP S w0 w' (es ++ [e]) := by
  have hs := h.mod.size
  refine ⟨h.mod.trans (Yl hb S), (h.own.below hb).append ⟨hok, fun k hk => ⟨.inl (by have := (hfp k hk).1; omega), (hfp k hk).2, by simp⟩, trivial⟩ ?_⟩
  intro f hf k hk f' hf' hk'
  simp at hf'
  subst hf'
  have h1 := (h.own.mem hf).2 k hk
  have h2 := hfp k hk'
  omega
theorem SP.set {i : Nat} {e e' : Ent} (h : SP S w0 w es) (hi : es[i]? = some e) {T : List Nat} (hm : Mod T w w') (hT : ∀ k ∈ T, k ∈ e.fp) (hok : e'.ok w')
    (hfp : ∀ k ∈ e'.fp, (k ∈ e.fp ∨ w.heap.size ≤ k) ∧ k < w'.heap.size) : SP S w0 w' (es.set i e') := by
  have hs := h.mod.size
  have he := h.own.get hi
  refine ⟨⟨hm.os.trans h.mod.os, hm.tape.trans h.mod.tape, hm.output.trans h.mod.output, Nat.le_trans h.mod.size hm.size, fun k hk hn => ?_⟩, h.own.set hi hm.size ?_ hok ?_⟩
  · refine (hm.block k (Nat.lt_of_lt_of_le hk hs) fun hkT => ?_).trans (h.mod.block k hk hn)
    rcases (he.2 k (hT k hkT)).1 with h1 | h1
    · omega
    · exact hn h1
  · intro f hf k hk
    refine hm.block k (h.own.mem (List.mem_of_mem_eraseIdx hf) |>.2 k hk).2 fun hkT => ?_
    exact h.own.other hi f hf k (hT k hkT) hk
  · intro k hk
    obtain ⟨h1, h2⟩ := hfp k hk
    exact ⟨h1.imp id fun h => ⟨h, by omega⟩, h2⟩
theorem SP.call {es' : List Ent} (h : SP S w0 w es) (hc : SP [] w w' es') : SP S w0 w' (es ++ es') := by
  have hs := h.mod.size
  have hb : Below w.heap.size w w' := hc.mod.below (Nat.le_refl _) (by simp)
  refine ⟨h.mod.trans (Yl hb S), (h.own.below hb).append (hc.own.widen fun e he k hk hor => ?_) ?_⟩
  · rcases hor with h1 | h1
    · exact .inl (by omega)
    · simp at h1
  · intro f hf k hk f' hf' hk'
    have h1 := (h.own.mem hf).2 k hk
    rcases ((hc.own.mem hf').2 k hk').1 with h2 | h2
    · omega
    · simp at h2
theorem SP.keeps (h : SP [] w0 w es) : Below w0.heap.size w0 w := h.mod.below (Nat.le_refl _) (by simp)
end
def boxE (g : Nat) (t : TypeId) (cs : Array Value) : Ent :=
  ⟨[g], fun w => w.heap[g]? = some (.cells cs t (0, 0)), fun w w' h hk => by rw [h g (by simp)]; exact hk⟩
def row (E : TypeId) (sz : Nat) (v : Value) (n : Nat) (xs : List Value) : Ent :=
  ⟨v.ownBlock.toList, fun w => w.ownsRow 0 E sz v n xs, fun w w' h hk => by
    refine ⟨hk.1, ?_⟩
    rcases hk.2 with h1 | ⟨g, cap, cur, rfl, hb, hg, r⟩
    · exact .inl h1
    · exact .inr ⟨g, cap, cur, rfl, hb, by rw [h g (by simp [Value.ownBlock])]; exact hg, r⟩⟩
def RdX (w : World) (A : Option Addr) (n c sz : Nat) (xs : List Value) : Prop :=
  xs.length = n * sz ∧ n ≤ c ∧ c ≤ maxLen ∧ (0 < n → ∃ b off, A = some ⟨b, off, none⟩ ∧ b < w.heap.size ∧ ∀ j u, xs[j]? = some u → w.cell? ⟨b, off + j, none⟩ = some u)
section
variable {S T : List Nat} {w0 w w' : World} {es : List Ent} {A : Option Addr} {n c sz : Nat} {xs : List Value}
theorem RdX.mod (h : RdX w A n c sz xs) (hm : Mod S w w') (hS : ∀ b o, A = some ⟨b, o, none⟩ → b ∉ S) : RdX w' A n c sz xs := by
  obtain ⟨h1, h2, h3, h4⟩ := h
  refine ⟨h1, h2, h3, fun hn => ?_⟩
  obtain ⟨b, off, hA, hb, hc⟩ := h4 hn
  exact ⟨b, off, hA, Nat.lt_of_lt_of_le hb hm.size, fun j u hu => (hm.cell hb (hS _ _ hA)).trans (hc j u hu)⟩
theorem RdX.below (h : RdX w A n c sz xs) (hb : Below w.heap.size w w') : RdX w' A n c sz xs := h.mod (Yl hb []) (by simp)
theorem RdX.sp (h : RdX w0 A n c sz xs) (hs : SP [] w0 w es) : RdX w A n c sz xs := h.below hs.keeps
theorem RdX.nil (w : World) (sz : Nat) : RdX w none 0 0 sz [] := ⟨by simp, Nat.le_refl _, Nat.zero_le _, fun h => absurd h (by omega)⟩
theorem RdX.len (h : RdX w A n c sz xs) : xs.length = n * sz := h.1
theorem RdX.le (h : RdX w A n c sz xs) : n ≤ c := h.2.1
theorem RdX.max (h : RdX w A n c sz xs) : n ≤ maxLen := Nat.le_trans h.2.1 h.2.2.1
theorem row_rdx {E : TypeId} {A : Option Addr} {n c : Nat} (h : (row E sz (.slice A n c) n xs).ok w) : RdX w A n c sz xs := by
  rcases h.2 with ⟨hv, hn⟩ | ⟨g, cap, cur, hv, hb, hh, hnc, hcm, hcs, ht⟩
  · injection hv with hA hn' hc
    subst hA hn' hc
    exact ⟨h.1, Nat.le_refl _, Nat.zero_le _, fun h => absurd h (by omega)⟩
  · injection hv with hA hn' hc
    subst hA hc
    refine ⟨h.1, hnc, hcm, fun _ => ⟨g, 0, rfl, (Array.getElem?_eq_some_iff.1 hh).1, fun j u hu => ?_⟩⟩
    rw [Nat.zero_add]
    obtain ⟨hj, _⟩ := List.getElem?_eq_some_iff.1 hu
    rw [World.ownsRow.cellAt (g := g) (cap := c) h j (by rw [← h.1]; exact hj)]
    exact hu
theorem RdX.part (h : RdX w A n c sz xs) {i j : Nat} (hij : i ≤ j) (hjn : j ≤ n) :
    RdX w (if c = i then A else A.map (·.add (i * sz))) (j - i) (c - i) sz ((xs.take (j * sz)).drop (i * sz)) := by
  obtain ⟨h1, h2, h3, h4⟩ := h
  have hjs : j * sz ≤ n * sz := Nat.mul_le_mul_right _ hjn
  have his : i * sz ≤ j * sz := Nat.mul_le_mul_right _ hij
  refine ⟨by rw [List.length_drop, List.length_take, h1, Nat.sub_mul]; omega, by omega, by omega, fun hn => ?_⟩
  obtain ⟨b, off, rfl, hb, hc⟩ := h4 (by omega)
  rw [if_neg (by omega)]
  refine ⟨b, off + i * sz, ?_, hb, fun k u hu => ?_⟩
  · have hadd : (⟨b, off, none⟩ : Addr).add (i * sz) = ⟨b, off + i * sz, none⟩ := by unfold Addr.add; split <;> simp_all
    simp [hadd]
  · rw [List.getElem?_drop] at hu
    have hlt : i * sz + k < j * sz := by
      have := (List.getElem?_eq_some_iff.1 hu).1
      rw [List.length_take] at this
      omega
    rw [List.getElem?_take, if_pos hlt] at hu
    rw [Nat.add_assoc]
    exact hc _ _ hu
theorem Jq (b off k : Nat) : (⟨b, off, none⟩ : Addr).add k = ⟨b, off + k, none⟩ := by unfold Addr.add; split <;> simp_all
def Ih : TypeDesc → Bool
  | .struct _ | .array _ _ => true
  | _ => false
def loadF (P : Program) (t : TypeId) (off : Nat) (cs : Array Value) : Option Value :=
  match P.underlying t with
  | none => none
  | some d => match Ih d with
    | true => match P.info? t with
      | some i => match Nat.ble (off + i.size) cs.size with
        | true => some (.agg ((cs.toList.drop off).take i.size).toArray)
        | false => none
      | none => none
    | false => cs.toList[off]?
theorem Hs {P : Program} {t : TypeId} {g off : Nat} {cs : Array Value} {v : Value} {e : TypeId} {fr : Nat × Nat} (hl : loadF P t off cs = some v) (hg : w.heap[g]? = some (.cells cs e fr)) :
    (loadVar t ⟨g, off, none⟩).run P w = .ok v w := by
  have hcell : ∀ o, w.cell? ⟨g, o, none⟩ = cs[o]? := fun o => cell_of_row w g o cs e fr hg
  unfold loadF at hl
  cases hu : P.underlying t with
  | none => rw [hu] at hl; cases hl
  | some d =>
    rw [hu] at hl
    simp only at hl
    have hagg : (isAgg t).run P w = .ok (Ih d) w := by
      simp only [isAgg, Sem.run_bind, run_underlying hu, Result.andThen_ok]
      cases d <;> rfl
    cases hd : Ih d with
    | true =>
      rw [hd] at hl hagg
      simp only at hl
      cases hi : P.info? t with
      | none => rw [hi] at hl; cases hl
      | some i =>
        rw [hi] at hl
        simp only at hl
        cases hb : Nat.ble (off + i.size) cs.size with
        | false => rw [hb] at hl; cases hl
        | true =>
          rw [hb] at hl
          simp only [Option.some.injEq] at hl
          have hle := Nat.le_of_ble_eq_true hb
          have hsz : (sizeOf t).run P w = .ok i.size w := by simp [sizeOf, typeInfo, hi]
          have hlen : ((cs.toList.drop off).take i.size).length = i.size := by simp; omega
          have hload := run_loadCells_list (P := P) w ⟨g, off, none⟩ ((cs.toList.drop off).take i.size) (fun j u hu => by
            rw [Jq, hcell]
            rw [List.getElem?_take] at hu
            split at hu
            · rw [List.getElem?_drop] at hu
              simpa using hu
            · cases hu)
          rw [hlen] at hload
          simp only [loadVar, Sem.run_bind, hagg, Result.andThen_ok, if_true, hsz, hload]
          rw [← hl]
          rfl
    | false =>
      rw [hd] at hl hagg
      simp only at hl
      simp only [loadVar, Sem.run_bind, hagg, Result.andThen_ok, Bool.false_eq_true, if_false]
      have : w.cell? ⟨g, off, none⟩ = some v := by rw [hcell]; simpa using hl
      simp [load, Sem.run, this]
theorem Mod.setRow (w : World) (g : Nat) (cs : Array Value) : Mod [g] w (w.setRow g cs) :=
  ⟨rfl, rfl, rfl, by simp [World.setRow], fun k _ hk => setRow_other w g k cs (by simpa using hk)⟩
theorem SP.alloc {t : TypeId} {cs : Array Value} (h : SP S w0 w es) : SP S w0 (w.alloc (.cells cs t)) (es ++ [boxE w.heap.size t cs]) :=
  h.push ((Below.refl _ _).alloc (Nat.le_refl _) _) (heap_alloc_new w _) fun k hk => by
    have : k = w.heap.size := by simpa [boxE] using hk
    subst this
    simp
end
end Go.Proofs.YtibipfdpembkgaaGreatDoor
namespace Go.Proofs.YtibipfdpembkgaaGreatDoor
open Go.RowKit
structure Enc (α : Type) where
  sz : Nat
  enc : α → List Value
  len : ∀ x, (enc x).length = sz
  one : ∀ x, ∀ v ∈ enc x, v.oneCell' = true
def eU8 : Enc UInt8 := ⟨1, fun c => [.int .u8 (c.toNat : Int)], fun _ => rfl, fun _ v hv => by simp at hv; subst hv; rfl⟩
def Qg (k : IntKind) : Enc Int := ⟨1, fun n => [.int k n], fun _ => rfl, fun _ v hv => by simp at hv; subst hv; rfl⟩
def eStr : Enc (List UInt8) := ⟨1, fun s => [.string ⟨s.toArray⟩], fun _ => rfl, fun _ v hv => by simp at hv; subst hv; rfl⟩
section
variable {α : Type}
def Qd (e : Enc α) (l : List α) : List Value := l.flatMap e.enc
theorem Ez (e : Enc α) : Qd e [] = [] := rfl
theorem Yh (e : Enc α) (l m : List α) : Qd e (l ++ m) = Qd e l ++ Qd e m := by simp [Qd]
theorem Zc (e : Enc α) (x : α) (l : List α) : Qd e (x :: l) = e.enc x ++ Qd e l := by simp [Qd]
theorem Vg (e : Enc α) : ∀ l : List α, (Qd e l).length = l.length * e.sz
  | [] => by simp [Qd]
  | x :: l => by rw [Zc, List.length_append, e.len, Vg e l, List.length_cons, Nat.succ_mul]; omega
theorem Jr (e : Enc α) (l : List α) : ∀ v ∈ Qd e l, v.oneCell' = true := by
  intro v hv
  obtain ⟨x, _, hx⟩ := List.mem_flatMap.1 hv
  exact e.one x v hx
theorem Ym (e : Enc α) : ∀ (l : List α) (i : Nat), (Qd e l).drop (i * e.sz) = Qd e (l.drop i)
  | l, 0 => by simp
  | [], i + 1 => by simp [Qd]
  | x :: l, i + 1 => by
    rw [Zc, Nat.succ_mul, List.drop_succ_cons, ← Ym e l i, List.drop_append, List.drop_of_length_le (by rw [e.len]; omega), List.nil_append, e.len]
    congr 1
    omega
theorem Yn (e : Enc α) : ∀ (l : List α) (i : Nat), (Qd e l).take (i * e.sz) = Qd e (l.take i)
  | l, 0 => by simp [Qd]
  | [], i + 1 => by simp [Qd]
  | x :: l, i + 1 => by
    rw [Zc, Nat.succ_mul, List.take_succ_cons, Zc, ← Yn e l i, List.take_append, List.take_of_length_le (by rw [e.len]; omega), e.len]
    congr 2
    omega
theorem G7 (e : Enc α) {l : List α} {i : Nat} {x : α} (h : l[i]? = some x) {j : Nat} {u : Value} (hu : (e.enc x)[j]? = some u) : (Qd e l)[i * e.sz + j]? = some u := by
  have hd : (Qd e l).drop (i * e.sz) = Qd e (l.drop i) := Ym e l i
  rw [← List.getElem?_drop, hd]
  obtain ⟨hi, hx⟩ := List.getElem?_eq_some_iff.1 h
  rw [List.drop_eq_getElem_cons hi, hx, Zc, List.getElem?_append_left (List.getElem?_eq_some_iff.1 hu).1]
  exact hu
theorem E0 (e : Enc α) : ∀ (l : List α) (i : Nat) (x : α), i < l.length → (Qd e l).take (i * e.sz) ++ e.enc x ++ (Qd e l).drop (i * e.sz + e.sz) = Qd e (l.set i x) := by
  intro l i x hi
  rw [Yn, show i * e.sz + e.sz = (i + 1) * e.sz by rw [Nat.succ_mul], Ym, List.set_eq_take_append_cons_drop, if_pos hi, Yh, Zc, List.append_assoc]
def RdT (e : Enc α) (w : World) (A : Option Addr) (c : Nat) (l : List α) : Prop := RdX w A l.length c e.sz (Qd e l)
def B5 (E : TypeId) (e : Enc α) (A : Option Addr) (c : Nat) (l : List α) : Ent := row E e.sz (.slice A l.length c) l.length (Qd e l)
def rdE (e : Enc α) (A : Option Addr) (c : Nat) (l : List α) : Ent :=
  ⟨(match A with | some a => [a.block] | none => []), fun w => RdT e w A c l, fun w w' h hk => by
    obtain ⟨h1, h2, h3, h4⟩ := hk
    refine ⟨h1, h2, h3, fun hn => ?_⟩
    obtain ⟨b, off, hA, hb, hc⟩ := h4 hn
    subst hA
    have hb' := h b (by simp)
    refine ⟨b, off, rfl, ?_, fun j u hu => ?_⟩
    · have : w.heap[b]? = some w.heap[b] := Array.getElem?_eq_getElem hb
      rw [this] at hb'
      exact (Array.getElem?_eq_some_iff.1 hb').1
    · rw [← hc j u hu]; exact World.cell?_of_block hb'⟩
variable {e : Enc α} {w w' w0 : World} {A : Option Addr} {c : Nat} {l : List α} {E : TypeId} {es : List Ent} {S : List Nat}
theorem Nv (h : (B5 E e A c l).ok w) : RdT e w A c l := row_rdx h
theorem RdT.sp (h : RdT e w0 A c l) (hs : SP [] w0 w es) : RdT e w A c l := RdX.sp h hs
theorem RdT.mod (h : RdT e w A c l) (hm : Mod S w w') (hS : ∀ b o, A = some ⟨b, o, none⟩ → b ∉ S) : RdT e w' A c l := RdX.mod h hm hS
theorem RdT.below (h : RdT e w A c l) (hb : Below w.heap.size w w') : RdT e w' A c l := RdX.below h hb
theorem RdT.nil (e : Enc α) (w : World) : RdT e w none 0 [] := RdX.nil w e.sz
theorem RdT.max (h : RdT e w A c l) : l.length ≤ maxLen := RdX.max h
def Nw (sz c i : Nat) (A : Option Addr) : Option Addr := if c = i then A else A.map (·.add (i * sz))
theorem RdT.part (h : RdT e w A c l) {i j : Nat} (hij : i ≤ j) (hjn : j ≤ l.length) : RdT e w (Nw e.sz c i A) (c - i) ((l.take j).drop i) := by
  have := RdX.part h hij hjn
  rw [Yn, Ym] at this
  have hl : ((l.take j).drop i).length = j - i := by simp; omega
  unfold RdT
  rw [hl]
  exact this
end
def idx {α : Type} (l : List α) (i : Int) : Option α := if 0 ≤ i then l[i.toNat]? else none
def sub {α : Type} (l : List α) (i j : Int) : Option (List α) := if 0 ≤ i ∧ i ≤ j ∧ j ≤ (l.length : Int) then some ((l.take j.toNat).drop i.toNat) else none
def app {α : Type} (l m : List α) : Option (List α) := if l.length + m.length ≤ 2147483648 then some (l ++ m) else none
def chk (b : Bool) : Option Unit := match b with | true => some () | false => none
section
variable {α β : Type}
theorem Va {o : Option α} {K : α → Option β} {r : β} (h : o.bind K = some r) : ∃ x, o = some x ∧ K x = some r := by
  cases o with
  | none => cases h
  | some x => exact ⟨x, rfl, h⟩
theorem Qn {l : List α} {i : Int} {K : α → Option β} {r : β} (h : (idx l i).bind K = some r) : ∃ x, 0 ≤ i ∧ i < (l.length : Int) ∧ l[i.toNat]? = some x ∧ K x = some r := by
  obtain ⟨x, h1, h2⟩ := Va h
  unfold idx at h1
  split at h1
  · obtain ⟨h3, _⟩ := List.getElem?_eq_some_iff.1 h1
    exact ⟨x, ‹_›, by omega, h1, h2⟩
  · cases h1
theorem Js {l : List α} {i j : Int} {K : List α → Option β} {r : β} (h : (sub l i j).bind K = some r) : 0 ≤ i ∧ i ≤ j ∧ j ≤ (l.length : Int) ∧ K ((l.take j.toNat).drop i.toNat) = some r := by
  obtain ⟨x, h1, h2⟩ := Va h
  unfold sub at h1
  split at h1
  · rename_i hc
    injection h1 with h1
    subst h1
    exact ⟨hc.1, hc.2.1, hc.2.2, h2⟩
  · cases h1
theorem Gu {l m : List α} {K : List α → Option β} {r : β} (h : (app l m).bind K = some r) : l.length + m.length ≤ 2147483648 ∧ K (l ++ m) = some r := by
  obtain ⟨x, h1, h2⟩ := Va h
  unfold app at h1
  split at h1
  · injection h1 with h1; subst h1; exact ⟨‹_›, h2⟩
  · cases h1
theorem V7 {b : Bool} {K : Unit → Option β} {r : β} (h : (chk b).bind K = some r) : b = true ∧ K () = some r := by
  obtain ⟨x, h1, h2⟩ := Va h
  unfold chk at h1
  cases b
  · cases h1
  · exact ⟨rfl, h2⟩
end
section
variable {P : Program} {n : Nat} {Q : Gg} {ρ : Fr} {w w0 : World} {B : Code} {p : List Bool} {k : Nat} {d : Option Nat} {S : List Nat} {es : List Ent} {K : Fr → World → Prop}
theorem Qr.box {t : TypeId} {x : Operand} {v : Value} (ho : Uf (Qh B p) k ρ = some (.box t x, d)) (hd : Zj n d = true) (hv : opv ρ x = v) (hs : SP S w0 w es)
    (next : ∀ (g : Nat) (w' : World), SP S w0 w' (es ++ [boxE g t v.cells]) → K (X8 ρ d (.pointer (some ⟨g, 0, none⟩))) w') : Qr P n B p k K ρ w := by
  subst hv
  refine Qr.val ho hd (v := .pointer (some ⟨w.heap.size, 0, none⟩)) (w' := w.alloc (.cells (opv ρ x).cells t)) (fun o hop => ?_) (next _ _ hs.alloc)
  unfold execOp; rw [hop]; rfl
theorem Qr.alloc {t : TypeId} {z : Value} (ho : Uf (Qh B p) k ρ = some (.alloc t, d)) (hd : Zj n d = true) (hz : (P.info? t).bind (·.zero) = some z) (hs : SP S w0 w es)
    (next : ∀ (g : Nat) (w' : World), SP S w0 w' (es ++ [boxE g t z.cells]) → K (X8 ρ d (.pointer (some ⟨g, 0, none⟩))) w') : Qr P n B p k K ρ w := by
  refine Qr.val ho hd (v := .pointer (some ⟨w.heap.size, 0, none⟩)) (w' := w.alloc (.cells z.cells t)) (fun o hop => ?_) (next _ _ hs.alloc)
  unfold execOp; rw [hop]
  cases hi : P.info? t with
  | none => rw [hi] at hz; cases hz
  | some i =>
    rw [hi] at hz
    have hz : i.zero = some z := hz
    have hzv : (zeroValue t).run P w = .ok z w := by simp [zeroValue, typeInfo, hi, hz]
    simp only [Instr.alloc, Sem.run_bind, hzv, Result.andThen_ok]
    rfl
theorem Qr.load {t t' : TypeId} {x : Operand} {g off i : Nat} {cs : Array Value} {v : Value} (ho : Uf (Qh B p) k ρ = some (.load t x, d)) (hd : Zj n d = true)
    (hv : opv ρ x = .pointer (some ⟨g, off, none⟩)) (hs : SP S w0 w es) (hi : es[i]? = some (boxE g t' cs)) (hl : loadF P t off cs = some v)
    (next : K (X8 ρ d v) w) : Qr P n B p k K ρ w := by
  refine Qr.val ho hd (fun o hop => ?_) next
  have hg : w.heap[g]? = some (.cells cs t' (0, 0)) := hs.get hi
  have := Hs (w := w) hl hg
  unfold execOp; rw [hop]
  simp only [hv, Instr.loadAt, Instr.sureAddr, Sem.run_bind, Sem.run_pure, Result.andThen_ok, this]
variable {α : Type} {e : Enc α} {A : Option Addr} {c : Nat} {l : List α}
theorem E1 {T E : TypeId} {sz m c : Nat} {ki : IntKind} {iz : Int} {b off : Nat} (hT : P.underlying T = some (.slice E)) (hE : (P.info? E).map (·.size) = some sz) (h0 : 0 ≤ iz) (h1 : iz < (m : Int)) (w : World) :
    (Instr.indexAt T (.slice (some ⟨b, off, none⟩) m c) (.int ki iz)).run P w = .ok (.pointer (some ⟨b, off + iz.toNat * sz, none⟩)) w := by
  cases hi : P.info? E with
  | none => rw [hi] at hE; cases hE
  | some i =>
    rw [hi] at hE
    have hE : i.size = sz := by simpa using hE
    have hsz : (sizeOf E).run P w = .ok sz w := by simp [sizeOf, typeInfo, hi, hE]
    simp only [Instr.indexAt, asIntOf, Sem.run_bind, Sem.run_pure, Result.andThen_ok, run_underlying hT]
    simp [h0, h1, hsz, Jq]
theorem Cg {T E : TypeId} {x ix : Operand} {ki : IntKind} {iz : Int} (ho : Uf (Qh B p) k ρ = some (.indexAddr T x ix, d)) (hd : Zj n d = true)
    (hx : opv ρ x = .slice A l.length c) (hix : opv ρ ix = .int ki iz) (hT : P.underlying T = some (.slice E)) (hE : (P.info? E).map (·.size) = some e.sz) (hr : RdT e w A c l) (h0 : 0 ≤ iz) (h1 : iz < (l.length : Int))
    (next : ∀ b off : Nat, A = some ⟨b, off, none⟩ → b < w.heap.size → (∀ j u, (Qd e l)[j]? = some u → w.cell? ⟨b, off + j, none⟩ = some u) → K (X8 ρ d (.pointer (some ⟨b, off + iz.toNat * e.sz, none⟩))) w) :
    Qr P n B p k K ρ w := by
  obtain ⟨_, _, _, h4⟩ := hr
  obtain ⟨b, off, hA, hb, hc⟩ := h4 (by omega)
  refine Qr.val ho hd (fun o hop => ?_) (next b off hA hb hc)
  subst hA
  unfold execOp; rw [hop]
  simp only [hx, hix, Sem.run_bind, E1 hT hE h0 h1, Result.andThen_ok]
  rfl
theorem Qr.cell {t : TypeId} {x : Operand} {b off : Nat} {v : Value} (ho : Uf (Qh B p) k ρ = some (.load t x, d)) (hd : Zj n d = true)
    (hx : opv ρ x = .pointer (some ⟨b, off, none⟩)) (ht : (P.underlying t).map Ih = some false) (hc : w.cell? ⟨b, off, none⟩ = some v)
    (next : K (X8 ρ d v) w) : Qr P n B p k K ρ w := by
  refine Qr.val ho hd (fun o hop => ?_) next
  cases hu : P.underlying t with
  | none => rw [hu] at ht; cases ht
  | some dd =>
    rw [hu] at ht
    have ht : Ih dd = false := by simpa using ht
    have hagg : (isAgg t).run P w = .ok false w := by
      rw [← ht]
      simp only [isAgg, Sem.run_bind, run_underlying hu, Result.andThen_ok]
      cases dd <;> rfl
    unfold execOp; rw [hop]
    simp only [hx, Instr.loadAt, Instr.sureAddr, Sem.run_bind, Sem.run_pure, Result.andThen_ok, loadVar, hagg, Bool.false_eq_true, if_false]
    simp [Go.load, Sem.run, hc]
theorem Qr.cells {t : TypeId} {x : Operand} {b off : Nat} {xs : List Value} (ho : Uf (Qh B p) k ρ = some (.load t x, d)) (hd : Zj n d = true)
    (hx : opv ρ x = .pointer (some ⟨b, off, none⟩)) (ht : (P.underlying t).map Ih = some true) (hz : (P.info? t).map (·.size) = some xs.length) (hc : ∀ j u, xs[j]? = some u → w.cell? ⟨b, off + j, none⟩ = some u)
    (next : K (X8 ρ d (.agg xs.toArray)) w) : Qr P n B p k K ρ w := by
  refine Qr.val ho hd (fun o hop => ?_) next
  cases hu : P.underlying t with
  | none => rw [hu] at ht; cases ht
  | some dd =>
    rw [hu] at ht
    have ht : Ih dd = true := by simpa using ht
    have hagg : (isAgg t).run P w = .ok true w := by
      rw [← ht]
      simp only [isAgg, Sem.run_bind, run_underlying hu, Result.andThen_ok]
      cases dd <;> rfl
    cases hi : P.info? t with
    | none => rw [hi] at hz; cases hz
    | some i =>
      rw [hi] at hz
      have hz : i.size = xs.length := by simpa using hz
      have hsz : (sizeOf t).run P w = .ok xs.length w := by simp [sizeOf, typeInfo, hi, hz]
      have hload := run_loadCells_list (P := P) w ⟨b, off, none⟩ xs (fun j u hu => by rw [Jq]; exact hc j u hu)
      unfold execOp; rw [hop]
      simp only [hx, Instr.loadAt, Instr.sureAddr, Sem.run_bind, Sem.run_pure, Result.andThen_ok, loadVar, hagg, if_true, hsz, hload]
theorem Qi {x : α} {b off j : Nat} {iz : Int} {u : Value} {w : World} (hc : ∀ j u, (Qd e l)[j]? = some u → w.cell? ⟨b, off + j, none⟩ = some u) (hx : l[iz.toNat]? = some x) (hu : (e.enc x)[j]? = some u) :
    w.cell? ⟨b, off + iz.toNat * e.sz + j, none⟩ = some u := by
  rw [Nat.add_assoc]
  exact hc _ _ (G7 e hx hu)
theorem Dd {isS : Bool} {m cap : Nat} {lo hi : Option Value} {i j : Nat} (hlo : lo = none ∧ i = 0 ∨ ∃ kk, lo = some (.int kk (i : Int))) (hhi : hi = none ∧ j = m ∨ ∃ kk, hi = some (.int kk (j : Int))) (hij : i ≤ j) (hj : j ≤ m) (hm : m ≤ cap) (w : World) :
    (Instr.sliceBounds isS m cap lo hi none).run P w = .ok (i, j, cap) w := by
  have hj' : j ≤ cap := Nat.le_trans hj hm
  rcases hlo with ⟨rfl, rfl⟩ | ⟨kl, rfl⟩ <;> rcases hhi with ⟨rfl, rfl⟩ | ⟨kh, rfl⟩
  all_goals simp [Instr.sliceBounds, Instr.sliceBound, asIntOf, hij, hj']
def De (ρ : Fr) (o : Option Operand) (z : Int) (dflt : Nat) : Prop := match o with | none => z = (dflt : Int) | some x => ∃ kk, opv ρ x = .int kk z
theorem Qr.slice {T E : TypeId} {x : Operand} {lo hi : Option Operand} {i j : Int} (ho : Uf (Qh B p) k ρ = some (.slice T x lo hi none, d)) (hd : Zj n d = true)
    (hx : opv ρ x = .slice A l.length c) (hT : P.underlying T = some (.slice E)) (hE : (P.info? E).map (·.size) = some e.sz) (hlo : De ρ lo i 0) (hhi : De ρ hi j l.length) (hc : l.length ≤ c)
    (h0 : 0 ≤ i) (h1 : i ≤ j) (h2 : j ≤ (l.length : Int))
    (next : ∀ (A' : Option Addr) (c' : Nat), A' = Nw e.sz c i.toNat A → c' = c - i.toNat → (∀ w1 : World, RdT e w1 A c l → RdT e w1 A' c' ((l.take j.toNat).drop i.toNat)) →
      K (X8 ρ d (.slice A' ((l.take j.toNat).drop i.toNat).length c')) w) : Qr P n B p k K ρ w := by
  have hl : ((l.take j.toNat).drop i.toNat).length = j.toNat - i.toNat := by simp; omega
  refine Qr.val ho hd (v := .slice (Nw e.sz c i.toNat A) ((l.take j.toNat).drop i.toNat).length (c - i.toNat)) (fun o hop => ?_)
    (next _ _ rfl rfl fun w1 hr => RdT.part hr (by omega) (by omega))
  rw [hl]
  unfold execOp; rw [hop]
  cases hi' : P.info? E with
  | none => rw [hi'] at hE; cases hE
  | some ii =>
    rw [hi'] at hE
    have hE : ii.size = e.sz := by simpa using hE
    have hsz : ∀ w, (sizeOf E).run P w = .ok e.sz w := fun w => by simp [sizeOf, typeInfo, hi', hE]
    have hb := Dd (P := P) (isS := true) (m := l.length) (cap := c) (lo := lo.map (opv ρ)) (hi := hi.map (opv ρ)) (i := i.toNat) (j := j.toNat)
      (by
        cases lo with
        | none => exact .inl ⟨rfl, by have : i = 0 := hlo; omega⟩
        | some y => obtain ⟨kk, hh⟩ := hlo; exact .inr ⟨kk, by rw [Option.map_some, hh, Int.toNat_of_nonneg h0]⟩)
      (by
        cases hi with
        | none => exact .inl ⟨rfl, by have : j = (l.length : Int) := hhi; omega⟩
        | some y => obtain ⟨kk, hh⟩ := hhi; exact .inr ⟨kk, by rw [Option.map_some, hh, Int.toNat_of_nonneg (by omega)]⟩)
      (by omega) (by omega) hc w
    simp only [hx, Instr.sliceAt, Sem.run_bind, run_underlying hT, Result.andThen_ok, Instr.slice, Option.map_none, hb, hsz]
    rfl
end
end Go.Proofs.YtibipfdpembkgaaGreatDoor
namespace Go.Proofs.YtibipfdpembkgaaGreatDoor
open Go.RowKit
section
variable {α : Type} {e : Enc α} {P : Program} {w w0 : World} {A : Option Addr} {c : Nat} {l m : List α}
theorem D4 {TX E : TypeId} (hT : P.underlying TX = some (.slice E)) (h : RdT e w A c m) : Src P e.sz TX (.slice A m.length c) m.length (Qd e m) w := by
  obtain ⟨h1, h2, h3, h4⟩ := h
  rcases Nat.eq_zero_or_pos m.length with h0 | h0
  · have : m = [] := List.eq_nil_of_length_eq_zero h0
    subst this
    refine ⟨.inl ⟨_, hT⟩, fun _ => rfl, ?_, ?_, by simp [Qd], Jr e _⟩
    · cases A with
      | none => exact run_firstCells_none w e.sz 0 0 c
      | some a => exact run_firstCells_some w e.sz 0 a 0 c [] (by simp) (by simp)
    · cases A with
      | none => exact run_firstCells_none w.drew e.sz 0 0 c
      | some a => exact run_firstCells_some w.drew e.sz 0 a 0 c [] (by simp) (by simp)
  · obtain ⟨b, off, rfl, hb, hc⟩ := h4 h0
    refine Src.ofSlice w hT _ _ _ _ h1 (fun j u hu => ?_) (Jr e _)
    rw [Jq]
    exact hc j u hu
theorem Ht {w : World} {E : TypeId} {sz n : Nat} {v : Value} {xs : List Value} (h : w.ownsRow 0 E sz v n xs) : ∃ A c, v = .slice A n c := by
  rcases h.2 with ⟨hv, hn⟩ | ⟨g, cap, cur, hv, _⟩
  · exact ⟨none, 0, by rw [hv, hn]⟩
  · exact ⟨_, _, hv⟩
theorem Hu {E : TypeId} {sz b : Nat} (h : (P.info? E).map (fun i => (i.zero.map (·.cells.size), i.size, i.bytes)) = some (some sz, sz, b)) : ∃ i z, P.info? E = some i ∧ i.zero = some z ∧ i.size = sz ∧ i.bytes = b ∧ z.cells.size = sz := by
  cases hi : P.info? E with
  | none => rw [hi] at h; cases h
  | some i =>
    rw [hi] at h
    simp only [Option.map_some, Option.some.injEq, Prod.mk.injEq] at h
    obtain ⟨h1, h2, h3⟩ := h
    cases hz : i.zero with
    | none => rw [hz] at h1; cases h1
    | some z =>
      rw [hz] at h1
      exact ⟨i, z, rfl, hz, h2, h3, by simpa using h1⟩
end
section
variable {P : Program} {n : Nat} {Q : Gg} {ρ : Fr} {w w0 : World} {B : Code} {p : List Bool} {k : Nat} {d : Option Nat} {S : List Nat} {es : List Ent} {K : Fr → World → Prop}
variable {α : Type} {e : Enc α} {A : Option Addr} {c : Nat} {l m : List α}
theorem Qr.append {T TX E : TypeId} {s x : Operand} {b i : Nat} {vx : Value} (ho : Uf (Qh B p) k ρ = some (.call { callee := .builtin .append, args := #[s, x], argTypes := #[T, TX] }, d)) (hd : Zj n d = true)
    (hv : opv ρ s = .slice A l.length c) (hx : opv ρ x = vx) (hT : P.underlying T = some (.slice E)) (hE : (P.info? E).map (fun i => (i.zero.map (·.cells.size), i.size, i.bytes)) = some (some e.sz, e.sz, b)) (hb : (Nat.ble 1 e.sz && Nat.ble b 65536) = true)
    (hs : SP S w0 w es) (hi : es[i]? = some (B5 E e A c l)) (hsrc : Src P e.sz TX vx m.length (Qd e m) w) (hlen : l.length + m.length ≤ 2147483648)
    (next : ∀ (A' : Option Addr) (c' : Nat) (w' : World), SP S w0 w' (es.set i (B5 E e A' c' (l ++ m))) → K (X8 ρ d (.slice A' (l ++ m).length c')) w') : Qr P n B p k K ρ w := by
  subst hx
  obtain ⟨i0, z, hi0, hz0, hz1, hz2, hz3⟩ := Hu hE
  simp only [Bool.and_eq_true] at hb
  have hb1 := Nat.le_of_ble_eq_true hb.1
  have hb2 := Nat.le_of_ble_eq_true hb.2
  have hbytes : (l.length + m.length) * b ≤ 140737488355328 := Nat.le_trans (Nat.mul_le_mul hlen hb2) (by omega)
  have hown : w.ownsRow 0 E e.sz (.slice A l.length c) l.length (Qd e l) := hs.get hi
  obtain ⟨o0, ho0, _⟩ := Na ho
  obtain ⟨v', w', hrun, h2, h3, h4⟩ := R6 (P := P) w 0 T TX o0.type E i0 z e.sz b hT hi0 hz0 hz1 hz2 hz3 (by omega) _ l.length (Qd e l) hown (opv ρ x) m.length (Qd e m) hsrc (by unfold maxLen; omega) hbytes (Nat.zero_le _)
  obtain ⟨A', c', rfl⟩ := Ht h2
  have h2' : (B5 E e A' c' (l ++ m)).ok w' := by
    show w'.ownsRow 0 E e.sz (.slice A' (l ++ m).length c') (l ++ m).length (Qd e (l ++ m))
    rw [List.length_append, Yh]
    exact h2
  have hmod : Mod ((Value.slice A l.length c).ownBlock.toList) w w' := B8 h3 (fun q hq => by rw [hq]; simp)
  refine Qr.val ho hd (v := .slice A' (l ++ m).length c') (w' := w') (fun o hop => ?_) (next A' c' w' (hs.set hi hmod (fun q hq => hq) h2' fun q hq => ?_))
  · have hty : ∀ ty, (Builtin.append_ #[T, TX] ty #[.slice A l.length c, opv ρ x]).run P w = (Builtin.append_ #[T, TX] o0.type #[.slice A l.length c, opv ρ x]).run P w := fun _ => rfl
    have hrun' : (Builtin.append_ #[T, TX] o.type #[opv ρ s, opv ρ x]).run P w = .ok (.slice A' (l.length + m.length) c') w' := by rw [hv, hty]; exact hrun
    rw [List.length_append]
    unfold execOp
    rw [hop]
    simp [resolve, invoke, builtin, hrun', Result.andThen]
  · have hq' : (Value.slice A' (l.length + m.length) c').ownBlock = some q := by
      have : (Value.slice A' (l ++ m).length c').ownBlock = some q := by simpa [B5, row] using hq
      rw [List.length_append] at this
      exact this
    refine ⟨?_, (World.ownsRow.lt h2 q hq').2⟩
    rcases h4 with h4 | h4
    · left
      rw [h4] at hq'
      show q ∈ (Value.slice A l.length c).ownBlock.toList
      rw [hq']
      simp
    · right
      rw [h4] at hq'
      injection hq' with hq'
      omega
theorem SP.newrow {E : TypeId} {cs : Array Value} {w : World} (h : SP S w0 w es) (e : Enc α) (l : List α) (hc : cs.toList = Qd e l) (hm : l.length ≤ maxLen) (hz : 0 < e.sz) :
    SP S w0 (w.alloc (.cells cs E)) (es ++ [B5 E e (some ⟨w.heap.size, 0, none⟩) l.length l]) := by
  refine h.push ((Below.refl _ _).alloc (Nat.le_refl _) _) ?_ fun k hk => ?_
  · have := World.ownsRow_lit (base := 0) (e := E) (size := e.sz) w cs l.length (Nat.zero_le _) hm (by rw [← Array.length_toList, hc, Vg])
    rw [hc] at this
    exact this
  · have : k = w.heap.size := by simpa [B5, row, Value.ownBlock] using hk
    subst this
    simp
theorem Yy {T E : TypeId} {len : Nat} {parts : Array (Nat × Operand)} {cs : Array Value} (l : List α) (ho : Uf (Qh B p) k ρ = some (.buildSlice T len parts, d)) (hd : Zj n d = true)
    (hb : ∀ w : World, (Instr.buildSlice T len (parts.map fun (i, x) => (i, opv ρ x))).run P w = .ok (.slice (some ⟨w.heap.size, 0, none⟩) len len) (w.alloc (.cells cs E)))
    (hs : SP S w0 w es) (hc : cs.toList = Qd e l) (hl : l.length = len) (hm : Nat.ble l.length 2147483648 = true) (hz : Nat.ble 1 e.sz = true)
    (next : ∀ (g : Nat) (w' : World), SP S w0 w' (es ++ [B5 E e (some ⟨g, 0, none⟩) l.length l]) → K (X8 ρ d (.slice (some ⟨g, 0, none⟩) l.length l.length)) w') : Qr P n B p k K ρ w := by
  subst hl
  refine Qr.val ho hd (v := .slice (some ⟨w.heap.size, 0, none⟩) l.length l.length) (w' := w.alloc (.cells cs E)) (fun o hop => ?_) (next _ _ (hs.newrow e l hc (by have := Nat.le_of_ble_eq_true hm; unfold maxLen; omega) (Nat.le_of_ble_eq_true hz)))
  unfold execOp; rw [hop]
  simp only [Sem.run_bind, hb, Result.andThen_ok]
  rfl
theorem Df {f : FuncId} {fo : Operand} {xs : Array Operand} {tys : Array TypeId} {first captured : Array Value} {args : List Value} (ho : Uf (Qh B p) k ρ = some (.call { callee := .value fo, args := xs, argTypes := tys }, d)) (hd : Zj n d = true)
    (hf : opv ρ fo = .func (.func f) first captured) (hargs : first.toList ++ xs.toList.map (opv ρ) ++ captured.toList = args) (hcf : ∀ (args : Array Value) (w : World), (callFunc f args).run P w = .ok (.enter f args) w)
    {R : Ending → World → Prop} (hc : Calls P f args.toArray w R) (next : ∀ e w', R e w' → ∃ v, e = .returned v ∧ K (X8 ρ d v) w') : Qr P n B p k K ρ w := by
  refine Qr.call ho hd (f := f) (args := args.toArray) (fun o hop => ?_) hc next
  unfold execOp; rw [hop]
  have : first ++ xs.map (opv ρ) ++ captured = args.toArray := by
    rw [← hargs]
    apply Array.ext'
    simp
  simp only [resolve, hf, Deferred.ofValue, Sem.run_bind, Sem.run_pure, Result.andThen_ok, invoke, this, hcf]
end
end Go.Proofs.YtibipfdpembkgaaGreatDoor
namespace Go.Proofs.YtibipfdpembkgaaGreatDoor
open Go.RowKit
def R3 (ρ : Fr) : List (Nat × Value) → Fr
  | [] => ρ
  | (d, v) :: l => R3 (upd ρ d v) l
def Z5 (ρ : Fr) : List (Nat × Value) → Prop
  | [] => True
  | (d, v) :: l => ρ d = v ∧ Z5 ρ l
theorem Xc {ρ : Fr} : ∀ {l : List (Nat × Value)}, Z5 ρ l → R3 ρ l = ρ
  | [], _ => rfl
  | (d, v) :: l, h => by
    show R3 (upd ρ d v) l = ρ
    rw [D3 h.1]
    exact Xc h.2
def Vr (k : IntKind) (a b : Int) : Int := k.wrap (BitVec.ofInt k.bits a &&& BitVec.ofInt k.bits b).toNat
def bOr (k : IntKind) (a b : Int) : Int := k.wrap (BitVec.ofInt k.bits a ||| BitVec.ofInt k.bits b).toNat
def Vw (k : IntKind) (a b : Int) : Int := k.wrap (BitVec.ofInt k.bits a ^^^ BitVec.ofInt k.bits b).toNat
def J8 (k : IntKind) (a b : Int) : Int := k.wrap (a * 2 ^ (min b.toNat k.bits))
def Yr (k : IntKind) (a b : Int) : Int := a.fdiv (2 ^ (min b.toNat k.bits))
def D5 (e : Int) : UInt8 := UInt8.ofNat e.toNat
theorem D6 {e : Int} (h : 0 ≤ e ∧ e < 256) : ((D5 e).toNat : Int) = e := by
  unfold D5
  have : e.toNat < 256 := by omega
  rw [UInt8.toNat_ofNat_of_lt' this]
  omega
theorem D7 (x : Int) : 0 ≤ IntKind.wrap .u8 x ∧ IntKind.wrap .u8 x < 256 := by
  unfold IntKind.wrap
  simp only [IntKind.bits, IntKind.signed]
  have h1 := Int.emod_nonneg x (b := 256) (by omega)
  have h2 := Int.emod_lt_of_pos x (b := 256) (by omega)
  simp
  omega
theorem U2 {e : Int} {c : UInt8} {t : List Value} {l : List UInt8} (h : (c.toNat : Int) = e ∨ (c = D5 e ∧ (0 ≤ e ∧ e < 256))) (ht : t = Qd eU8 l) : (Value.int .u8 e) :: t = Qd eU8 (c :: l) := by
  rw [Zc, ← ht]
  rcases h with h | ⟨rfl, h⟩
  · subst h; rfl
  · show _ = [Value.int .u8 ((D5 e).toNat : Int)] ++ t
    rw [D6 h]
    rfl
theorem Dg {n : Nat} (h : Nat.ble n 2147483648 = true) : n ≤ maxLen := by
  have := Nat.le_of_ble_eq_true h
  unfold maxLen
  omega
def selE (es : List Ent) : List Nat → List Ent
  | [] => []
  | i :: l => match es[i]? with | some e => e :: selE es l | none => selE es l
def Ch : List Nat → Bool
  | [] => true
  | i :: l => l.all (fun j => !Nat.beq i j) && Ch l
def Ji : Nat := 18446744073709551616
section
variable {S : List Nat} {B : Nat} {w w0 : World} {es es' : List Ent}
theorem HL.apart {i j : Nat} {e f : Ent} (h : HL S B w es) (hi : es[i]? = some e) (hj : es[j]? = some f) (hij : i ≠ j) : ∀ k ∈ e.fp, k ∉ f.fp := by
  intro k hk
  refine h.other hi f ?_ k hk
  rw [List.mem_eraseIdx_iff_getElem?]
  exact ⟨j, fun h => hij h.symm, hj⟩
theorem D8 {es : List Ent} : ∀ {l : List Nat} {f : Ent}, f ∈ selE es l → ∃ j ∈ l, es[j]? = some f
  | [], f, h => by simp [selE] at h
  | i :: l, f, h => by
    unfold selE at h
    split at h
    · rename_i e he
      rcases List.mem_cons.1 h with rfl | h
      · exact ⟨i, by simp, he⟩
      · obtain ⟨j, hj, hf⟩ := D8 h
        exact ⟨j, List.mem_cons_of_mem _ hj, hf⟩
    · obtain ⟨j, hj, hf⟩ := D8 h
      exact ⟨j, List.mem_cons_of_mem _ hj, hf⟩
theorem HL.sel (h : HL S B w es) : ∀ {l : List Nat}, Ch l = true → HL S B w (selE es l)
  | [], _ => trivial
  | i :: l, hn => by
    simp only [Ch, Bool.and_eq_true, List.all_eq_true, Bool.not_eq_true'] at hn
    unfold selE
    cases hi : es[i]? with
    | none => exact h.sel hn.2
    | some e =>
      have he := h.get hi
      refine ⟨he.1, fun k hk => ⟨(he.2 k hk).1, (he.2 k hk).2, fun f hf => ?_⟩, h.sel hn.2⟩
      obtain ⟨j, hj, hfj⟩ := D8 hf
      refine h.apart hi hfj (fun hij => ?_) k hk
      have := hn.1 j hj
      subst hij
      rw [Nat.beq_refl] at this
      cases this
theorem SP.sel (h : SP S w0 w es) (l : List Nat) (hn : Ch l = true) (he : es' = selE es l) : SP S w0 w es' := by
  subst he
  exact ⟨h.mod, h.own.sel hn⟩
end
section
variable {β : Type}
theorem ct {b : Bool} {x y : Option β} {r : β} (h : cond b x y = some r) (hb : b = true) : x = some r := by subst hb; exact h
theorem cf {b : Bool} {x y : Option β} {r : β} (h : cond b x y = some r) (hb : b = false) : y = some r := by subst hb; exact h
theorem Vp {α : Type} {x : α} {K : α → Option β} {r : β} (h : (some x).bind K = some r) : ∃ z, x = z ∧ K z = some r := ⟨x, rfl, h⟩
theorem Zd {x r : β} (h : some x = some r) : r = x := (Option.some.inj h).symm
end
section
variable {P : Program} {n : Nat} {Q : Gg} {ρ : Fr} {w : World} {B : Code} {p : List Bool} {k : Nat} {K : Fr → World → Prop}
theorem At.known (l : List (Nat × Value)) (h : Z5 ρ l) (next : At P n B p Q (R3 ρ l) w) : At P n B p Q ρ w := by
  rw [Xc h] at next
  exact next
theorem In.run' {k' : Nat} (m : Nat) (hk : k' = k + m) (l : List (Nat × Value)) (h : Ya P n (Qq (Qh B p)) (((Qq (Qh B p)).toList.drop k).take m) ρ w = some (R3 ρ l, w))
    (next : In P n B p k' Q (R3 ρ l) w) : In P n B p k Q ρ w := In.run m hk (R3 ρ l) h next
theorem Qr.shift {d : Option Nat} {op : BinOp} {T T' : TypeId} {x y : Operand} {kx ky : IntKind} {a b : Int} {v : Value} (ho : Uf (Qh B p) k ρ = some (.binOp op T x y T', d)) (hd : Zj n d = true)
    (hx : opv ρ x = .int kx a) (hy : opv ρ y = .int ky b) (h0 : 0 ≤ b) (hv : (match op with | .shl => some (Value.int kx (J8 kx a b)) | .shr => some (.int kx (Yr kx a b)) | _ => none) = some v)
    (next : K (X8 ρ d v) w) : Qr P n B p k K ρ w := by
  refine Qr.val ho hd (fun o hop => ?_) next
  unfold execOp; rw [hop]
  simp only [hx, hy]
  cases op <;> first | (cases hv; done) | skip
  all_goals
    injection hv with hv
    subst hv
    simp [eqGuard, Go.binOp, Op.shift, show ¬ b < 0 by omega, J8, Yr]
theorem In.known (l : List (Nat × Value)) (h : Z5 ρ l) (next : In P n B p k Q (R3 ρ l) w) : In P n B p k Q ρ w := by
  rw [Xc h] at next
  exact next
theorem In.guard {t : Nat} {b : Bool} (h : ρ t = .bool b) (h1 : b = true → In P n B p k Q (upd ρ t (.bool true)) w) (h2 : b = false → In P n B p k Q (upd ρ t (.bool false)) w) : In P n B p k Q ρ w := by
  cases b
  · have := h2 rfl
    rw [D3 h] at this
    exact this
  · have := h1 rfl
    rw [D3 h] at this
    exact this
end
end Go.Proofs.YtibipfdpembkgaaGreatDoor
namespace Go.Proofs.YtibipfdpembkgaaGreatDoor
open Go.RowKit
def Dh (ops : Array Oper) (size : Nat) : Bool :=
  let ds := ops.toList.filterMap (·.dst)
  ds.all (fun d => decide (d < size)) && decide ds.Nodup
theorem nodup_idx : ∀ (l : List Oper), (l.filterMap (·.dst)).Nodup → ∀ (i j : Nat) (o p : Oper) (d : Tmp), l[i]? = some o → l[j]? = some p → o.dst = some d → p.dst = some d → i = j := by
  intro l
  induction l with
  | nil => intro _ i j o p d h; simp at h
  | cons x r ih =>
    intro hn i j o p d hi hj ho hp
    have hmem : ∀ (k : Nat) (q : Oper), r[k]? = some q → q.dst = some d → d ∈ r.filterMap (·.dst) := fun k q hk hq =>
      List.mem_filterMap.2 ⟨q, List.mem_of_getElem? hk, hq⟩
    cases hx : x.dst with
    | none =>
      rw [List.filterMap_cons_none hx] at hn
      cases i with
      | zero => simp at hi; subst hi; rw [hx] at ho; cases ho
      | succ i =>
        cases j with
        | zero => simp at hj; subst hj; rw [hx] at hp; cases hp
        | succ j => simp at hi hj; rw [ih hn i j o p d hi hj ho hp]
    | some e =>
      rw [List.filterMap_cons_some hx] at hn
      have hn' := List.nodup_cons.1 hn
      cases i with
      | zero =>
        simp at hi; subst hi
        rw [hx] at ho; injection ho with ho; subst ho
        cases j with
        | zero => rfl
        | succ j => simp at hj; exact absurd (hmem j p hj hp) hn'.1
      | succ i =>
        cases j with
        | zero =>
          simp at hj; subst hj
          rw [hx] at hp; injection hp with hp; subst hp
          simp at hi
          exact absurd (hmem i o hi ho) hn'.1
        | succ j => simp at hi hj; rw [ih hn'.2 i j o p d hi hj ho hp]
section
variable {P : Program} {ops : Array Oper} {Q : Exit → Act → World → Prop} {a0 : Act} {w0 : World} {G : World → World → Prop} {R : Nat → Value → World → Prop}
def Still (ops : Array Oper) (t : Tmp) : Prop := ∀ o ∈ ops.toList, o.dst ≠ some t
theorem D9 {a : Act} {d : Tmp} {v : Value} (h : d < a.tmps.size) : (a.put (some d) v).eval (.tmp d) = v := by
  simp [Act.put, Act.eval, h]
theorem Yi {a : Act} {x : Option Tmp} {t : Tmp} {v : Value} (h : x ≠ some t) : (a.put x v).eval (.tmp t) = a.eval (.tmp t) := by
  cases x with
  | none => rfl
  | some d =>
    have : d ≠ t := fun e => h (by rw [e])
    simp [Act.put, Act.eval, Array.getElem?_setIfInBounds_ne this]
theorem ready_mem {listed : Array Bool} {i : Nat} (hs : listed.size = ops.size) (h : i ∈ Region.ready .any ops listed) :
    ∃ o, ops[i]? = some o ∧ ∀ e ∈ o.after.toList, Region.binds .any e = true → listed.getD e.on false = true := by
  unfold Region.ready at h
  simp only [List.mem_filter, List.mem_range, Bool.and_eq_true] at h
  obtain ⟨hi, _, h2⟩ := h
  have hsome : ops[i]? = some ops[i] := Array.getElem?_eq_getElem hi
  refine ⟨ops[i], hsome, fun e he hb => ?_⟩
  rw [hsome] at h2
  simp only [Option.map_some, Option.getD_some, Array.all_eq_true] at h2
  obtain ⟨k, hk, hek⟩ := List.mem_iff_getElem.1 he
  have := h2 k (by simpa using hk)
  rw [Array.getElem_toList] at hek
  rw [hek, hb] at this
  simpa using this
def Ba (ops : Array Oper) : Bool := ops.toList.zipIdx.all fun (o, i) => o.after.all fun e => !Region.binds .any e || decide (e.on < i)
theorem full_of (h : Ba ops = true) : ∀ listed : Array Bool, listed.size = ops.size → Region.ready .any ops listed = [] → ∀ j, j < ops.size → listed.getD j false = true := by
  intro listed hs hr j
  induction j using Nat.strongRecOn with
  | ind j ih =>
    intro hj
    cases hl : listed.getD j false with
    | true => rfl
    | false =>
      exfalso
      have hj' : j < listed.size := by omega
      have hmem : j ∈ Region.ready .any ops listed := by
        unfold Region.ready
        simp only [List.mem_filter, List.mem_range, Bool.and_eq_true]
        have hsome : ops[j]? = some ops[j] := Array.getElem?_eq_getElem hj
        refine ⟨hj, ?_, ?_⟩
        · have : listed[j] = false := by simpa [Array.getD, hj'] using hl
          simp [Array.getD, hj', this]
        · rw [hsome]
          simp only [Option.map_some, Option.getD_some, Array.all_eq_true]
          intro k hk
          unfold Ba at h
          rw [List.all_eq_true] at h
          have hz := h (ops[j], j) (by
            rw [List.mem_iff_getElem?]
            exact ⟨j, by rw [List.getElem?_zipIdx]; simp [Array.getElem?_toList, hsome]⟩)
          simp only [Array.all_eq_true] at hz
          have := hz k hk
          simp only [Bool.or_eq_true, Bool.not_eq_true', decide_eq_true_eq] at this ⊢
          rcases this with this | this
          · exact .inl this
          · exact .inr (ih _ this (by omega))
      rw [hr] at hmem
      cases hmem
end
end Go.Proofs.YtibipfdpembkgaaGreatDoor
namespace Go.Proofs.YtibipfdpembkgaaGreatDoor
open Go.RowKit
def Ug (ops : Array Oper) (t : Nat) : Bool := ops.toList.all fun o => match o.dst with | some d => !Nat.beq d t | none => true
def Nb (ops : Array Oper) (i j d : Nat) : Bool :=
  match ops[i]?, ops[j]? with
  | some o, some q => o.after.toList.any (fun e => Nat.beq e.on j && Region.binds .any e) && (match q.dst with | some x => Nat.beq x d | none => false)
  | _, _ => false
def E2 (ops : Array Oper) (j d : Nat) : Bool := match ops[j]? with | some q => (match q.dst with | some x => Nat.beq x d | none => false) | none => false
def Rl : List (Value → World → Prop) → Nat → Value → World → Prop
  | [], _ => fun _ _ => True
  | x :: _, 0 => x
  | _ :: l, j + 1 => Rl l j
def FEq (u : Value) : Value → World → Prop := fun v _ => v = u
def Obs : Nat → (Nat → Prop) → Prop
  | 0, _ => True
  | k + 1, Φ => Obs k Φ ∧ Φ k
theorem obs_get {Φ : Nat → Prop} : ∀ {k : Nat}, Obs k Φ → ∀ i, i < k → Φ i
  | 0, _, i, h => absurd h (by omega)
  | k + 1, ho, i, h => by
    by_cases hk : i = k
    · subst hk; exact ho.2
    · exact obs_get ho.1 i (by omega)
def Yz (ops : Array Oper) (i : Nat) : Option Nat := (ops[i]?).bind (·.dst)
section
variable {P : Program} {n : Nat} {Q : Gg} {ρ : Fr} {w : World} {B : Code} {p : List Bool}
def Owes (P : Program) (n : Nat) (B : Code) (p : List Bool) (ρ : Fr) (w : World) (l : List (Value → World → Prop)) (i : Nat) : Prop :=
  ∀ (ρ' : Fr) (w' : World), Below w.heap.size w w' → (∀ t, Ug (Qq (Qh B p)) t = true → ρ' t = ρ t) → (∀ j d, Nb (Qq (Qh B p)) i j d = true → Rl l j (ρ' d) w') →
    Qr P n B p i (fun ρ'' w'' => Below w'.heap.size w' w'' ∧ ∃ v, ρ'' = X8 ρ' (Yz (Qq (Qh B p)) i) v ∧ Rl l i v w'') ρ' w'
theorem Gh {ops : Array Oper} {t : Nat} (h : Ug ops t = true) : Still ops t := by
  intro o ho hd
  unfold Ug at h
  rw [List.all_eq_true] at h
  have := h o ho
  rw [hd] at this
  simp at this
theorem fa_of {a : Act} (h1 : a.defers = []) (h2 : a.tmps.size = n) : FA n (fun t => a.tmps.getD t undef) a := ⟨h1, h2, fun _ => rfl⟩
theorem Vy {Q : Gg} (l : List (Nat × Value)) (h : Z5 ρ l) (next : Q .normal (R3 ρ l) w) : Q .normal ρ w := by
  rw [Xc h] at next
  exact next
theorem Qr.known {k : Nat} {K : Fr → World → Prop} (l : List (Nat × Value)) (h : Z5 ρ l) (next : Qr P n B p k K (R3 ρ l) w) : Qr P n B p k K ρ w := by
  rw [Xc h] at next
  exact next
end
theorem Qr.run {P : Program} {n : Nat} {ρ : Fr} {w : World} {B : Code} {p : List Bool} {k : Nat} {K : Fr → World → Prop} {v : Value}
    (h : Ya P n (Qq (Qh B p)) (((Qq (Qh B p)).toList.drop k).take 1) ρ w = some (X8 ρ (Yz (Qq (Qh B p)) k) v, w)) (next : K (X8 ρ (Yz (Qq (Qh B p)) k) v) w) : Qr P n B p k K ρ w := by
  intro a ha Q'
  cases ho : (Qq (Qh B p))[k]? with
  | none =>
    unfold wpOp
    rw [ho]
    have hd : Yz (Qq (Qh B p)) k = none := by simp [Yz, ho]
    rw [hd] at next
    exact ⟨ρ, ha, next⟩
  | some o =>
    rw [Cd ho] at h
    have ht : (o :: (Qq (Qh B p)).toList.drop (k + 1)).take 1 = [o] := by simp
    rw [ht] at h
    unfold wpOp
    rw [ho]
    simp only [Ya] at h
    cases hdst : Zj n o.dst with
    | false => rw [hdst] at h; cases h
    | true =>
      rw [hdst] at h
      simp only at h
      simp only [Jh ha o]
      cases hw : Jd (Qq (Qh B p)) ρ o with
      | false =>
        rw [hw] at h
        simp only [Option.some.injEq, Prod.mk.injEq] at h
        simp only [Bool.false_eq_true, if_false]
        refine ⟨_, ha.putO hdst undef, ?_⟩
        rw [h.1]
        exact next
      | true =>
        rw [hw] at h
        simp only at h
        simp only [if_true]
        refine .inl ?_
        unfold Oper.wp
        rw [ha.eval]
        cases hr : (execOp (opv ρ) o).run P w with
        | halt x w1 => rw [hr] at h; cases h
        | ok nx w1 =>
          rw [hr] at h
          cases nx <;> first | (cases h; done) | skip
          · simp only [Option.some.injEq, Prod.mk.injEq] at h
            obtain ⟨h1, rfl⟩ := h
            refine ⟨_, ha.putO hdst _, ?_⟩
            rw [h1]
            exact next
          · simp only [Option.some.injEq, Prod.mk.injEq] at h
            obtain ⟨h1, rfl⟩ := h
            refine ⟨_, ha.putO hdst _, ?_⟩
            rw [h1]
            exact next
theorem Qb {ρ : Fr} {l : List (Nat × Value)} {d : Option Nat} {v : Value} (h : Z5 ρ l) : X8 (R3 ρ l) d v = X8 ρ d v := by rw [Xc h]
def Src1 (ops : Array Oper) (i : Nat) (l : List (Value → World → Prop)) (ρ : Fr) (t : Nat) (v : Value) : Prop :=
  (Ug ops t = true ∧ ρ t = v) ∨ ∃ j, Nb ops i j t = true ∧ Rl l j = FEq v
def SrcOk (ops : Array Oper) (i : Nat) (l : List (Value → World → Prop)) (ρ : Fr) : List (Nat × Value) → Prop
  | [] => True
  | x :: r => Src1 ops i l ρ x.1 x.2 ∧ SrcOk ops i l ρ r
theorem Ci {ops : Array Oper} {i : Nat} {l : List (Value → World → Prop)} {ρ ρ' : Fr} {w' : World} (hs : ∀ t, Ug ops t = true → ρ' t = ρ t) (ha : ∀ j d, Nb ops i j d = true → Rl l j (ρ' d) w') :
    ∀ src : List (Nat × Value), SrcOk ops i l ρ src → Z5 ρ' src
  | [], _ => trivial
  | x :: r, h => by
    refine ⟨?_, Ci hs ha r h.2⟩
    rcases h.1 with ⟨h1, h2⟩ | ⟨j, h1, h2⟩
    · exact (hs _ h1).trans h2
    · have := ha j x.1 h1
      rw [h2] at this
      exact this
theorem Owes.skip {P : Program} {n : Nat} {B : Code} {p : List Bool} {ρ : Fr} {w : World} {l : List (Value → World → Prop)} {i : Nat} (src : List (Nat × Value)) (hsrc : SrcOk (Qq (Qh B p)) i l ρ src) (d : Option Nat)
    (h : ∀ (ρ' : Fr), (Qq (Qh B p))[i]?.map (fun o => (Jd (Qq (Qh B p)) (R3 ρ' src) o, o.dst)) = some (false, d)) (hd : Zj n d = true) (hR : ∀ w, Rl l i undef w) : Owes P n B p ρ w l i := by
  intro ρ' w' hk hs hah
  have hkn := Ci hs hah src hsrc
  have hdd : Yz (Qq (Qh B p)) i = d := by
    have := h ρ'
    unfold Yz
    cases ho : (Qq (Qh B p))[i]? with
    | none => rw [ho] at this; cases this
    | some o => rw [ho] at this; simp only [Option.map_some, Option.some.injEq, Prod.mk.injEq] at this; exact this.2
  refine Qr.known src hkn ?_
  exact Fw (h ρ') hd ⟨Below.refl _ _, undef, by rw [hdd]; exact Qb hkn, hR _⟩
theorem Qr.div {P : Program} {n : Nat} {ρ : Fr} {w : World} {B : Code} {p : List Bool} {k : Nat} {K : Fr → World → Prop} {d : Option Nat} {op : BinOp} {T T' : TypeId} {x y : Operand} {kx : IntKind} {a b : Int} {v : Value}
    (ho : Uf (Qh B p) k ρ = some (.binOp op T x y T', d)) (hd : Zj n d = true) (hx : opv ρ x = .int kx a) (hy : opv ρ y = .int kx b) (h0 : (!(b == 0)) = true)
    (hv : (match op with | .quo => some (Value.int kx (kx.wrap (a.tdiv b))) | .rem => some (.int kx (a.tmod b)) | _ => none) = some v) (next : K (X8 ρ d v) w) : Qr P n B p k K ρ w := by
  have hb : b ≠ 0 := by simpa using h0
  refine Qr.val ho hd (fun o hop => ?_) next
  unfold execOp; rw [hop]
  simp only [hx, hy]
  cases op <;> first | (cases hv; done) | skip
  all_goals
    injection hv with hv
    subst hv
    simp [eqGuard, Go.binOp, Op.intDiv, hb]
theorem Qr.mark {P : Program} {n : Nat} {ρ : Fr} {w w0 : World} {B : Code} {p : List Bool} {k : Nat} {K : Fr → World → Prop} {S : List Nat} {es : List Ent} {d : Option Nat} {T E : TypeId} {x : Operand} {g c i : Nat} {l : List UInt8}
    (ho : Uf (Qh B p) k ρ = some (.convert T T x, d)) (hd : Zj n d = true) (hx : opv ρ x = .slice (some ⟨g, 0, none⟩) l.length c) (hT : P.underlying T = some (.slice E)) (hE : P.underlying E = some (.int .u8))
    (hs : SP S w0 w es) (hi : es[i]? = some (B5 E eU8 (some ⟨g, 0, none⟩) c l))
    (next : ∀ w' : World, SP S w0 w' (es.set i (rdE eU8 (some ⟨g, 0, none⟩) c l)) → K (X8 ρ d (.slice (some ⟨g, 0, none⟩) l.length c)) w') : Qr P n B p k K ρ w := by
  have hown : w.ownsRow 0 E eU8.sz (.slice (some ⟨g, 0, none⟩) l.length c) l.length (Qd eU8 l) := hs.get hi
  have hrd : RdT eU8 w (some ⟨g, 0, none⟩) c l := Nv (hs.get hi)
  obtain ⟨cur, hg⟩ : ∃ cur, w.heap[g]? = some (.cells cur E (0, 0)) := by
    rcases hown.2 with ⟨hn, _⟩ | ⟨g', cap, cur, hn, _, hg, _⟩
    · cases hn
    · injection hn with h1 _ _
      injection h1 with h1
      injection h1 with h1
      subst h1
      exact ⟨cur, hg⟩
  have hlt : g < w.heap.size := (Array.getElem?_eq_some_iff.1 hg).1
  have hother : ∀ k, k ≠ g → (w.freeze ⟨g, cur.size, none⟩ 1).heap[k]? = w.heap[k]? := fun k hk => by
    simp [World.freeze, Array.getElem?_modify, Ne.symm hk]
  have hsame : (w.freeze ⟨g, cur.size, none⟩ 1).heap[g]? = some (.cells cur E (cur.size, cur.size + 1)) := by
    simp [World.freeze, Array.getElem?_modify, hg]
  have hsz : (w.freeze ⟨g, cur.size, none⟩ 1).heap.size = w.heap.size := by simp [World.freeze]
  have hmod : Mod [g] w (w.freeze ⟨g, cur.size, none⟩ 1) := ⟨rfl, rfl, rfl, by rw [hsz]; exact Nat.le_refl _, fun k _ hk => hother k (by simpa using hk)⟩
  refine Qr.val ho hd (w' := w.freeze ⟨g, cur.size, none⟩ 1) (fun o hop => ?_) (next _ (hs.set hi hmod (fun q hq => by simpa [B5, row, Value.ownBlock] using hq) ?_ fun q hq => ?_))
  · have hshape : w.shape? g = some (E, cur.size) := by simp [World.shape?, hg]
    have hmark : (markStringish ⟨g, 0, none⟩).run P w = .ok () (w.freeze ⟨g, cur.size, none⟩ 1) := by
      simp [markStringish, Go.shape, Go.freeze, Sem.run_bind, Sem.run, hshape, Result.andThen]
    unfold execOp; rw [hop]
    simp only [hx, convert, Sem.run_bind, run_underlying hT, run_underlying hE, Result.andThen_ok, beq_self_eq_true, hmark]
    rfl
  · obtain ⟨h1, h2, h3, h4⟩ := hrd
    refine ⟨h1, h2, h3, fun hn => ?_⟩
    obtain ⟨b, off, hA, hb, hc⟩ := h4 hn
    injection hA with hA
    injection hA with hA1 hA2 _
    subst hA1 hA2
    refine ⟨g, 0, rfl, by rw [hsz]; exact hlt, fun j u hu => ?_⟩
    rw [← hc j u hu, cell_of_row _ g _ cur E _ hsame, cell_of_row _ g _ cur E _ hg]
  · have : q = g := by simpa [rdE] using hq
    subst this
    exact ⟨.inl (by simp [B5, row, Value.ownBlock]), by rw [hsz]; exact hlt⟩
def rvS (ρ : Fr) : ResultVar → Sem Value
  | .tmp t => pure (ρ t)
  | .cell a t => do loadVar t (← asAddr (ρ a))
theorem Bb {P : Program} {fn : Func} {ρ : Fr} {w : World} {x : ResultVar} {v : Value} (h : fn.results = #[x]) (hx : (rvS ρ x).run P w = .ok v w) : (Ur fn ρ).run P w = .ok v w := by
  have : Ur fn ρ = (do let vs ← #[x].mapM (rvS ρ); pure (if h : vs.size = 1 then vs[0] else .tuple vs)) := by
    unfold Ur; rw [h]; congr 1
  rw [this]
  simp [hx, Sem.run_bind, Result.andThen]
end Go.Proofs.YtibipfdpembkgaaGreatDoor
namespace Go.Proofs.YtibipfdpembkgaaGreatDoor
open Go.RowKit
abbrev Stg := List Nat × (List Value → World → Prop)
def Cj (ops : Array Oper) (ρ : Fr) (h : Nat) : Value := match Yz ops h with | some d => ρ d | none => undef
def insN (i : Nat) : List Nat → List Nat
  | [] => [i]
  | x :: l => match Nat.ble i x with | true => i :: x :: l | false => x :: insN i l
theorem Bc {i h : Nat} : ∀ {l : List Nat}, h ∈ insN i l ↔ h = i ∨ h ∈ l
  | [] => by simp [insN]
  | x :: l => by
    unfold insN
    cases Nat.ble i x
    · simp only [List.mem_cons, Bc (l := l)]
      constructor
      · rintro (h | h | h) <;> simp [h]
      · rintro (h | h | h) <;> simp [h]
    · simp only [List.mem_cons]
def Ub (x : Nat) : List Nat → Bool
  | [] => false
  | y :: l => match Nat.beq x y with | true => true | false => Ub x l
theorem Jt {x : Nat} : ∀ {l : List Nat}, Ub x l = true ↔ x ∈ l
  | [] => by simp [Ub]
  | y :: l => by
    unfold Ub
    cases hb : Nat.beq x y
    · simp only [Jt (l := l), List.mem_cons]
      constructor
      · exact .inr
      · rintro (rfl | h)
        · rw [Nat.beq_refl] at hb; cases hb
        · exact h
    · simp [Nat.eq_of_beq_eq_true hb]
def Cm (ops : Array Oper) (i : Nat) : List Nat := match ops[i]? with | some o => (o.after.toList.filter (fun e => Region.binds .any e)).map (·.on) | none => []
def Cn (ops : Array Oper) : Nat → List Nat → List Nat → List Nat
  | 0, _, acc => acc
  | _ + 1, [], acc => acc
  | m + 1, i :: todo, acc => match Ub i acc with | true => Cn ops m todo acc | false => Cn ops m (Cm ops i ++ todo) (i :: acc)
def Z2 (listed : Array Bool) (i : Nat) : Prop := listed.getD i false = true
def Closed (ops : Array Oper) (listed : Array Bool) : Prop := ∀ i, Z2 listed i → ∀ j ∈ Cm ops i, Z2 listed j
theorem Yo {ops : Array Oper} {listed : Array Bool} (hc : Closed ops listed) : ∀ (m : Nat) (todo acc : List Nat), (∀ i ∈ todo, Z2 listed i) → (∀ i ∈ acc, Z2 listed i) → ∀ i ∈ Cn ops m todo acc, Z2 listed i
  | 0, todo, acc, _, h2 => h2
  | m + 1, [], acc, _, h2 => h2
  | m + 1, x :: todo, acc, h1, h2 => by
    unfold Cn
    cases Ub x acc
    · refine Yo hc m _ _ (fun i hi => ?_) (fun i hi => ?_)
      · rcases List.mem_append.1 hi with h | h
        · exact hc x (h1 x (by simp)) i h
        · exact h1 i (by simp [h])
      · rcases List.mem_cons.1 hi with rfl | h
        · exact h1 i (by simp)
        · exact h2 i h
    · exact Yo hc m _ _ (fun i hi => h1 i (by simp [hi])) h2
def canAt (ops : Array Oper) (hv : List Nat) (M : List Nat) (i : Nat) : Bool :=
  !Ub i M && (Cn ops 4096 (Cm ops i) []).all (fun j => !Ub j hv || Ub j M) && M.all (fun h => !Ub i (Cn ops 4096 [h] []))
def Us (ops : Array Oper) (hv : List Nat) (masks : List (List Nat)) (i : Nat) (ss : List Nat) : Bool :=
  masks.zipIdx.all fun x => !canAt ops hv x.1 i || Ub x.2 ss
def GEq (u : Value) : Value → Prop := fun v => v = u
def Ii : Value → Prop := fun _ => True
def Gl : List (Value → Prop) → Nat → Value → Prop
  | [], _ => fun _ => True
  | x :: _, 0 => x
  | _ :: l, j + 1 => Gl l j
def VL : List Value → List Value → Prop
  | [], _ => True
  | _, [] => True
  | a :: l, b :: m => a = b ∧ VL l m
section
variable {P : Program} {n : Nat} {Q : Gg} {ρ : Fr} {w : World} {B : Code} {p : List Bool}
def E3 (ops : Array Oper) (l : List (Value → Prop)) (i : Nat) (ρ' : Fr) : Prop := ∀ j d, Nb ops i j d = true → Gl l j (ρ' d)
def oldB (ops : Array Oper) (i t : Nat) : Bool := Ug ops t || (List.range ops.size).any (fun j => E2 ops j t && Ub i (Cn ops 4096 [j] []))
def G8 (ops : Array Oper) (i : Nat) (ρ ρ' : Fr) : Prop := ∀ t, oldB ops i t = true → ρ' t = ρ t
def OwesP (P : Program) (n : Nat) (B : Code) (p : List Bool) (ρ : Fr) (l : List (Value → Prop)) (i : Nat) : Prop :=
  ∀ (ρ' : Fr) (w' : World), G8 (Qq (Qh B p)) i ρ ρ' → E3 (Qq (Qh B p)) l i ρ' →
    Qr P n B p i (fun ρ'' w'' => w'' = w' ∧ ∃ v, ρ'' = X8 ρ' (Yz (Qq (Qh B p)) i) v ∧ Gl l i v) ρ' w'
def OwesL (P : Program) (n : Nat) (B : Code) (p : List Bool) (ρ : Fr) (l : List (Value → Prop)) (s : Stg) (i : Nat) : Prop :=
  ∀ (ρ' : Fr) (w' : World), G8 (Qq (Qh B p)) i ρ ρ' → E3 (Qq (Qh B p)) l i ρ' → s.2 (s.1.map (Cj (Qq (Qh B p)) ρ')) w' →
    Qr P n B p i (fun ρ'' w'' => w'' = w' ∧ ∃ v, ρ'' = X8 ρ' (Yz (Qq (Qh B p)) i) v ∧ Gl l i v) ρ' w'
def OwesH (P : Program) (n : Nat) (B : Code) (p : List Bool) (ρ : Fr) (l : List (Value → Prop)) (s s' : Stg) (i : Nat) : Prop :=
  s'.1 = insN i s.1 ∧ ∀ (ρ' : Fr) (w' : World), G8 (Qq (Qh B p)) i ρ ρ' → E3 (Qq (Qh B p)) l i ρ' → s.2 (s.1.map (Cj (Qq (Qh B p)) ρ')) w' →
    Qr P n B p i (fun ρ'' w'' => ∃ v, ρ'' = X8 ρ' (Yz (Qq (Qh B p)) i) v ∧ Gl l i v ∧ s'.2 (s'.1.map (Cj (Qq (Qh B p)) (X8 ρ' (Yz (Qq (Qh B p)) i) v))) w'') ρ' w'
def Zb (S : List Stg) (k : Nat) : Stg := S.getD k ([], fun _ _ => False)
inductive Owe (P : Program) (n : Nat) (B : Code) (p : List Bool) (ρ : Fr) (l : List (Value → Prop)) (hv : List Nat) (S : List Stg) (i : Nat) : Prop
  | pure (hh : Ub i hv = false) (h : OwesP P n B p ρ l i)
  | light (hh : Ub i hv = false) (ss : List Nat) (hs : Us (Qq (Qh B p)) hv (S.map (·.1)) i ss = true) (h : ∀ k ∈ ss, OwesL P n B p ρ l (Zb S k) i)
  | heavy (hh : Ub i hv = true) (ss : List (Nat × Nat)) (hs : Us (Qq (Qh B p)) hv (S.map (·.1)) i (ss.map (·.1)) = true) (h : ∀ k ∈ ss, Nat.blt k.2 S.length = true ∧ OwesH P n B p ρ l (Zb S k.1) (Zb S k.2) i)
end
section
variable {P : Program} {ops : Array Oper} {Q : Exit → Act → World → Prop} {a0 : Act} {hv : List Nat} {S : List Stg} {l : List (Value → Prop)}
def Zx (a : Act) : Fr := fun t => a.tmps.getD t undef
structure InvS (ops : Array Oper) (hv : List Nat) (S : List Stg) (l : List (Value → Prop)) (a0 : Act) (listed : Array Bool) (a : Act) (w : World) : Prop where
  size : listed.size = ops.size
  defers : a.defers = a0.defers
  tmps : a.tmps.size = a0.tmps.size
  still : ∀ t, Still ops t → a.eval (.tmp t) = a0.eval (.tmp t)
  closed : Closed ops listed
  old : ∀ j q d, ops[j]? = some q → ¬ Z2 listed j → q.dst = some d → a.eval (.tmp d) = a0.eval (.tmp d)
  facts : ∀ j q d, ops[j]? = some q → Z2 listed j → q.dst = some d → Gl l j (a.eval (.tmp d))
  stage : ∃ k, k < S.length ∧ (∀ h, Ub h hv = true → (Z2 listed h ↔ h ∈ (Zb S k).1)) ∧ (∀ h ∈ (Zb S k).1, Ub h hv = true) ∧ (Zb S k).2 ((Zb S k).1.map (Cj ops (Zx a))) w
def PutsS (ops : Array Oper) (hv : List Nat) (S : List Stg) (l : List (Value → Prop)) (k i : Nat) (o : Oper) (a : Act) (w : World) (a' : Act) (w' : World) : Prop :=
  ∃ v, a' = a.put o.dst v ∧ Gl l i v ∧
    ((Ub i hv = false ∧ w' = w) ∨ ∃ k', Ub i hv = true ∧ k' < S.length ∧ (Zb S k').1 = insN i (Zb S k).1 ∧ (Zb S k').2 ((Zb S k').1.map (Cj ops (Zx (a.put o.dst v)))) w')
theorem Jj {listed : Array Bool} {i j : Nat} (hi : i < listed.size) : Z2 (listed.setIfInBounds i true) j ↔ j = i ∨ Z2 listed j := by
  unfold Z2
  simp only [Array.getD_eq_getD_getElem?]
  by_cases h : i = j
  · subst h
    simp [hi]
  · rw [Array.getElem?_setIfInBounds_ne h]
    constructor
    · exact .inr
    · rintro (h1 | h1)
      · exact absurd h1.symm h
      · exact h1
theorem Di {i j : Nat} {o : Oper} (ho : ops[i]? = some o) : j ∈ Cm ops i ↔ ∃ e ∈ o.after.toList, Region.binds .any e = true ∧ e.on = j := by
  unfold Cm
  rw [ho]
  simp only [List.mem_map, List.mem_filter]
  constructor
  · rintro ⟨e, ⟨h1, h2⟩, h3⟩; exact ⟨e, h1, h2, h3⟩
  · rintro ⟨e, h1, h2, h3⟩; exact ⟨e, ⟨h1, h2⟩, h3⟩
theorem invS_step {listed : Array Bool} {a a' : Act} {w w' : World} {i k : Nat} {o : Oper} (hok : Dh ops a0.tmps.size = true) (ho : ops[i]? = some o) (hready : ∀ e ∈ o.after.toList, Region.binds .any e = true → Z2 listed e.on)
    (h : InvS ops hv S l a0 listed a w) (hk : k < S.length) (hk1 : ∀ h, Ub h hv = true → (Z2 listed h ↔ h ∈ (Zb S k).1)) (hk2 : ∀ h ∈ (Zb S k).1, Ub h hv = true) (hk3 : (Zb S k).2 ((Zb S k).1.map (Cj ops (Zx a))) w)
    (hni : ¬ Z2 listed i) (hp : PutsS ops hv S l k i o a w a' w') : InvS ops hv S l a0 (listed.setIfInBounds i true) a' w' := by
  obtain ⟨v, rfl, hG, hcase⟩ := hp
  have hi : i < listed.size := by rw [h.size]; exact (Array.getElem?_eq_some_iff.1 ho).1
  simp only [Dh, Bool.and_eq_true, List.all_eq_true, decide_eq_true_eq] at hok
  have hmem : ∀ d, o.dst = some d → d < a.tmps.size := fun d hd => by
    rw [h.tmps]
    exact hok.1 d (List.mem_filterMap.2 ⟨o, by rw [← Array.getElem?_toList] at ho; exact List.mem_of_getElem? ho, hd⟩)
  have hne : ∀ j q d, ops[j]? = some q → q.dst = some d → j ≠ i → o.dst ≠ some d := fun j q d hq hd hji hod =>
    hji (nodup_idx _ hok.2 j i q o d (by rw [Array.getElem?_toList]; exact hq) (by rw [Array.getElem?_toList]; exact ho) hd hod)
  refine ⟨by simpa using h.size, ?_, ?_, ?_, ?_, ?_, ?_, ?_⟩
  · cases o.dst <;> simpa [Act.put] using h.defers
  · cases o.dst <;> simpa [Act.put] using h.tmps
  · intro t ht
    rw [Yi (ht o (by rw [← Array.getElem?_toList] at ho; exact List.mem_of_getElem? ho))]
    exact h.still t ht
  · intro j hj q hq
    rw [Jj hi] at hj ⊢
    rcases hj with rfl | hj
    · obtain ⟨e, he, hb, rfl⟩ := (Di ho).1 hq
      exact .inr (hready e he hb)
    · exact .inr (h.closed j hj q hq)
  · intro j q d hq hj hd
    rw [Jj hi] at hj
    rw [Yi (hne j q d hq hd fun e => hj (.inl e))]
    exact h.old j q d hq (fun hl => hj (.inr hl)) hd
  · intro j q d hq hj hd
    rw [Jj hi] at hj
    by_cases hij : j = i
    · subst hij
      rw [ho] at hq; injection hq with hq; subst hq
      rw [hd, D9 (hmem d hd)]
      exact hG
    · rw [Yi (hne j q d hq hd hij)]
      exact h.facts j q d hq (hj.resolve_left hij) hd
  · rcases hcase with ⟨hnh, rfl⟩ | ⟨k', hh, hk', hM, hP⟩
    · refine ⟨k, hk, fun x hx => ?_, hk2, ?_⟩
      · rw [Jj hi]
        constructor
        · rintro (rfl | h1)
          · rw [hnh] at hx; cases hx
          · exact (hk1 x hx).1 h1
        · exact fun h1 => .inr ((hk1 x hx).2 h1)
      · have e : (Zb S k).1.map (Cj ops (Zx (a.put o.dst v))) = (Zb S k).1.map (Cj ops (Zx a)) := by
          refine List.map_congr_left fun x hx => ?_
          have hxi : x ≠ i := fun e => by subst e; rw [hk2 x hx] at hnh; cases hnh
          unfold Cj Yz
          cases hq : ops[x]? with
          | none => rfl
          | some q =>
            simp only [Option.bind_some]
            cases hd : q.dst with
            | none => rfl
            | some d => exact Yi (hne x q d hq hd hxi)
        rw [e]
        exact hk3
    · refine ⟨k', hk', fun x hx => ?_, fun x hx => ?_, hP⟩
      · rw [Jj hi, hM, Bc]
        constructor
        · rintro (rfl | h1)
          · exact .inl rfl
          · exact .inr ((hk1 x hx).1 h1)
        · rintro (rfl | h1)
          · exact .inl rfl
          · exact .inr ((hk1 x hx).2 h1)
      · rw [hM, Bc] at hx
        rcases hx with rfl | hx
        · exact hh
        · exact hk2 x hx
theorem canAt_of {listed : Array Bool} {i k : Nat} {o : Oper} (ho : ops[i]? = some o) (hc : Closed ops listed) (hready : ∀ e ∈ o.after.toList, Region.binds .any e = true → Z2 listed e.on) (hni : ¬ Z2 listed i)
    (hk1 : ∀ h, Ub h hv = true → (Z2 listed h ↔ h ∈ (Zb S k).1)) (hk2 : ∀ h ∈ (Zb S k).1, Ub h hv = true) : canAt ops hv (Zb S k).1 i = true := by
  unfold canAt
  simp only [Bool.and_eq_true, Bool.not_eq_true', List.all_eq_true, Bool.or_eq_true]
  refine ⟨⟨?_, fun j hj => ?_⟩, fun h hh => ?_⟩
  · cases hm : Ub i (Zb S k).1 with
    | false => rfl
    | true =>
      have := Jt.1 hm
      exact absurd ((hk1 i (hk2 i this)).2 this) hni
  · cases hm : Ub j hv with
    | false => exact .inl rfl
    | true =>
      refine .inr (Jt.2 ((hk1 j hm).1 (Yo hc 4096 _ _ (fun x hx => ?_) (fun x hx => by simp at hx) j hj)))
      obtain ⟨e, he, hb, rfl⟩ := (Di ho).1 hx
      exact hready e he hb
  · cases hm : Ub i (Cn ops 4096 [h] []) with
    | false => rfl
    | true =>
      exact absurd (Yo hc 4096 [h] [] (fun x hx => by
        have : x = h := by simpa using hx
        subst this
        exact (hk1 x (hk2 x hh)).2 hh) (fun x hx => by simp at hx) i (Jt.1 hm)) hni
theorem Dj {masks : List (List Nat)} {i k : Nat} {ss : List Nat} {M : List Nat} (h : Us ops hv masks i ss = true) (hk : masks[k]? = some M) (hc : canAt ops hv M i = true) : k ∈ ss := by
  unfold Us at h
  rw [List.all_eq_true] at h
  have := h (M, k) (by rw [List.mem_iff_getElem?]; exact ⟨k, by rw [List.getElem?_zipIdx, hk]; simp⟩)
  simp only [hc, Bool.not_true, Bool.false_or] at this
  exact Jt.1 this
theorem old_of {listed : Array Bool} {a : Act} {w : World} {i : Nat} (h : InvS ops hv S l a0 listed a w) (hni : ¬ Z2 listed i) (t : Nat) (ht : oldB ops i t = true) : a.eval (.tmp t) = a0.eval (.tmp t) := by
  unfold oldB at ht
  rw [Bool.or_eq_true, List.any_eq_true] at ht
  rcases ht with ht | ⟨j, _, hj⟩
  · exact h.still t (Gh ht)
  · rw [Bool.and_eq_true] at hj
    obtain ⟨h1, h2⟩ := hj
    have hnj : ¬ Z2 listed j := fun hl => hni (Yo h.closed 4096 [j] [] (fun x hx => by
      have : x = j := by simpa using hx
      subst this
      exact hl) (fun x hx => by simp at hx) i (Jt.1 h2))
    unfold E2 at h1
    cases hq : ops[j]? with
    | none => rw [hq] at h1; cases h1
    | some q =>
      rw [hq] at h1
      simp only at h1
      cases hd : q.dst with
      | none => rw [hd] at h1; cases h1
      | some d =>
        rw [hd] at h1
        have e : d = t := Nat.eq_of_beq_eq_true h1
        subst e
        exact h.old j q d hq hnj hd
theorem Co (hok : Dh ops a0.tmps.size = true)
    (hstep : ∀ i o k, ops[i]? = some o → k < S.length → canAt ops hv (Zb S k).1 i = true → ∀ a w, a.defers = a0.defers → a.tmps.size = a0.tmps.size → (∀ t, oldB ops i t = true → a.eval (.tmp t) = a0.eval (.tmp t)) →
      (∀ e ∈ o.after.toList, Region.binds .any e = true → ∀ q d, ops[e.on]? = some q → q.dst = some d → Gl l e.on (a.eval (.tmp d))) → (Zb S k).2 ((Zb S k).1.map (Cj ops (Zx a))) w → wpOp P ops Q i (PutsS ops hv S l k i o a w) a w)
    (hend : ∀ k a w, k < S.length → (∀ h, h < ops.size → Ub h hv = true → h ∈ (Zb S k).1) → a.defers = a0.defers → a.tmps.size = a0.tmps.size → (∀ t, Still ops t → a.eval (.tmp t) = a0.eval (.tmp t)) →
      (∀ j q d, ops[j]? = some q → q.dst = some d → Gl l j (a.eval (.tmp d))) → (Zb S k).2 ((Zb S k).1.map (Cj ops (Zx a))) w → Q .normal a w)
    (hfull : ∀ listed : Array Bool, listed.size = ops.size → Region.ready .any ops listed = [] → ∀ j, j < ops.size → listed.getD j false = true) :
    ∀ (Ji : Nat) (listed : Array Bool) (a : Act) (w : World), (listed.toList.filter (! ·)).length ≤ Ji → InvS ops hv S l a0 listed a w → wpAny P .any ops Q Ji listed a w := by
  have fin : ∀ (listed : Array Bool) (a : Act) (w : World), Region.ready .any ops listed = [] → InvS ops hv S l a0 listed a w → Q .normal a w := by
    intro listed a w hr h
    obtain ⟨k, hk, hk1, hk2, hk3⟩ := h.stage
    have hall := hfull listed h.size hr
    exact hend k a w hk (fun x hx hm => (hk1 x hm).1 (hall x hx)) h.defers h.tmps h.still (fun j q d hj hd => h.facts j q d hj (hall j (Array.getElem?_eq_some_iff.1 hj).1) hd) hk3
  intro Ji
  induction Ji with
  | zero =>
    intro listed a w hl hinv
    have hr : Region.ready .any ops listed = [] := by
      unfold Region.ready
      rw [List.filter_eq_nil_iff]
      intro i hi
      have hi' : i < listed.size := by rw [hinv.size]; simpa using hi
      have hlist : listed.getD i true = true := by
        have hempty : listed.toList.filter (! ·) = [] := List.eq_nil_of_length_eq_zero (by omega)
        rw [List.filter_eq_nil_iff] at hempty
        have := hempty listed[i] (by rw [← Array.getElem_toList]; exact List.getElem_mem _)
        simpa [Array.getD, hi'] using this
      simp [hlist]
    exact ⟨hr, fin _ _ _ hr hinv⟩
  | succ Ji ih =>
    intro listed a w hl hinv
    refine ⟨fun hr => fin _ _ _ hr hinv, fun i hi => ?_⟩
    obtain ⟨o, ho, hedge⟩ := ready_mem hinv.size hi
    unfold Region.ready at hi
    simp only [List.mem_filter, List.mem_range, Bool.and_eq_true] at hi
    have hi' : i < listed.size := by rw [hinv.size]; exact hi.1
    have hf : listed[i] = false := by
      have := hi.2.1
      simpa [Array.getD, hi'] using this
    have hni : ¬ Z2 listed i := by
      unfold Z2
      simp [Array.getD, hi', hf]
    obtain ⟨k, hk, hk1, hk2, hk3⟩ := hinv.stage
    refine wpOp_mono (fun a' w' hp => ih _ a' w' ?_ (invS_step hok ho hedge hinv hk hk1 hk2 hk3 hni hp))
      (hstep i o k ho hk (canAt_of ho hinv.closed hedge hni hk1 hk2) a w hinv.defers hinv.tmps (old_of hinv hni) (fun e he hb q d hq hd => hinv.facts e.on q d hq (hedge e he hb) hd) hk3)
    have hcount : ∀ (l : List Bool) (k : Nat), l[k]? = some false → ((l.set k true).filter (! ·)).length + 1 = (l.filter (! ·)).length := by
      intro l
      induction l with
      | nil => intro k hk; simp at hk
      | cons x r ihr =>
        intro k hk
        cases k with
        | zero => simp at hk; subst hk; simp
        | succ k =>
          simp at hk
          have := ihr k hk
          cases x <;> simp [List.set] <;> omega
    have := hcount listed.toList i (by rw [Array.getElem?_toList, Array.getElem?_eq_getElem hi', hf])
    simp only [Array.toList_setIfInBounds]
    omega
end
section
variable {P : Program} {n : Nat} {Q : Gg} {ρ : Fr} {w : World} {B : Code} {p : List Bool}
theorem At.stages (h : Z4 5 (Qh B p) = true) (hd : Up (Qh B p) = true) (hm : P.follows .mixedOrders = true) (hok : Dh (Qq (Qh B p)) n = true) (he : Ba (Qq (Qh B p)) = true)
    (l : List (Value → Prop)) (hv : List Nat) (S : List Stg) {N : Nat} (hN : (Qq (Qh B p)).size = N) (h0 : (Zb S 0).1 = [] ∧ 0 < S.length) (hS : (Zb S 0).2 [] w.drew) (hobs : Obs N (Owe P n B p ρ l hv S))
    {last : Nat} (hlast : (S.map (·.1)).zipIdx.all (fun x => Nat.beq x.2 last || (List.range N).any (fun i => Ub i hv && !Ub i x.1)) = true)
    (hend : ∀ (ρ' : Fr) (w' : World), (∀ t, Ug (Qq (Qh B p)) t = true → ρ' t = ρ t) → (∀ j d, E2 (Qq (Qh B p)) j d = true → Gl l j (ρ' d)) → (Zb S last).2 ((Zb S last).1.map (Cj (Qq (Qh B p)) ρ')) w' → Q .normal ρ' w') : At P n B p Q ρ w := by
  intro a0 ha0
  have hreg := Cc h
  rw [hreg, hd]
  have hd0 : a0.defers = [] := ha0.defers
  have hsz0 : a0.tmps.size = n := ha0.size
  have hev : ∀ (a : Act) (t : Nat), a.eval (.tmp t) = a.tmps.getD t undef := fun _ _ => rfl
  have hstill : ∀ (a : Act), (∀ t, Still (Qq (Qh B p)) t → a.eval (.tmp t) = a0.eval (.tmp t)) → ∀ t, Ug (Qq (Qh B p)) t = true → Zx a t = ρ t := fun a hst t ht => by
    have := hst t (Gh ht)
    rw [hev, hev] at this
    rw [← ha0.get t]; exact this
  have hstillI : ∀ (i : Nat) (a : Act), (∀ t, oldB (Qq (Qh B p)) i t = true → a.eval (.tmp t) = a0.eval (.tmp t)) → G8 (Qq (Qh B p)) i ρ (Zx a) := fun i a hst t ht => by
    have := hst t ht
    rw [hev, hev] at this
    rw [← ha0.get t]; exact this
  have hmask : ∀ k, k < S.length → (S.map (·.1))[k]? = some (Zb S k).1 := fun k hk => by
    rw [List.getElem?_map]
    unfold Zb
    rw [List.getD_eq_getElem?_getD, List.getElem?_eq_getElem hk]
    rfl
  refine wp_region_any hm ?_
  refine Co (l := l) (hv := hv) (S := S) (a0 := a0) (by rw [hsz0]; exact hok) ?_ ?_ (full_of he) _ _ _ _ ?_ ?_
  · intro i o k ho hk hcan a w' hdf hsz hst hah hstage
    have hlt : i < N := by rw [← hN]; exact (Array.getElem?_eq_some_iff.1 ho).1
    have ha : FA n (Zx a) a := fa_of (hdf.trans hd0) (hsz.trans hsz0)
    have hfacts : E3 (Qq (Qh B p)) l i (Zx a) := fun j d hjd => by
      unfold Nb at hjd
      rw [ho] at hjd
      cases hj : (Qq (Qh B p))[j]? with
      | none => rw [hj] at hjd; cases hjd
      | some q =>
        rw [hj] at hjd
        simp only [Bool.and_eq_true, List.any_eq_true] at hjd
        obtain ⟨⟨e, hem, hon, hbind⟩, hdst⟩ := hjd
        have hon := Nat.eq_of_beq_eq_true hon
        cases hq : q.dst with
        | none => rw [hq] at hdst; cases hdst
        | some x =>
          rw [hq] at hdst
          have hx : x = d := Nat.eq_of_beq_eq_true hdst
          subst hx
          have := hah e hem hbind q x (by rw [hon]; exact hj) hq
          rw [hon] at this
          exact this
    have hdst : Yz (Qq (Qh B p)) i = o.dst := by simp [Yz, ho]
    have hdok : Zj n o.dst = true := by
      cases hdo : o.dst with
      | none => rfl
      | some d =>
        simp only [Dh, Bool.and_eq_true, List.all_eq_true, decide_eq_true_eq] at hok
        have hmem : o ∈ (Qq (Qh B p)).toList := by rw [← Array.getElem?_toList] at ho; exact List.mem_of_getElem? ho
        have := hok.1 d (List.mem_filterMap.2 ⟨o, hmem, hdo⟩)
        exact Nat.ble_eq_true_of_le (Nat.succ_le_of_lt this)
    have same : ∀ (a' : Act) (ρ'' : Fr) (v : Value), FA n ρ'' a' → ρ'' = X8 (Zx a) (Yz (Qq (Qh B p)) i) v → a' = a.put o.dst v ∧ Zx (a.put o.dst v) = X8 (Zx a) (Yz (Qq (Qh B p)) i) v := by
      intro a' ρ'' v ha'' hρ
      rw [hdst] at hρ ⊢
      subst hρ
      have hput := ha.putO hdok v
      refine ⟨?_, funext fun t => hput.get t⟩
      have ht : a'.tmps = (a.put o.dst v).tmps := by
        apply Array.ext_getElem?
        intro t
        have h1 := ha''.get t
        have h2 := hput.get t
        rcases Nat.lt_or_ge t n with hlt | hge
        · have s1 : t < a'.tmps.size := by rw [ha''.size]; exact hlt
          have s2 : t < (a.put o.dst v).tmps.size := by rw [hput.size]; exact hlt
          rw [Array.getElem?_eq_getElem s1, Array.getElem?_eq_getElem s2]
          simp only [Array.getD_eq_getD_getElem?, Array.getElem?_eq_getElem s1, Array.getElem?_eq_getElem s2, Option.getD_some] at h1 h2
          rw [h1, h2]
        · rw [Array.getElem?_eq_none (by rw [ha''.size]; exact hge), Array.getElem?_eq_none (by rw [hput.size]; exact hge)]
      have hdd : a'.defers = (a.put o.dst v).defers := ha''.defers.trans hput.defers.symm
      cases a'
      cases hq : a.put o.dst v
      rw [hq] at ht hdd
      simp only at ht hdd
      rw [ht, hdd]
    rcases obs_get hobs i hlt with ⟨hh, howe⟩ | ⟨hh, ss, hs, howe⟩ | ⟨hh, ss, hs, howe⟩
    · refine wpOp_mono ?_ (howe (Zx a) w' (hstillI i a hst) hfacts a ha _)
      rintro a' w'' ⟨ρ'', ha'', hw, v, hρ, hG⟩
      exact ⟨v, (same a' ρ'' v ha'' hρ).1, hG, .inl ⟨hh, hw⟩⟩
    · refine wpOp_mono ?_ (howe k (Dj hs (hmask k hk) hcan) (Zx a) w' (hstillI i a hst) hfacts hstage a ha _)
      rintro a' w'' ⟨ρ'', ha'', hw, v, hρ, hG⟩
      exact ⟨v, (same a' ρ'' v ha'' hρ).1, hG, .inl ⟨hh, hw⟩⟩
    · obtain ⟨kk, hkm, hke⟩ := List.mem_map.1 (Dj hs (hmask k hk) hcan)
      have hke' : kk.1 = k := hke
      obtain ⟨hk'lt0, hM, howe'⟩ := howe kk hkm
      have hk'lt : kk.2 < S.length := Nat.le_of_ble_eq_true hk'lt0
      rw [hke'] at howe' hM
      refine wpOp_mono ?_ (howe' (Zx a) w' (hstillI i a hst) hfacts hstage a ha _)
      rintro a' w'' ⟨ρ'', ha'', v, hρ, hG, hP⟩
      obtain ⟨e1, e2⟩ := same a' ρ'' v ha'' hρ
      rw [← e2] at hP
      exact ⟨v, e1, hG, .inr ⟨kk.2, hh, hk'lt, hM, hP⟩⟩
  · intro k a w' hk hall hdf hsz hst hfacts hstage
    have ha : FA n (Zx a) a := fa_of (hdf.trans hd0) (hsz.trans hsz0)
    have hkl : k = last := by
      rw [List.all_eq_true] at hlast
      have := hlast ((Zb S k).1, k) (by rw [List.mem_iff_getElem?]; exact ⟨k, by rw [List.getElem?_zipIdx, hmask k hk]; simp⟩)
      simp only [Bool.or_eq_true, List.any_eq_true, Bool.and_eq_true, Bool.not_eq_true', List.mem_range] at this
      rcases this with h1 | ⟨i, hi, h1, h2⟩
      · exact Nat.eq_of_beq_eq_true h1
      · have := Jt.2 (hall i (by rw [hN]; exact hi) h1)
        rw [this] at h2
        cases h2
    rw [hkl] at hstage
    refine ⟨_, ha, hend _ w' (hstill a hst) (fun j d hjd => ?_) hstage⟩
    unfold E2 at hjd
    cases hj : (Qq (Qh B p))[j]? with
    | none => rw [hj] at hjd; cases hjd
    | some q =>
      rw [hj] at hjd
      simp only at hjd
      cases hq : q.dst with
      | none => rw [hq] at hjd; cases hjd
      | some x =>
        rw [hq] at hjd
        have hx : x = d := Nat.eq_of_beq_eq_true hjd
        subst hx
        exact hfacts j q x hj hq
  · simp [List.filter_replicate]
  · refine ⟨by simp, rfl, rfl, fun _ _ => rfl, ?_, fun _ _ _ _ _ _ => rfl, ?_, 0, h0.2, fun h _ => ?_, fun h hh => ?_, ?_⟩
    · intro j hj
      exfalso
      unfold Z2 at hj
      simp only [Array.getD_eq_getD_getElem?, Array.getElem?_replicate] at hj
      split at hj <;> simp at hj
    · intro j q d hq hj _
      exfalso
      unfold Z2 at hj
      simp only [Array.getD_eq_getD_getElem?, Array.getElem?_replicate] at hj
      split at hj <;> simp at hj
    · rw [h0.1]
      unfold Z2
      simp only [Array.getD_eq_getD_getElem?, Array.getElem?_replicate]
      constructor
      · intro hj; split at hj <;> simp at hj
      · intro hj; simp at hj
    · rw [h0.1] at hh; simp at hh
    · rw [h0.1]; exact hS
def Vk (A : Option Addr) (sz : Nat) (iz : Int) : Value → Prop := fun v => ∃ b off : Nat, A = some ⟨b, off, none⟩ ∧ v = .pointer (some ⟨b, off + iz.toNat * sz, none⟩)
theorem Qj {α : Type} {e : Enc α} {w : World} {A : Option Addr} {c b off : Nat} {l : List α} {iz : Int} (hr : RdT e w A c l) (hA : A = some ⟨b, off, none⟩) (h0 : 0 ≤ iz) (h1 : iz < (l.length : Int)) :
    ∀ j u, (Qd e l)[j]? = some u → w.cell? ⟨b, off + j, none⟩ = some u := by
  obtain ⟨_, _, _, h4⟩ := hr
  obtain ⟨b', off', hA', hb, hc⟩ := h4 (by omega)
  rw [hA] at hA'
  injection hA' with hA'
  injection hA' with e1 e2 _
  subst e1 e2
  exact hc
theorem Je {ops : Array Oper} {ρ : Fr} {h d : Nat} (hd : Yz ops h = some d) : Cj ops ρ h = ρ d := by unfold Cj; rw [hd]
theorem G9 {α : Type} {e : Enc α} {A : Option Addr} {c : Nat} {l m : List α} {i j : Int} (h0 : 0 ≤ i) (h1 : i ≤ j) (h2 : j ≤ (l.length : Int)) (hm : List.drop i.toNat (List.take j.toNat l) = m) (w1 : World) (hr : RdT e w1 A c l) : RdT e w1 (Nw e.sz c i.toNat A) (c - i.toNat) m := by
  subst hm
  exact RdT.part hr (by omega) (by omega)
theorem Ju {α : Type} {e : Enc α} {A : Option Addr} {c : Nat} {l m : List α} {k : Nat} {d : Option Nat} {K : Fr → World → Prop} {T E : TypeId} {x : Operand} {lo hi : Option Operand} {i j : Int} (ho : Uf (Qh B p) k ρ = some (.slice T x lo hi none, d)) (hd : Zj n d = true)
    (hx : opv ρ x = .slice A l.length c) (hT : P.underlying T = some (.slice E)) (hE : (P.info? E).map (·.size) = some e.sz) (hlo : De ρ lo i 0) (hhi : De ρ hi j l.length) (hc : l.length ≤ c)
    (h0 : 0 ≤ i) (h1 : i ≤ j) (h2 : j ≤ (l.length : Int)) (hm : List.drop i.toNat (List.take j.toNat l) = m)
    (next : K (X8 ρ d (.slice (Nw e.sz c i.toNat A) m.length (c - i.toNat))) w) : Qr P n B p k K ρ w := by
  refine Qr.slice (e := e) ho hd hx hT hE hlo hhi hc h0 h1 h2 ?_
  intro A' c' hA hcc _
  subst hA hcc hm
  exact next
def SrcG1 (ops : Array Oper) (i : Nat) (l : List (Value → Prop)) (ρ : Fr) (t : Nat) (v : Value) : Prop :=
  (oldB ops i t = true ∧ ρ t = v) ∨ ∃ j, Nb ops i j t = true ∧ Gl l j = GEq v
def SrcG (ops : Array Oper) (i : Nat) (l : List (Value → Prop)) (ρ : Fr) : List (Nat × Value) → Prop
  | [] => True
  | x :: r => SrcG1 ops i l ρ x.1 x.2 ∧ SrcG ops i l ρ r
theorem Ny {ops : Array Oper} {i : Nat} {l : List (Value → Prop)} {ρ ρ' : Fr} (hs : G8 ops i ρ ρ') (ha : E3 ops l i ρ') :
    ∀ src : List (Nat × Value), SrcG ops i l ρ src → Z5 ρ' src
  | [], _ => trivial
  | x :: r, h => by
    refine ⟨?_, Ny hs ha r h.2⟩
    rcases h.1 with ⟨h1, h2⟩ | ⟨j, h1, h2⟩
    · exact (hs _ h1).trans h2
    · have := ha j x.1 h1
      rw [h2] at this
      exact this
theorem Owe.run {l : List (Value → Prop)} {hv : List Nat} {S : List Stg} {i : Nat} (hh : Ub i hv = false) (src : List (Nat × Value)) (hsrc : SrcG (Qq (Qh B p)) i l ρ src) (v : Value)
    (h : ∀ (ρ' : Fr) (w' : World), Ya P n (Qq (Qh B p)) (((Qq (Qh B p)).toList.drop i).take 1) (R3 ρ' src) w' = some (X8 (R3 ρ' src) (Yz (Qq (Qh B p)) i) v, w')) (hR : Gl l i v) : Owe P n B p ρ l hv S i := by
  refine .pure hh fun ρ' w' hs hah => ?_
  have hkn := Ny hs hah src hsrc
  refine Qr.known src hkn ?_
  exact Qr.run (h ρ' w') ⟨rfl, v, Qb hkn, hR⟩
theorem Owe.skip {l : List (Value → Prop)} {hv : List Nat} {S : List Stg} {i : Nat} (hh : Ub i hv = false) (src : List (Nat × Value)) (hsrc : SrcG (Qq (Qh B p)) i l ρ src) (d : Option Nat)
    (h : ∀ (ρ' : Fr), (Qq (Qh B p))[i]?.map (fun o => (Jd (Qq (Qh B p)) (R3 ρ' src) o, o.dst)) = some (false, d)) (hd : Zj n d = true) (hR : Gl l i undef) : Owe P n B p ρ l hv S i := by
  refine .pure hh fun ρ' w' hs hah => ?_
  have hkn := Ny hs hah src hsrc
  have hdd : Yz (Qq (Qh B p)) i = d := by
    have := h ρ'
    unfold Yz
    cases ho : (Qq (Qh B p))[i]? with
    | none => rw [ho] at this; cases this
    | some o => rw [ho] at this; simp only [Option.map_some, Option.some.injEq, Prod.mk.injEq] at this; exact this.2
  refine Qr.known src hkn ?_
  exact Fw (h ρ') hd ⟨rfl, undef, by rw [hdd]; exact Qb hkn, hR⟩
theorem Qz {α : Type} {Φ : α → Prop} : ∀ k ∈ ([] : List α), Φ k := fun _ h => by simp at h
theorem Qc {α : Type} {Φ : α → Prop} {x : α} {l : List α} (h : Φ x) (t : ∀ k ∈ l, Φ k) : ∀ k ∈ x :: l, Φ k := fun k hk => by
  rcases List.mem_cons.1 hk with rfl | hk
  · exact h
  · exact t k hk
end
section
variable {P : Program} {n : Nat} {B : Code} {q : List Bool} {Q : Gg} {ρ : Fr} {w : World}
theorem aQ (k : At P n B (false :: q).reverse (R5 (At P n B (true :: q).reverse Q) Q) ρ w) (h : Z4 1 (Qh B q.reverse) = true := by kernel_rfl) : At P n B q.reverse Q ρ w := At.sq h k
end
section
variable {P : Program} {n : Nat} {B : Code} {p : List Bool} {Q : Gg} {ρ : Fr} {w w0 : World} {k : Nat} {K : Fr → World → Prop} {S : List Nat} {es : List Ent}
theorem aR (h : In P n B p 0 Q ρ w) (h1 : Z4 5 (Qh B p) = true := by kernel_rfl) (h2 : Up (Qh B p) = false := by kernel_rfl) : At P n B p Q ρ w := At.region h1 h2 h
theorem iF (h : Q .normal ρ w) (hk : (Qq (Qh B p)).size = k := by kernel_rfl) : In P n B p k Q ρ w := In.fin hk h
theorem iS (k' : Nat) (h : Qr P n B p k (In P n B p k' Q) ρ w) (hk : k' = k + 1 := by exact rfl) (hs : Nat.blt k (Qq (Qh B p)).size = true := by kernel_rfl) : In P n B p k Q ρ w := In.step hk hs h
theorem iR (m k' : Nat) (l : List (Nat × Value)) (h : In P n B p k' Q (R3 ρ l) w) (hk : k' = k + m := by exact rfl)
    (h1 : Ya P n (Qq (Qh B p)) (((Qq (Qh B p)).toList.drop k).take m) ρ w = some (R3 ρ l, w) := by kernel_rfl) : In P n B p k Q ρ w := In.run' m hk l h1 h
theorem kN (l : List (Nat × Value)) (h : Z5 ρ l) (next : Z5 ρ l → Qr P n B p k K (R3 ρ l) w) : Qr P n B p k K ρ w := Qr.known l h (next h)
theorem eK {l : List (Nat × Value)} {L : List (Value → Prop)} {i : Nat} {d d' : Option Nat} {v : Value} (h : Z5 ρ l) (hd : d' = d := by kernel_rfl) (hG : Gl L i v := by exact rfl) : w = w ∧ ∃ v', X8 (R3 ρ l) d v = X8 ρ d' v' ∧ Gl L i v' := by
  subst hd
  exact ⟨rfl, v, Qb h, hG⟩
theorem oL {l : List (Value → Prop)} {hv : List Nat} {S : List Stg} {i : Nat} (a : Nat) (h : OwesL P n B p ρ l (Zb S a) i) (hh : Ub i hv = false := by kernel_rfl)
    (hs : Us (Qq (Qh B p)) hv (S.map (·.1)) i [a] = true := by kernel_rfl) : Owe P n B p ρ l hv S i := .light hh [a] hs (Qc h Qz)
theorem oH {l : List (Value → Prop)} {hv : List Nat} {S : List Stg} {i : Nat} (a b : Nat) (h : ∀ (ρ' : Fr) (w' : World), G8 (Qq (Qh B p)) i ρ ρ' → E3 (Qq (Qh B p)) l i ρ' → (Zb S a).2 ((Zb S a).1.map (Cj (Qq (Qh B p)) ρ')) w' →
      Qr P n B p i (fun ρ'' w'' => ∃ v, ρ'' = X8 ρ' (Yz (Qq (Qh B p)) i) v ∧ Gl l i v ∧ (Zb S b).2 ((Zb S b).1.map (Cj (Qq (Qh B p)) (X8 ρ' (Yz (Qq (Qh B p)) i) v))) w'') ρ' w')
    (hh : Ub i hv = true := by kernel_rfl) (hs : Us (Qq (Qh B p)) hv (S.map (·.1)) i [a] = true := by kernel_rfl) (hb : Nat.blt b S.length = true := by kernel_rfl) (hi : (Zb S b).1 = insN i (Zb S a).1 := by kernel_rfl) : Owe P n B p ρ l hv S i :=
  .heavy hh [(a, b)] hs (Qc ⟨hb, hi, h⟩ Qz)
theorem sC (t x b off : Nat) (v : Value) (d : Nat) (hc : w.cell? ⟨b, off, none⟩ = some v) (next : K (X8 ρ (some d) v) w) (ho : Uf (Qh B p) k ρ = some (.load t (.tmp x), some d) := by kernel_rfl)
    (hd : Zj n (some d) = true := by exact rfl) (hx : opv ρ (.tmp x) = .pointer (some ⟨b, off, none⟩) := by kernel_rfl) (ht : (P.underlying t).map Ih = some false := by kernel_rfl) : Qr P n B p k K ρ w := Qr.cell ho hd hx ht hc next
theorem cF {args : List Value} {R : Ending → World → Prop} (f : FuncId) (xs : Array Operand) (tys : Array TypeId) (d : Nat) (hcf : ∀ (args : Array Value) (w : World), (callFunc f args).run P w = .ok (.enter f args) w) (hc : Calls P f args.toArray w R)
    (next : ∀ e w', R e w' → ∃ v, e = .returned v ∧ K (X8 ρ (some d) v) w') (ho : Uf (Qh B p) k ρ = some (.call { callee := .value (.func f), args := xs, argTypes := tys }, some d) := by kernel_rfl) (hd : Zj n (some d) = true := by exact rfl)
    (hf : opv ρ (.func f) = .func (.func f) #[] #[] := by kernel_rfl) (hargs : (#[] : Array Value).toList ++ xs.toList.map (opv ρ) ++ (#[] : Array Value).toList = args := by kernel_rfl) : Qr P n B p k K ρ w := Df ho hd hf hargs hcf hc next
theorem kc {ρ : Fr} {t : Nat} {v : Value} {r : List (Nat × Value)} (h : ρ t = v) (h2 : Z5 ρ r) : Z5 ρ ((t, v) :: r) := ⟨h, h2⟩
theorem k0 {ρ : Fr} : Z5 ρ [] := trivial
theorem kM {l : List (Nat × Value)} (h : Z5 ρ l) (next : Z5 ρ l → Qr P n B p k K (R3 ρ l) w) : Qr P n B p k K ρ w := Qr.known l h (next h)
theorem kA {ops : Array Oper} {l : List (Value → Prop)} {i : Nat} {ρ' : Fr} {v : Value} (hah : E3 ops l i ρ') (j t : Nat) (e : Gl l j = GEq v := by exact rfl) (h : Nb ops i j t = true := by kernel_rfl) : ρ' t = v := by
  have := hah j t h
  rw [e] at this
  exact this
theorem kS {ops : Array Oper} {i : Nat} {ρ ρ' : Fr} (hs : G8 ops i ρ ρ') (t : Nat) (v : Value) (h : oldB ops i t = true := by kernel_rfl) (e : ρ t = v := by kernel_rfl) : ρ' t = v := (hs t h).trans e
theorem hS {ops : Array Oper} {i : Nat} {l : List (Value → Prop)} {ρ : Fr} (t : Nat) (v : Value) (h : oldB ops i t = true := by kernel_rfl) (e : ρ t = v := by kernel_rfl) : SrcG1 ops i l ρ t v := .inl ⟨h, e⟩
theorem hA {ops : Array Oper} {i : Nat} {l : List (Value → Prop)} {ρ : Fr} {v : Value} (j t : Nat) (e : Gl l j = GEq v := by exact rfl) (h : Nb ops i j t = true := by kernel_rfl) : SrcG1 ops i l ρ t v := .inr ⟨j, h, e⟩
theorem hB {ops : Array Oper} {i : Nat} {l : List (Value → Prop)} {ρ : Fr} {u b : Bool} (j t : Nat) (hb : u = b) (e : Gl l j = GEq (.bool u) := by exact rfl) (h : Nb ops i j t = true := by kernel_rfl) : SrcG1 ops i l ρ t (.bool b) := .inr ⟨j, h, by rw [e, hb]⟩
theorem hC {ops : Array Oper} {i : Nat} {l : List (Value → Prop)} {ρ : Fr} {t : Nat} {v : Value} {r : List (Nat × Value)} (h : SrcG1 ops i l ρ t v) (h2 : SrcG ops i l ρ r) : SrcG ops i l ρ ((t, v) :: r) := ⟨h, h2⟩
theorem h0 {ops : Array Oper} {i : Nat} {l : List (Value → Prop)} {ρ : Fr} : SrcG ops i l ρ [] := trivial
theorem oU {l : List (Value → Prop)} {hv : List Nat} {S : List Stg} {i : Nat} {src : List (Nat × Value)} {v : Value} (hsrc : SrcG (Qq (Qh B p)) i l ρ src) (hR : Gl l i v := by exact rfl) (hh : Ub i hv = false := by kernel_rfl)
    (h : ∀ (ρ' : Fr) (w' : World), Ya P n (Qq (Qh B p)) (((Qq (Qh B p)).toList.drop i).take 1) (R3 ρ' src) w' = some (X8 (R3 ρ' src) (Yz (Qq (Qh B p)) i) v, w') := by intro _ _; kernel_rfl) : Owe P n B p ρ l hv S i := Owe.run hh src hsrc v h hR
abbrev tG (S : List Nat) (w0 : World) (ens : List Ent) (l : List (List Nat × List Value)) : List Stg := l.map fun x => (x.1, fun vs w => VL vs x.2 ∧ SP S w0 w ens)
abbrev sG (i : List Nat) (v : List Value) (S : List Nat) (w0 : World) (ens : List Ent) : Stg := (i, fun vs w => VL vs v ∧ SP S w0 w ens)
theorem aG (l : List (Value → Prop)) (hv : List Nat) (S : List Stg) (N last : Nat) (hS : (Zb S 0).2 [] w.drew) (hobs : Obs N (Owe P n B p ρ l hv S))
    (hend : ∀ (ρ' : Fr) (w' : World), (∀ t, Ug (Qq (Qh B p)) t = true → ρ' t = ρ t) → (∀ j d, E2 (Qq (Qh B p)) j d = true → Gl l j (ρ' d)) → (Zb S last).2 ((Zb S last).1.map (Cj (Qq (Qh B p)) ρ')) w' → Q .normal ρ' w')
    (h : Z4 5 (Qh B p) = true := by kernel_rfl) (hd : Up (Qh B p) = true := by kernel_rfl) (hm : P.follows .mixedOrders = true := by kernel_rfl) (hok : Dh (Qq (Qh B p)) n = true := by kernel_rfl) (he : Ba (Qq (Qh B p)) = true := by kernel_rfl)
    (hN : (Qq (Qh B p)).size = N := by kernel_rfl) (h0 : (Zb S 0).1 = [] := by kernel_rfl) (h1 : Nat.blt 0 S.length = true := by kernel_rfl)
    (hlast : (S.map (·.1)).zipIdx.all (fun x => Nat.beq x.2 last || (List.range N).any (fun i => Ub i hv && !Ub i x.1)) = true := by kernel_rfl) : At P n B p Q ρ w :=
  At.stages h hd hm hok he l hv S hN ⟨h0, Nat.le_of_ble_eq_true h1⟩ hS hobs hlast hend
end
abbrev iv (x : Int) : Value := .int .i64 x
abbrev sv (x : List UInt8) : Value := .string ⟨List.toArray x⟩
abbrev bv (b : Bool) : Value := .bool b
abbrev lv {α : Type} (A : Option Addr) (l : List α) (c : Nat) : Value := .slice A (List.length l) c
abbrev ln {α : Type} (l : List α) : Int := ((List.length l : Nat) : Int)
abbrev Bs := List UInt8
section
variable {P : Program} {n : Nat} {B : Code} {q : List Bool} {Q : Gg} {ρ : Fr} {w : World}
theorem aC (h : In P n B (false :: q).reverse 0 (R5 (At P n B (true :: q).reverse Q) Q) ρ w) (ht : Z4 1 (Qh B q.reverse) = true := by kernel_rfl) (h1 : Z4 5 (Qh B (false :: q).reverse) = true := by kernel_rfl) (h2 : Up (Qh B (false :: q).reverse) = false := by kernel_rfl) : At P n B q.reverse Q ρ w := aQ (aR h h1 h2) ht
theorem cD {β : Type} {x y : Option β} {r : β} {b : Bool} (t : Nat) (H : cond b x y = some r) (k0 : x = some r → At P n B (false :: q).reverse Q ρ w) (k1 : y = some r → At P n B (true :: q).reverse Q ρ w)
    (h : Z4 2 (Qh B q.reverse) = true := by kernel_rfl) (ho : Cb (Qh B q.reverse) = .tmp t := by kernel_rfl) (hb : opv ρ (.tmp t) = .bool b := by kernel_rfl) : At P n B q.reverse Q ρ w := At.cd h ho hb (fun e => k0 (ct H e)) fun e => k1 (cf H e)
end
section
variable {P : Program} {n : Nat} {B : Code} {p : List Bool} {Q : Gg} {ρ : Fr} {w w0 : World} {k : Nat} {K : Fr → World → Prop} {S : List Nat} {es : List Ent}
theorem cS {args : List Value} {v : Value} {es2 : List Ent} (hs : SP S w0 w es) (f : FuncId) (xs : Array Operand) (tys : Array TypeId) (d : Nat) (hcf : ∀ (args : Array Value) (w : World), (callFunc f args).run P w = .ok (.enter f args) w) (hc : Calls P f args.toArray w fun e w' => e = .returned v ∧ SP [] w w' es2)
    (next : ∀ w' : World, SP S w0 w' (es ++ es2) → K (X8 ρ (some d) v) w') (ho : Uf (Qh B p) k ρ = some (.call { callee := .value (.func f), args := xs, argTypes := tys }, some d) := by kernel_rfl) (hd : Zj n (some d) = true := by exact rfl)
    (hf : opv ρ (.func f) = .func (.func f) #[] #[] := by kernel_rfl) (hargs : (#[] : Array Value).toList ++ xs.toList.map (opv ρ) ++ (#[] : Array Value).toList = args := by kernel_rfl) : Qr P n B p k K ρ w := Df ho hd hf hargs hcf hc fun _ w' h => ⟨v, h.1, next w' (SP.call hs h.2)⟩
end
theorem kF {ops : Array Oper} {l : List (Value → Prop)} {ρ' : Fr} {v : Value} (hf : ∀ j d, E2 ops j d = true → Gl l j (ρ' d)) (j t : Nat) (e : Gl l j = GEq v := by exact rfl) (h : E2 ops j t = true := by kernel_rfl) : ρ' t = v := by
  have := hf j t h
  rw [e] at this
  exact this
theorem kT {ops : Array Oper} {ρ ρ' : Fr} (hs : ∀ t, Ug ops t = true → ρ' t = ρ t) (t : Nat) (v : Value) (h : Ug ops t = true := by kernel_rfl) (e : ρ t = v := by kernel_rfl) : ρ' t = v := (hs t h).trans e
theorem ai {a b : Prop} (h1 : a) (h2 : b) : a ∧ b := ⟨h1, h2⟩
theorem ei {α : Sort _} {p : α → Prop} (x : α) (h : p x) : ∃ x, p x := ⟨x, h⟩
section
variable {P : Program} {n : Nat} {B : Code} {p : List Bool} {Q : Gg} {ρ : Fr} {w w0 : World} {k : Nat} {K : Fr → World → Prop} {S : List Nat} {es : List Ent}
theorem zE {α : Type} (e : Enc α) (l : List α) (A : Option Addr) (c : Nat) (T E : TypeId) (x ix : Operand) (iz : Int) (d : Nat) (hr : RdT e w A c l) (h0 : 0 ≤ iz) (h1 : iz < (l.length : Int))
    (next : ∀ b off : Nat, A = some ⟨b, off, none⟩ → b < w.heap.size → (∀ j u, (Qd e l)[j]? = some u → w.cell? ⟨b, off + j, none⟩ = some u) → K (X8 ρ (some d) (.pointer (some ⟨b, off + iz.toNat * e.sz, none⟩))) w)
    (ho : Uf (Qh B p) k ρ = some (.indexAddr T x ix, some d) := by kernel_rfl) (hd : Zj n (some d) = true := by exact rfl) (hx : opv ρ x = .slice A l.length c := by kernel_rfl) (hix : opv ρ ix = .int .i64 iz := by kernel_rfl) (hT : P.underlying T = some (.slice E) := by kernel_rfl) (hE : (P.info? E).map (·.size) = some e.sz := by kernel_rfl) : Qr P n B p k K ρ w :=
  Cg ho hd hx hix hT hE hr h0 h1 next
theorem zN {α : Type} (e : Enc α) (T E : TypeId) (len : Nat) (parts : Array (Nat × Operand)) (cs : Array Value) (l : List α) (d : Nat) (hs : SP S w0 w es) (next : ∀ (g : Nat) (w' : World), SP S w0 w' (es ++ [B5 E e (some ⟨g, 0, none⟩) l.length l]) → K (X8 ρ (some d) (.slice (some ⟨g, 0, none⟩) l.length l.length)) w')
    (ho : Uf (Qh B p) k ρ = some (.buildSlice T len parts, some d) := by kernel_rfl) (hd : Zj n (some d) = true := by exact rfl) (hb : ∀ w : World, (Instr.buildSlice T len (parts.map fun (i, x) => (i, opv ρ x))).run P w = .ok (.slice (some ⟨w.heap.size, 0, none⟩) len len) (w.alloc (.cells cs E)) := by intro _; kernel_rfl)
    (hc : cs.toList = Qd e l := by exact rfl) (hl : l.length = len := by exact rfl) (hm : Nat.ble l.length 2147483648 = true := by exact rfl) (hz : Nat.ble 1 e.sz = true := by exact rfl) : Qr P n B p k K ρ w := Yy l ho hd hb hs hc hl hm hz next
theorem jX (k' t x b off : Nat) (v : Value) (d : Nat) (hc : w.cell? ⟨b, off, none⟩ = some v) (next : In P n B p k' Q (X8 ρ (some d) v) w) (hk : k' = k + 1 := by exact rfl) (hz : Nat.blt k (Qq (Qh B p)).size = true := by kernel_rfl) (ho : Uf (Qh B p) k ρ = some (.load t (.tmp x), some d) := by kernel_rfl)
    (hd : Zj n (some d) = true := by exact rfl) (hx : opv ρ (.tmp x) = .pointer (some ⟨b, off, none⟩) := by kernel_rfl) (ht : (P.underlying t).map Ih = some false := by kernel_rfl) : In P n B p k Q ρ w := In.step hk hz (Qr.cell ho hd hx ht hc next)
theorem jE {α : Type} (k' : Nat) (e : Enc α) (l : List α) (A : Option Addr) (c : Nat) (T E : TypeId) (x ix : Operand) (iz : Int) (d : Nat) (hr : RdT e w A c l) (h0 : 0 ≤ iz) (h1 : iz < (l.length : Int))
    (next : ∀ b off : Nat, A = some ⟨b, off, none⟩ → b < w.heap.size → (∀ j u, (Qd e l)[j]? = some u → w.cell? ⟨b, off + j, none⟩ = some u) → In P n B p k' Q (X8 ρ (some d) (.pointer (some ⟨b, off + iz.toNat * e.sz, none⟩))) w) (hk : k' = k + 1 := by exact rfl) (hz : Nat.blt k (Qq (Qh B p)).size = true := by kernel_rfl)
    (ho : Uf (Qh B p) k ρ = some (.indexAddr T x ix, some d) := by kernel_rfl) (hd : Zj n (some d) = true := by exact rfl) (hx : opv ρ x = .slice A l.length c := by kernel_rfl) (hix : opv ρ ix = .int .i64 iz := by kernel_rfl) (hT : P.underlying T = some (.slice E) := by kernel_rfl) (hE : (P.info? E).map (·.size) = some e.sz := by kernel_rfl) : In P n B p k Q ρ w :=
  In.step hk hz (Cg ho hd hx hix hT hE hr h0 h1 next)
end
end Go.Proofs.YtibipfdpembkgaaGreatDoor
namespace Go.Proofs.YtibipfdpembkgaaGreatDoor
open Go.RowKit
def optE {α β : Type} (z : Option α) (a : Option β) (f : α → Option β) : Option β := match z with | none => a | some x => f x
theorem U8 {α β : Type} {a : Option β} {f : α → Option β} {r : β} (h : optE (none : Option α) a f = some r) : a = some r := h
section
variable {S : List Nat} {B : Nat} {w w' w0 : World} {es es' es2 : List Ent}
theorem SP.sub (h : SP S w0 w es) (l : List Nat) (hn : Ch l = true) (he : es' = selE es l) : SP (es'.flatMap Ent.fp) w w es' := by
  subst he
  exact ⟨Mod.refl _ _, (h.own.sel hn).widen fun e hm k hk _ => .inr (List.mem_flatMap.2 ⟨e, hm, hk⟩)⟩
end
end Go.Proofs.YtibipfdpembkgaaGreatDoor
namespace Go.Proofs
open Go.Shelf
def J9 : Go.Shelf.Ren := ⟨fun | 156 => 243 | 165 => 291 | 166 => 292 | 169 => 293 | 240 => 329 | 241 => 330 | 276 => 363 | 277 => 364 | n => n, fun | 31 => 52 | 9 => 9 | 3 => 3 | 4 => 4 | 0 => 0 | 20 => 20 | 72 => 424 | 76 => 427 | 70 => 422 | 37 => 51 | 75 => 426 | 127 => 450 | 164 => 486 | 5 => 5 | 80 => 429 | n => n, fun | n => n⟩
theorem Gi : Go.Proofs.Lays.n156 Tryz.prog J9 := {
  mixed := by kernel_rfl
  f156 := Tryz.func243.trans (congrArg some (by kernel_rfl))
  f165 := Tryz.func291.trans (congrArg some (by kernel_rfl))
  f166 := Tryz.func292.trans (congrArg some (by kernel_rfl))
  f169 := Tryz.func293.trans (congrArg some (by kernel_rfl))
  f240 := Tryz.func329.trans (congrArg some (by kernel_rfl))
  f241 := Tryz.func330.trans (congrArg some (by kernel_rfl))
  f276 := Tryz.func363.trans (congrArg some (by kernel_rfl))
  f277 := Tryz.func364.trans (congrArg some (by kernel_rfl))
  t0 := Tryz.underlying0
  a0 := Tryz.isAgg0
  z0 := Tryz.sizeOf0
  v0 := Tryz.zeroValue0
  t3 := Tryz.underlying3
  a3 := Tryz.isAgg3
  z3 := Tryz.sizeOf3
  v3 := Tryz.zeroValue3
  t4 := Tryz.underlying4
  a4 := Tryz.isAgg4
  z4 := Tryz.sizeOf4
  v4 := Tryz.zeroValue4
  t9 := Tryz.underlying9
  a9 := Tryz.isAgg9
  z9 := Tryz.sizeOf9
  v9 := Tryz.zeroValue9
  t20 := Tryz.underlying20
  a20 := Tryz.isAgg20
  z20 := Tryz.sizeOf20
  v20 := Tryz.zeroValue20
  t31 := Tryz.underlying52
  a31 := Tryz.isAgg52
  z31 := Tryz.sizeOf52
  v31 := Tryz.zeroValue52
  t37 := Tryz.underlying51
  a37 := Tryz.isAgg51
  z37 := Tryz.sizeOf51
  v37 := Tryz.zeroValue51
  t70 := Tryz.underlying422
  a70 := Tryz.isAgg422
  z70 := Tryz.sizeOf422
  v70 := Tryz.zeroValue422
  t72 := Tryz.underlying424
  a72 := Tryz.isAgg424
  z72 := Tryz.sizeOf424
  v72 := Tryz.zeroValue424
  t75 := Tryz.underlying426
  a75 := Tryz.isAgg426
  z75 := Tryz.sizeOf426
  v75 := Tryz.zeroValue426
  t76 := Tryz.underlying427
  a76 := Tryz.isAgg427
  z76 := Tryz.sizeOf427
  v76 := Tryz.zeroValue427
  t127 := Tryz.underlying450
  a127 := Tryz.isAgg450
  z127 := Tryz.sizeOf450
  v127 := Tryz.zeroValue450
  t164 := Tryz.underlying486
  a164 := Tryz.isAgg486
  z164 := Tryz.sizeOf486
  v164 := Tryz.zeroValue486 }
theorem X6 : Builder.Extra Tryz.prog J9 := {
  sizeBuilder := by kernel_rfl
  liesBuilder := by kernel_rfl
  t5 := Tryz.underlying5
  a5 := Tryz.isAgg5
  z5 := Tryz.sizeOf5
  v5 := Tryz.zeroValue5
  infoByte := by kernel_rfl
  cellsByte := by kernel_rfl
  sizeByte := by kernel_rfl
  neB5 := by decide }
open Go.RowKit in
theorem Tryz.strings_Join_none (a : Option Addr) (c : Nat) (sep : ByteArray) (w : World) :
    Calls Tryz.prog 243 #[.slice a 0 c, .string sep] w fun e w' => e = .returned (.string ⟨#[]⟩) ∧ w' = w := Any.strings_Join_none Gi X6 a c sep w
open Go.RowKit in
theorem Tryz.strings_Join (bk o c : Nat) (xs : List ByteArray) (sep : ByteArray) (w : World) (hcells : ∀ (j : Nat) x, xs[j]? = some x → w.cell? ⟨bk, o + j, none⟩ = some (.string x)) (hbk : bk < w.heap.size) (hN : xs.length ≤ 140737488355328) (hcap : xs.length ≤ c) (hlen : (Lib.join (xs.map (·.data.toList)) sep.data.toList).length ≤ 140737488355328) :
    Calls Tryz.prog 243 #[.slice (some ⟨bk, o, none⟩) xs.length c, .string sep] w fun e w' => e = .returned (.string ⟨(Lib.join (xs.map (·.data.toList)) sep.data.toList).toArray⟩) ∧ Below w.heap.size w w' := Any.strings_Join Gi X6 bk o c xs sep w hcells hbk hN hcap hlen
end Go.Proofs
namespace Go.Proofs.YtibipfdpembkgaaGreatDoor
open Go.RowKit
theorem sp_belowS {w w' : World} (h : Below w.heap.size w w') : SP [] w w' [] := ⟨Yl h [], trivial⟩
def ba (l : List UInt8) : ByteArray := ⟨l.toArray⟩
def Yj (l : List (List UInt8)) (sep : List UInt8) : Option (List UInt8) :=
  cond (Nat.ble l.length 140737488355328 && Nat.ble (Lib.join l sep).length 140737488355328) (some (Lib.join l sep)) none
theorem map_ba (l : List (List UInt8)) : (l.map ba).map (·.data.toList) = l := by
  rw [List.map_map]
  conv => rhs; rw [← List.map_id l]
  rfl
theorem Y4 (A : Option Addr) (c : Nat) (l : List (List UInt8)) (sep : List UInt8) (w0 : World) (hr : RdT eStr w0 A c l) (r : List UInt8) (H : Yj l sep = some r) :
    Calls Tryz.prog 243 #[(.slice A (List.length l) c), (.string ⟨List.toArray sep⟩)] w0 (fun e w' => e = .returned (.string ⟨List.toArray r⟩) ∧ SP [] w0 w' []) := by
  unfold Yj at H
  cases hc : (Nat.ble l.length 140737488355328 && Nat.ble (Lib.join l sep).length 140737488355328) <;> rw [hc] at H
  · cases H
  injection H with H
  subst H
  rw [Bool.and_eq_true] at hc
  have h1 := Nat.le_of_ble_eq_true hc.1
  have h2 := Nat.le_of_ble_eq_true hc.2
  obtain ⟨_, hle, _, h4⟩ := hr
  by_cases h0 : l = []
  · subst h0
    refine (Tryz.strings_Join_none A c ⟨sep.toArray⟩ w0).mono ?_
    rintro e w' ⟨rfl, rfl⟩
    exact ⟨rfl, SP.start [] w'⟩
  · obtain ⟨b, off, rfl, hb, hcell⟩ := h4 (by cases l with | nil => exact absurd rfl h0 | cons x r => simp)
    have hlen : (l.map ba).length = l.length := by simp
    have := Tryz.strings_Join b off c (l.map ba) ⟨sep.toArray⟩ w0 (fun j x hj => by
      rw [List.getElem?_map] at hj
      cases hx : l[j]? with
      | none => rw [hx] at hj; cases hj
      | some y =>
        rw [hx] at hj
        injection hj with hj
        subst hj
        have := G7 eStr (l := l) (i := j) (x := y) hx (j := 0) (u := .string ⟨y.toArray⟩) rfl
        have h9 := hcell _ _ this
        simpa [eStr, ba] using h9) hb (by rw [hlen]; exact h1) (by rw [hlen]; exact hle) (by rw [map_ba]; exact h2)
    rw [map_ba, hlen] at this
    refine this.mono ?_
    rintro e w' ⟨rfl, hbel⟩
    exact ⟨rfl, sp_belowS hbel⟩
end Go.Proofs.YtibipfdpembkgaaGreatDoor
namespace Go.Proofs.YtibipfdpembkgaaGreatDoor
open Go.RowKit
section
variable {α : Type} {e : Enc α} {t t' : TypeId} {g m : Nat} {l : List α} {w w' w0 : World} {S : List Nat} {es : List Ent}
def Q7 (t : TypeId) (e : Enc α) (g m : Nat) (l : List α) : Ent :=
  ⟨[g], fun w => l.length = m ∧ m ≤ maxLen ∧ w.heap[g]? = some (.cells (Qd e l).toArray t (0, 0)), fun w w' h hk => ⟨hk.1, hk.2.1, by rw [h g (by simp)]; exact hk.2.2⟩⟩
theorem Qv (h : (Q7 t e g m l).ok w) : l.length = m := h.1
theorem Qp (h : (Q7 t e g m l).ok w) : RdT e w (some ⟨g, 0, none⟩) m l := by
  obtain ⟨h1, h2, h3⟩ := h
  refine ⟨Vg e l, by omega, h2, fun _ => ⟨g, 0, rfl, (Array.getElem?_eq_some_iff.1 h3).1, fun j u hu => ?_⟩⟩
  rw [Nat.zero_add, cell_of_row w g j _ t (0, 0) h3]
  simpa using hu
theorem SP.pushArr {cs : Array Value} (h : SP S w0 w es) (hc : cs = (Qd e l).toArray) (hl : l.length = m) (hm : m ≤ maxLen) : SP S w0 (w.alloc (.cells cs t)) (es ++ [Q7 t e w.heap.size m l]) := by
  subst hc
  refine h.push ((Below.refl _ _).alloc (Nat.le_refl _) _) ⟨hl, hm, heap_alloc_new w _⟩ fun k hk => ?_
  have : k = w.heap.size := by simpa [Q7] using hk
  subst this
  simp
theorem SP.setArr {i : Nat} {l' : List α} (h : SP S w0 w es) (hi : es[i]? = some (Q7 t e g m l)) (hl : l'.length = m) {cs : Array Value} (hc : cs = (Qd e l').toArray) : SP S w0 (w.setRow g cs) (es.set i (Q7 t e g m l')) := by
  subst hc
  obtain ⟨h1, h2, h3⟩ := h.get hi
  have hlt : g < w.heap.size := (Array.getElem?_eq_some_iff.1 h3).1
  refine h.set hi (Mod.setRow w g _) (fun k hk => hk) ⟨hl, h2, setRow_heap w g _ _ t (0, 0) h3⟩ fun k hk => ⟨.inl hk, ?_⟩
  have : k = g := by simpa [Q7] using hk
  subst this
  simpa [World.setRow] using hlt
def cpy (l : List α) (lo dl : Nat) (x : List α) : List α := l.take lo ++ x.take dl ++ l.drop (lo + min dl x.length)
theorem Nz {lo dl : Nat} {x : List α} (h : lo + dl ≤ l.length) : (cpy l lo dl x).length = l.length := by
  unfold cpy
  simp only [List.length_append, List.length_take, List.length_drop]
  omega
end
section
variable {P : Program} {n : Nat} {Q : Gg} {ρ : Fr} {w w0 : World} {B : Code} {p : List Bool} {k : Nat} {d : Option Nat} {S : List Nat} {es : List Ent} {K : Fr → World → Prop}
variable {α : Type} {e : Enc α} {l : List α} {t t' : TypeId} {g m : Nat}
theorem Q1 {z : Value} (ho : Uf (Qh B p) k ρ = some (.alloc t, d)) (hd : Zj n d = true) (hz : (P.info? t).bind (·.zero) = some z) (hc : z.cells = (Qd e l).toArray) (hl : l.length = m) (hm : Nat.ble m 2147483648 = true) (hs : SP S w0 w es)
    (next : ∀ (g : Nat) (w' : World), SP S w0 w' (es ++ [Q7 t e g m l]) → K (X8 ρ d (.pointer (some ⟨g, 0, none⟩))) w') : Qr P n B p k K ρ w := by
  refine Qr.val ho hd (v := .pointer (some ⟨w.heap.size, 0, none⟩)) (w' := w.alloc (.cells z.cells t)) (fun o hop => ?_) (next _ _ (hs.pushArr hc hl (Dg hm)))
  unfold execOp; rw [hop]
  cases hi : P.info? t with
  | none => rw [hi] at hz; cases hz
  | some i =>
    rw [hi] at hz
    have hz : i.zero = some z := hz
    have hzv : (zeroValue t).run P w = .ok z w := by simp [zeroValue, typeInfo, hi, hz]
    simp only [Instr.alloc, Sem.run_bind, hzv, Result.andThen_ok]
    rfl
theorem Nc {x : Operand} (ho : Uf (Qh B p) k ρ = some (.box t x, d)) (hd : Zj n d = true) (hv : opv ρ x = .agg (Qd e l).toArray) (hl : l.length = m) (hm : Nat.ble m 2147483648 = true) (hs : SP S w0 w es)
    (next : ∀ (g : Nat) (w' : World), SP S w0 w' (es ++ [Q7 t e g m l]) → K (X8 ρ d (.pointer (some ⟨g, 0, none⟩))) w') : Qr P n B p k K ρ w := by
  refine Qr.val ho hd (v := .pointer (some ⟨w.heap.size, 0, none⟩)) (w' := w.alloc (.cells (opv ρ x).cells t)) (fun o hop => ?_) (next _ _ (hs.pushArr (by rw [hv]; rfl) hl (Dg hm)))
  unfold execOp; rw [hop]; rfl
theorem Vl {x : Operand} {i : Nat} (ho : Uf (Qh B p) k ρ = some (.load t x, d)) (hd : Zj n d = true) (hv : opv ρ x = .pointer (some ⟨g, 0, none⟩)) (hs : SP S w0 w es) (hi : es[i]? = some (Q7 t' e g m l))
    (ht : (P.underlying t).map Ih = some true) (hz : (P.info? t).map (·.size) = some (m * e.sz)) (next : K (X8 ρ d (.agg (Qd e l).toArray)) w) : Qr P n B p k K ρ w := by
  have hok := hs.get hi
  refine Qr.cells ho hd hv ht (by rw [Vg, Qv hok]; exact hz) (fun j u hu => ?_) next
  rw [Nat.zero_add, cell_of_row w g j _ t' (0, 0) hok.2.2]
  simpa using hu
theorem Vb {x y : Operand} {i : Nat} {l' : List α} (ho : Uf (Qh B p) k ρ = some (.store t x y, d)) (hd : Zj n d = true) (hx : opv ρ x = .pointer (some ⟨g, 0, none⟩)) (hy : opv ρ y = .agg (Qd e l').toArray)
    (hl : l'.length = m) (hs : SP S w0 w es) (hi : es[i]? = some (Q7 t' e g m l)) (hz : (P.info? t).map (·.size) = some (m * e.sz))
    (next : ∀ w' : World, SP S w0 w' (es.set i (Q7 t' e g m l')) → K (X8 ρ d undef) w') : Qr P n B p k K ρ w := by
  obtain ⟨h1, h2, h3⟩ := hs.get hi
  have hcs : (opv ρ y).cells = (Qd e l').toArray := by rw [hy]; rfl
  refine Fv ho hd (w' := w.setRow g (Qd e l').toArray) (fun o hop => ?_) (next _ (hs.setArr hi hl rfl))
  cases hi' : P.info? t with
  | none => rw [hi'] at hz; cases hz
  | some ii =>
    rw [hi'] at hz
    have hz : ii.size = m * e.sz := by simpa using hz
    have hsz : (sizeOf t).run P w = .ok (m * e.sz) w := by simp [sizeOf, typeInfo, hi', hz]
    have hst := run_storeCells_at P g 0 t' (Qd e l') 0 (Qd e l).toArray w h3 (by simp [Vg, hl, h1]) (Jr e l')
    have hd0 : (Qd e l).drop (0 + 0 + (Qd e l').length) = [] := List.drop_of_length_le (by simp [Vg, hl, h1])
    simp only [hd0, Nat.add_zero, List.take_zero, List.nil_append, List.append_nil] at hst
    unfold execOp; rw [hop]
    have hsize : (opv ρ y).cells.size = m * e.sz := by rw [hcs]; simp [Vg, hl]
    simp only [hx, Instr.storeAt, Instr.sureAddr, Sem.run_bind, Sem.run_pure, Result.andThen_ok, storeVar, hsz, hsize, ne_eq, not_true_eq_false, if_false]
    rw [hcs]
    simp only [hst, Result.andThen_ok]
theorem Qe {T E : TypeId} {x ix : Operand} {ki : IntKind} {iz : Int} {i : Nat} (ho : Uf (Qh B p) k ρ = some (.indexAddr T x ix, d)) (hd : Zj n d = true)
    (hx : opv ρ x = .pointer (some ⟨g, 0, none⟩)) (hix : opv ρ ix = .int ki iz) (hT : P.underlying T = some (.array m E)) (hE : (P.info? E).map (·.size) = some e.sz) (hs : SP S w0 w es) (hi : es[i]? = some (Q7 t' e g m l)) (h0 : 0 ≤ iz) (h1 : iz < (l.length : Int))
    (next : K (X8 ρ d (.pointer (some ⟨g, 0 + iz.toNat * e.sz, none⟩))) w) : Qr P n B p k K ρ w := by
  have hl := Qv (hs.get hi)
  refine Qr.val ho hd (fun o hop => ?_) next
  cases hi' : P.info? E with
  | none => rw [hi'] at hE; cases hE
  | some ii =>
    rw [hi'] at hE
    have hE : ii.size = e.sz := by simpa using hE
    have hsz : (sizeOf E).run P w = .ok e.sz w := by simp [sizeOf, typeInfo, hi', hE]
    rw [hl] at h1
    unfold execOp; rw [hop]
    simp only [hx, hix, Sem.run_bind, Instr.indexAt, asIntOf, Sem.run_pure, Result.andThen_ok, run_underlying hT, Instr.sureAddr]
    simp [h0, h1, hsz, Jq]
theorem Vf {x y : Operand} {iz : Int} {v : Value} {x' : α} {i b off : Nat} (ho : Uf (Qh B p) k ρ = some (.store t x y, d)) (hd : Zj n d = true) (hA : some (⟨g, 0, none⟩ : Addr) = some ⟨b, off, none⟩) (hx : opv ρ x = .pointer (some ⟨b, off + iz.toNat * e.sz, none⟩)) (hy : opv ρ y = v)
    (hs : SP S w0 w es) (hi : es[i]? = some (Q7 t' e g m l)) (hz : e.sz = 1) (h1 : iz < (l.length : Int)) (h0 : 0 ≤ iz) (hv : e.enc x' = [v]) (ht : (P.info? t).map (·.size) = some 1)
    (next : ∀ w' : World, SP S w0 w' (es.set i (Q7 t' e g m (l.set iz.toNat x'))) → K (X8 ρ d undef) w') : Qr P n B p k K ρ w := by
  subst hy
  injection hA with hA
  injection hA with hA1 hA2
  subst hA1 hA2
  obtain ⟨hl, h2, h3⟩ := hs.get hi
  have hlt : iz.toNat < l.length := by omega
  have hlen := Vg e l
  rw [hz, Nat.mul_one] at hlen
  have hone := e.one x' (opv ρ y) (by rw [hv]; simp)
  have hset : (Qd e l).take iz.toNat ++ [opv ρ y] ++ (Qd e l).drop (iz.toNat + 1) = Qd e (l.set iz.toNat x') := by
    have := E0 e l iz.toNat x' hlt
    rw [hz, Nat.mul_one, hv] at this
    exact this
  have hst := run_storeCells_at P g iz.toNat t' [opv ρ y] 0 (Qd e l).toArray w h3 (by simp; omega) (by intro v hv; simp at hv; subst hv; exact hone)
  refine Fv ho hd (w' := w.setRow g (Qd e (l.set iz.toNat x')).toArray) (fun o hop => ?_) (next _ (hs.setArr hi (by simpa using hl) rfl))
  have hcs : (opv ρ y).cells = #[opv ρ y] := by
    cases hvv : opv ρ y <;> first | rfl | (rw [hvv] at hone; cases hone)
  cases hi' : P.info? t with
  | none => rw [hi'] at ht; cases ht
  | some ii =>
    rw [hi'] at ht
    have ht : ii.size = 1 := by simpa using ht
    have hsz : (sizeOf t).run P w = .ok 1 w := by simp [sizeOf, typeInfo, hi', ht]
    unfold execOp; rw [hop]
    rw [hz, Nat.zero_add, Nat.mul_one] at hx
    simp only [Nat.add_zero, List.length_cons, List.length_nil, Nat.zero_add, hset] at hst
    simp only [hx, Instr.storeAt, Instr.sureAddr, Sem.run_bind, Sem.run_pure, Result.andThen_ok, storeVar, hsz, hcs]
    simp [hst]
theorem E4 {cap : Nat} {lo hi : Option Value} {i j : Nat} (hlo : lo = none ∧ i = 0 ∨ ∃ kk, lo = some (.int kk (i : Int))) (hhi : hi = none ∧ j = cap ∨ ∃ kk, hi = some (.int kk (j : Int))) (hij : i ≤ j) (hj : j ≤ cap) (w : World) :
    (Instr.sliceBounds false cap cap lo hi none).run P w = .ok (i, j, cap) w := Dd hlo hhi hij hj (Nat.le_refl _) w
theorem Jv {T E : TypeId} {x : Operand} {lo hi : Option Operand} {i j : Int} {l' : List α} {q : Nat} (ho : Uf (Qh B p) k ρ = some (.slice T x lo hi none, d)) (hd : Zj n d = true)
    (hx : opv ρ x = .pointer (some ⟨g, 0, none⟩)) (hT : P.underlying T = some (.array m E)) (hE : (P.info? E).map (·.size) = some e.sz) (hlo : De ρ lo i 0) (hhi : De ρ hi j l.length) (hs : SP S w0 w es) (hq : es[q]? = some (Q7 t' e g m l))
    (h0 : 0 ≤ i) (h1 : i ≤ j) (h2 : j ≤ (l.length : Int)) (hy : (l.take j.toNat).drop i.toNat = l')
    (next : K (X8 ρ d (.slice (Nw e.sz m i.toNat (some ⟨g, 0, none⟩)) l'.length (m - i.toNat))) w) : Qr P n B p k K ρ w := by
  subst hy
  have hl0 := Qv (hs.get hq)
  have hl : ((l.take j.toNat).drop i.toNat).length = j.toNat - i.toNat := by simp; omega
  rw [hl] at next
  refine Qr.val ho hd (v := .slice (Nw e.sz m i.toNat (some ⟨g, 0, none⟩)) (j.toNat - i.toNat) (m - i.toNat)) (fun o hop => ?_) next
  unfold execOp; rw [hop]
  cases hi' : P.info? E with
  | none => rw [hi'] at hE; cases hE
  | some ii =>
    rw [hi'] at hE
    have hE : ii.size = e.sz := by simpa using hE
    have hsz : ∀ w, (sizeOf E).run P w = .ok e.sz w := fun w => by simp [sizeOf, typeInfo, hi', hE]
    have hb := E4 (P := P) (cap := m) (lo := lo.map (opv ρ)) (hi := hi.map (opv ρ)) (i := i.toNat) (j := j.toNat)
      (by
        cases lo with
        | none => exact .inl ⟨rfl, by have : i = 0 := hlo; omega⟩
        | some y => obtain ⟨kk, hh⟩ := hlo; exact .inr ⟨kk, by rw [Option.map_some, hh, Int.toNat_of_nonneg h0]⟩)
      (by
        cases hi with
        | none => exact .inl ⟨rfl, by have : j = (l.length : Int) := hhi; omega⟩
        | some y => obtain ⟨kk, hh⟩ := hhi; exact .inr ⟨kk, by rw [Option.map_some, hh, Int.toNat_of_nonneg (by omega)]⟩)
      (by omega) (by omega) w
    simp only [hx, Instr.sliceAt, Sem.run_bind, run_underlying hT, Result.andThen_ok, Instr.sureAddr, Sem.run_pure, Option.map_none, hb, hsz]
    congr 3
    unfold Nw
    split <;> rfl
theorem Cp {T E : TypeId} {x : Operand} {q : Nat} (ho : Uf (Qh B p) k ρ = some (.slice T x none none none, d)) (hd : Zj n d = true)
    (hx : opv ρ x = .pointer (some ⟨g, 0, none⟩)) (hT : P.underlying T = some (.array m E)) (hE : (P.info? E).map (·.size) = some e.sz) (hs : SP S w0 w es) (hq : es[q]? = some (Q7 t' e g m l))
    (next : K (X8 ρ d (.slice (some ⟨g, 0, none⟩) l.length m)) w) : Qr P n B p k K ρ w := by
  have hl := Qv (hs.get hq)
  refine Jv (l' := l) ho hd hx hT hE (i := 0) (j := (l.length : Int)) rfl rfl hs hq (by omega) (by omega) (by omega) (by simp) ?_
  have : Nw e.sz m (0 : Int).toNat (some ⟨g, 0, none⟩) = some ⟨g, 0, none⟩ := by
    unfold Nw
    split
    · rfl
    · simp [Jq]
  rw [this]
  exact next
theorem cut_off {sz c lo : Nat} (h : lo < c) : Nw sz c lo (some ⟨g, 0, none⟩) = some ⟨g, lo * sz, none⟩ := by
  unfold Nw
  rw [if_neg (by omega)]
  simp [Jq]
theorem Hv {sz dl : Nat} : dl = 0 ∨ some (⟨g, 0, none⟩ : Addr) = some ⟨g, 0 * sz, none⟩ := .inr (by rw [Nat.zero_mul])
theorem cut_hA {i j : Int} {l' : List α} (hl : l.length = m) (h0 : 0 ≤ i) (h1 : i ≤ j) (h2 : j ≤ (l.length : Int)) (hy : (l.take j.toNat).drop i.toNat = l') : l'.length = 0 ∨ Nw e.sz m i.toNat (some ⟨g, 0, none⟩) = some ⟨g, i.toNat * e.sz, none⟩ := by
  subst hy
  by_cases h : i.toNat < m
  · exact .inr (cut_off h)
  · left
    simp
    omega
theorem cut_dl {i j : Int} {l' : List α} (h0 : 0 ≤ i) (h1 : i ≤ j) (h2 : j ≤ (l.length : Int)) (hy : (l.take j.toNat).drop i.toNat = l') : i.toNat + l'.length ≤ l.length := by
  subst hy
  simp
  omega
theorem Y0 {a : Nat} (h : ρ a = .pointer (some ⟨g, 0, none⟩)) (hok : (Q7 t' e g m l).ok w) (ht : (P.underlying t).map Ih = some true) (hz : (P.info? t).map (·.size) = some (m * e.sz)) : (rvS ρ (.cell a t)).run P w = .ok (.agg (Qd e l).toArray) w := by
  simp only [rvS, h, asAddr, Sem.run_bind, Sem.run_pure, Result.andThen_ok]
  cases hu : P.underlying t with
  | none => rw [hu] at ht; cases ht
  | some dd =>
    rw [hu] at ht
    have ht : Ih dd = true := by simpa using ht
    have hagg : (isAgg t).run P w = .ok true w := by
      rw [← ht]
      simp only [isAgg, Sem.run_bind, run_underlying hu, Result.andThen_ok]
      cases dd <;> rfl
    cases hi : P.info? t with
    | none => rw [hi] at hz; cases hz
    | some i =>
      rw [hi] at hz
      have hz : i.size = m * e.sz := by simpa using hz
      have hsz : (sizeOf t).run P w = .ok (Qd e l).length w := by rw [Vg, Qv hok]; simp [sizeOf, typeInfo, hi, hz]
      have hload := run_loadCells_list (P := P) w ⟨g, 0, none⟩ (Qd e l) (fun j u hu => by
        rw [Jq, Nat.zero_add, cell_of_row w g j _ t' (0, 0) hok.2.2]
        simpa using hu)
      simp only [loadVar, Sem.run_bind, hagg, Result.andThen_ok, if_true, hsz, hload, Sem.run_pure]
theorem Dk {T T2 E : TypeId} {x y : Operand} {i lo dl dc c2 : Nat} {A A2 : Option Addr} {y' l' : List α} (ho : Uf (Qh B p) k ρ = some (.call { callee := .builtin .copy, args := #[x, y], argTypes := #[T, T2] }, d)) (hd : Zj n d = true)
    (hx : opv ρ x = .slice A dl dc) (hy : opv ρ y = .slice A2 y'.length c2) (hT : P.underlying T = some (.slice E)) (hE : (P.info? E).map (·.size) = some 1) (hz : e.sz = 1)
    (hs : SP S w0 w es) (hi : es[i]? = some (Q7 t' e g m l)) (hA : dl = 0 ∨ A = some ⟨g, lo * e.sz, none⟩) (hdl : lo + dl ≤ l.length) (hr : RdT e w A2 c2 y') (hq : cpy l lo dl y' = l')
    (next : ∀ w' : World, SP S w0 w' (es.set i (Q7 t' e g m l')) → l'.length = l.length → K (X8 ρ d (.int .i64 (min (y'.length : Int) (dl : Int)))) w') : Qr P n B p k K ρ w := by
  subst hq
  obtain ⟨hl, h2, h3⟩ := hs.get hi
  have hcl := Nz (l := l) (x := y') hdl
  have hcells : Qd e (cpy l lo dl y') = (Qd e l).take lo ++ (Qd e y').take dl ++ (Qd e l).drop (lo + min dl y'.length) := by
    have h1 := Yn e l lo
    have h2 := Yn e y' dl
    have h3 := Ym e l (lo + min dl y'.length)
    rw [hz, Nat.mul_one] at h1 h2 h3
    rw [h1, h2, h3]
    unfold cpy
    rw [Yh, Yh]
  have hlen2 := Vg e y'
  have hlen1 := Vg e l
  rw [hz, Nat.mul_one] at hlen1 hlen2
  have hnum : goInt (Nat.min y'.length dl) = .int .i64 (min (y'.length : Int) (dl : Int)) := by
    show Value.int .i64 _ = _
    congr 1
    show ((min y'.length dl : Nat) : Int) = _
    omega
  by_cases h0 : Nat.min y'.length dl = 0
  · have hsame : cpy l lo dl y' = l := by
      unfold cpy
      have h0' : min dl y'.length = 0 := by have : min y'.length dl = 0 := h0; omega
      rw [h0', Nat.add_zero]
      have : y'.take dl = [] := by
        apply List.eq_nil_of_length_eq_zero
        rw [List.length_take]; exact h0'
      rw [this, List.append_nil, List.take_append_drop]
    have hrun := run_copy_none (P := P) w T T2
    refine Qr.val ho hd (v := .int .i64 (min (y'.length : Int) (dl : Int))) (w' := w) (fun o hop => ?_) (next w ?_ hcl)
    · unfold execOp; rw [hop]
      simp only [resolve, Sem.run_bind, Sem.run_pure, Result.andThen_ok, invoke, builtin, List.map_toArray, List.map_cons, List.map_nil, hx, hy]
      rw [hrun o.type E A A2 dl dc y'.length c2 hT hE h0]
      simp [Result.andThen, ← hnum, h0]
    · have : es.set i (Q7 t' e g m (cpy l lo dl y')) = es := by
        rw [hsame]
        apply List.ext_getElem?
        intro j
        rw [List.getElem?_set]
        split
        · rename_i hij; subst hij
          split
          · exact hi.symm
          · rename_i hge; rw [List.getElem?_eq_none (by omega)]
        · rfl
      rw [this]
      exact hs
  · have h0' : min y'.length dl ≠ 0 := h0
    rcases hA with hA | hA
    · omega
    · obtain ⟨_, _, _, h4⟩ := hr
      obtain ⟨b, off, hA2, hb, hc⟩ := h4 (by omega)
      subst hA hA2
      have htl : ((Qd e y').take dl).length = Nat.min y'.length dl := by rw [List.length_take, hlen2]; show min dl y'.length = min y'.length dl; omega
      have hrun := fun ty => run_copy_row (P := P) w T T2 ty E g (lo * e.sz) dl dc ⟨b, off, none⟩ y'.length c2 (Qd e l).toArray t' ((Qd e y').take dl) hT hE h3 htl
        (fun j v hj => by
          rw [Jq]
          rw [List.getElem?_take] at hj
          split at hj
          · exact hc j v hj
          · cases hj) (by rw [htl, hz, Nat.mul_one]; simp only [List.size_toArray, hlen1]; show lo + min y'.length dl ≤ l.length; omega) (fun v hv => Jr e y' v (List.mem_of_mem_take hv))
      refine Qr.val ho hd (v := .int .i64 (min (y'.length : Int) (dl : Int))) (w' := w.setRow g (Qd e (cpy l lo dl y')).toArray) (fun o hop => ?_) (next _ (hs.setArr hi (by rw [hcl]; exact hl) rfl) hcl)
      unfold execOp; rw [hop]
      simp only [resolve, Sem.run_bind, Sem.run_pure, Result.andThen_ok, invoke, builtin, List.map_toArray, List.map_cons, List.map_nil, hx, hy]
      rw [hrun o.type, htl, ← hnum, hcells, hz, Nat.mul_one]
      have : min dl y'.length = Nat.min y'.length dl := by show min dl y'.length = min y'.length dl; omega
      rw [this]
      rfl
end
end Go.Proofs.YtibipfdpembkgaaGreatDoor
