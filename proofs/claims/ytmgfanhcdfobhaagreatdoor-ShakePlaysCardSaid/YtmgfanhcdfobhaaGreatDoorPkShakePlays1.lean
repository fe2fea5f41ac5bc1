import Derived.WalkKit
import Derived.WalkSpells
import Derived.WalkLawsBesides
import Derived.BigQuiet
import Derived.Deep.QuietTactic
import Derived.Deep.RegionWith
import Derived.Deep.RegionHeld3
import Derived.Deep.RegionLaw
import Derived.Deep.LoopGhost
import Derived.Deep.DeepCutAuto
import Derived.Deep.DeepFit
import Derived.StillTailTactics
import Derived.Laws.EntriesVeiled
import Derived.Laws.BytesString
import Derived.Lib.Hide
import Derived.Orders
import Derived.Deep.AppendSrc
import Derived.Laws.BytesArg
import Derived.Laws.CopyRow
import Derived.Lib.SmallJoins
import Derived.Laws.IdiomStrings
import Derived.Shelf.Strings.Builder1
import Derived.Shelf.Strings.Builder2
import Derived.Shelf.Strings.OnBuilder
import Derived.Shelf.Strings.Trim
import Derived.Shelf.Small.Utf8
import Derived.Shelf.Small.Strs
import Derived.Shelf.Strings.BuilderF
import Derived.Shelf.Strconv.Itoa0
import Derived.Shelf.Strconv.Itoa1
import Derived.Shelf.LaysM
import Derived.Shelf.Strconv.Itoa2
import Derived.Shelf.Strconv.Itoa3
import Derived.Shelf.Strconv.Itoa4
import Derived.Shelf.Strings.Search1
import Derived.Shelf.Strings.Runes
import Derived.Shelf.Strings.AsciiSet
import Derived.Shelf.Unicode.DecodeSlow
import Derived.Shelf.Strings.SlTrimAscii
import Derived.WalkSmall
import Derived.Lib.AppendIntMem
import Derived.Lib.ItoaNum
import Derived.Lib.ItoaMem
import GoSem.Op.String
import Derived.Lib.SlTrimSet
import Derived.Laws.OwnMore
import Derived.WideKeyArr
import Derived.MapKept
import Derived.ProofKit
import Derived.OpenShut
import Derived.ShutString
import Derived.ChangeOld
import Derived.Below
import Derived.Deep.Strs
import Derived.DataReads
import Derived.SizedLaws
import Derived.Deep.DeepHandedRow
import Derived.Lib.LaidTab
import Derived.LaidSub
import Derived.SevenTiedAt
import Derived.Test.YtmgfanhcdfobhaaGreatDoorRows
import Derived.Test.YtmgfanhcdfobhaaGreatDoorProg
import Derived.Test.YtmgfanhcdfobhaaGreatDoorCards
import Derived.Test.YtmgfanhcdfobhaaGreatDoorTie
set_option linter.unusedSimpArgs false
set_option linter.unusedVariables false
set_option linter.unusedSectionVars false
set_option maxRecDepth 100000
set_option maxHeartbeats 4000000
namespace Go.Proofs.YtmgfanhcdfobhaaGreatDoor
open Go.RowKit
def Rd (w : World) (A : Option Addr) (n c : Nat) (l : List UInt8) : Prop :=
  l.length = n ∧ n ≤ c ∧ c ≤ maxLen ∧
    (0 < n → ∃ b off, A = some ⟨b, off, none⟩ ∧ b < w.heap.size ∧ ∀ i, i < n → w.cell? ⟨b, off + i, none⟩ = some (.int .u8 ((l.getD i 0).toNat : Int)))
section
variable {w w' : World} {A : Option Addr} {n c : Nat} {l : List UInt8}
theorem Rd.keep (h : Rd w A n c l) (hs : w.heap.size ≤ w'.heap.size) (hk : ∀ b o, b < w.heap.size → w'.cell? ⟨b, o, none⟩ = w.cell? ⟨b, o, none⟩) : Rd w' A n c l := by
  obtain ⟨h1, h2, h3, h4⟩ := h
  refine ⟨h1, h2, h3, fun hn => ?_⟩
  obtain ⟨b, off, hA, hb, hc⟩ := h4 hn
  exact ⟨b, off, hA, by omega, fun i hi => (hk _ _ hb).trans (hc i hi)⟩
theorem Rd.below (h : Rd w A n c l) (hb : Below w.heap.size w w') : Rd w' A n c l :=
  h.keep hb.size fun _ _ hlt => hb.cell hlt
theorem Rd.alloc (h : Rd w A n c l) (o : Obj) : Rd (w.alloc o) A n c l :=
  h.below ((Below.refl _ _).alloc (Nat.le_refl _) o)
theorem Rd.drew (h : Rd w A n c l) : Rd w.drew A n c l := h
theorem Rd.drewN (h : Rd w A n c l) (k : Nat) : Rd (w.drewN k) A n c l := h
theorem Rd.nil (w : World) : Rd w none 0 0 [] := ⟨rfl, Nat.le_refl _, Nat.zero_le _, fun h => absurd h (by omega)⟩
theorem Rd.len (h : Rd w A n c l) : l.length = n := h.1
theorem Rd.le (h : Rd w A n c l) : n ≤ c := h.2.1
end
structure Mod (S : List Nat) (w w' : World) : Prop where
  os : w'.os = w.os
  tape : w'.tape = w.tape
  output : w'.output = w.output
  size : w.heap.size ≤ w'.heap.size
  block : ∀ k, k < w.heap.size → k ∉ S → w'.heap[k]? = w.heap[k]?
section
variable {S S' : List Nat} {a w w' : World}
theorem Mod.refl (S : List Nat) (w : World) : Mod S w w := ⟨rfl, rfl, rfl, Nat.le_refl _, fun _ _ _ => rfl⟩
theorem Mod.trans (h : Mod S a w) (k : Mod S w w') : Mod S a w' :=
  ⟨k.os.trans h.os, k.tape.trans h.tape, k.output.trans h.output, Nat.le_trans h.size k.size, fun i hi hn => (k.block i (Nat.lt_of_lt_of_le hi h.size) hn).trans (h.block i hi hn)⟩
theorem Mod.drew (h : Mod S a w) : Mod S a w.drew := ⟨h.os, h.tape, h.output, h.size, h.block⟩
theorem Mod.drewN (h : Mod S a w) (n : Nat) : Mod S a (w.drewN n) := ⟨h.os, h.tape, h.output, h.size, h.block⟩
theorem Mod.alloc (h : Mod S a w) (o : Obj) : Mod S a (w.alloc o) :=
  ⟨h.os, h.tape, h.output, Nat.le_trans h.size (by simp), fun i hi hn => (Below.heap_alloc w o i (Nat.lt_of_lt_of_le hi h.size)).trans (h.block i hi hn)⟩
theorem Mod.setCell (h : Mod S a w) {p : Addr} (hp : p.block ∈ S ∨ a.heap.size ≤ p.block) (u : Value) : Mod S a (w.setCell p u) :=
  ⟨h.os, h.tape, h.output, by simpa [World.setCell] using h.size, fun i hi hn => (Below.heap_setCell w p u i (by
    rintro rfl
    rcases hp with hp | hp
    · exact hn hp
    · omega)).trans (h.block i hi hn)⟩
theorem Rr (h : Below w.heap.size w w') (S : List Nat) : Mod S w w' := ⟨h.os, h.tape, h.output, h.size, fun i hi _ => h.block i hi⟩
theorem Mod.below {B : Nat} (h : Mod S w w') (hB : B ≤ w.heap.size) (hS : ∀ k ∈ S, B ≤ k) : Below B w w' :=
  ⟨h.os, h.tape, h.output, h.size, fun i hi => h.block i (by omega) (fun hm => by have := hS i hm; omega)⟩
theorem Hl {row : Option Nat} (h : w.grownBy w' row) (hr : ∀ k, row = some k → k ∈ S) : Mod S w w' :=
  ⟨h.os, h.tape, h.output, h.size, fun i hi hn => h.block i hi (fun e => hn (hr i e.symm))⟩
theorem Mod.cell (h : Mod S w w') {b o : Nat} (hb : b < w.heap.size) (hn : b ∉ S) : w'.cell? ⟨b, o, none⟩ = w.cell? ⟨b, o, none⟩ := World.cell?_of_block (h.block b hb hn)
theorem Rd.mod {A : Option Addr} {n c : Nat} {l : List UInt8} (h : Rd w A n c l) (hm : Mod S w w') (hS : ∀ b o, A = some ⟨b, o, none⟩ → b ∉ S) : Rd w' A n c l := by
  obtain ⟨h1, h2, h3, h4⟩ := h
  refine ⟨h1, h2, h3, fun hn => ?_⟩
  obtain ⟨b, off, hA, hb, hc⟩ := h4 hn
  exact ⟨b, off, hA, Nat.lt_of_lt_of_le hb hm.size, fun i hi => (hm.cell hb (hS _ _ hA)).trans (hc i hi)⟩
end
theorem Rd.take {w : World} {A : Option Addr} {n c k : Nat} {l : List UInt8} (h : Rd w A n c l) (hk : k ≤ n) : Rd w A k c (l.take k) := by
  obtain ⟨h1, h2, h3, h4⟩ := h
  refine ⟨by rw [List.length_take, h1]; omega, by omega, h3, fun hn => ?_⟩
  obtain ⟨b, off, rfl, hb, hc⟩ := h4 (by omega)
  refine ⟨b, off, rfl, hb, fun i hi => ?_⟩
  rw [hc i (by omega)]
  simp [List.getD, List.getElem?_take, hi]
end Go.Proofs.YtmgfanhcdfobhaaGreatDoor
namespace Go.Proofs.YtmgfanhcdfobhaaGreatDoor
abbrev Fr := Nat → Value
def upd (ρ : Fr) (d : Nat) (v : Value) : Fr := fun t => match Nat.beq t d with | true => v | false => ρ t
def G4 (ρ : Fr) (d : Option Nat) (v : Value) : Fr := match d with | some d => upd ρ d v | none => ρ
def opv (ρ : Fr) : Operand → Value
  | .tmp t => ρ t
  | .const v => v
  | .global g => .pointer (some ⟨g, 0, none⟩)
  | .func f => .func (.func f) #[] #[]
theorem Kf (ρ : Fr) (d : Nat) (v : Value) : upd ρ d v d = v := by simp [upd]
theorem H0 {ρ : Fr} {d t : Nat} {v : Value} (h : t ≠ d) : upd ρ d v t = ρ t := by
  unfold upd
  have : Nat.beq t d = false := by
    cases hb : Nat.beq t d with
    | false => rfl
    | true => exact absurd (Nat.eq_of_beq_eq_true hb) h
  rw [this]
theorem Kg {ρ : Fr} {d : Nat} {v : Value} (h : ρ d = v) : upd ρ d v = ρ := by
  funext t
  by_cases ht : t = d
  · subst ht; rw [Kf, h]
  · exact H0 ht
structure FA (n : Nat) (ρ : Fr) (a : Act) : Prop where
  defers : a.defers = []
  size : a.tmps.size = n
  get : ∀ t, a.tmps.getD t undef = ρ t
theorem FA.eval {n : Nat} {ρ : Fr} {a : Act} (h : FA n ρ a) : a.eval = opv ρ := by
  funext x
  cases x with
  | tmp t => exact h.get t
  | _ => rfl
theorem FA.put {n : Nat} {ρ : Fr} {a : Act} (h : FA n ρ a) {d : Nat} (hd : d < n) (v : Value) : FA n (upd ρ d v) (a.put (some d) v) := by
  refine ⟨h.defers, by simpa [Act.put] using h.size, fun t => ?_⟩
  have hs := h.size
  by_cases ht : t = d
  · subst ht
    rw [Kf]
    simp [Act.put, hs, hd]
  · rw [H0 ht, ← h.get t]
    simp [Act.put, Array.getElem?_setIfInBounds_ne (fun e => ht e.symm)]
def Ji (n : Nat) (d : Option Nat) : Bool := match d with | some d => Nat.blt d n | none => true
theorem FA.putO {n : Nat} {ρ : Fr} {a : Act} (h : FA n ρ a) {d : Option Nat} (hd : Ji n d = true) (v : Value) : FA n (G4 ρ d v) (a.put d v) := by
  cases d with
  | none => exact h
  | some d => exact h.put (by simp only [Ji] at hd; exact Nat.le_of_ble_eq_true hd) v
abbrev H1 := Exit → Fr → World → Prop
def L0 (n : Nat) (Q : H1) : Exit → Act → World → Prop := fun e a w => ∃ ρ, FA n ρ a ∧ Q e ρ w
def W (P : Program) (n : Nat) (c : Code) (Q : H1) (ρ : Fr) (w : World) : Prop := ∀ a, FA n ρ a → c.wp P (L0 n Q) a w
def Kh (K : Fr → World → Prop) (Q : H1) : H1
  | .normal, ρ, w => K ρ w
  | e, ρ, w => Q e ρ w
def K1 (id : Nat) (Q : H1) : H1
  | .exit k, ρ, w => match Nat.beq k id with | true => Q .normal ρ w | false => Q (.exit k) ρ w
  | e, ρ, w => Q e ρ w
section
variable {P : Program} {n : Nat} {Q : H1} {ρ : Fr} {w : World}
theorem W.mono {c : Code} {Q' : H1} (h : W P n c Q' ρ w) (hq : ∀ e ρ w, Q' e ρ w → Q e ρ w) : W P n c Q ρ w :=
  fun a ha => Code.wp_mono (fun e a' w' ⟨ρ', h1, h2⟩ => ⟨ρ', h1, hq _ _ _ h2⟩) (h a ha)
theorem W.seq {x y : Code} (h : W P n x (Kh (W P n y Q) Q) ρ w) : W P n (.seq x y) Q ρ w := by
  intro a ha
  refine wp_seq (Code.wp_mono ?_ (h a ha))
  rintro e a' w' ⟨ρ', ha', hq⟩
  cases e with
  | normal => exact hq a' ha'
  | _ => exact ⟨ρ', ha', hq⟩
theorem W.skip (h : Q .normal ρ w) : W P n .skip Q ρ w := fun _ ha => wp_skip ⟨ρ, ha, h⟩
theorem W.ret (h : Q .ret ρ w) : W P n .ret Q ρ w := fun _ ha => wp_ret ⟨ρ, ha, h⟩
theorem W.exit {id : Nat} (h : Q (.exit id) ρ w) : W P n (.exit id) Q ρ w := fun _ ha => wp_exit ⟨ρ, ha, h⟩
theorem W.block {id : Nat} {c : Code} (h : W P n c (K1 id Q) ρ w) : W P n (.block id c) Q ρ w := by
  intro a ha
  refine wp_block (Code.wp_mono ?_ (h a ha))
  rintro e a' w' ⟨ρ', ha', hq⟩
  cases e with
  | exit k =>
    by_cases hk : k = id
    · subst hk
      simp only [Exit.inBlock, if_true]
      simp only [K1, Nat.beq_refl] at hq
      exact ⟨ρ', ha', hq⟩
    · simp only [Exit.inBlock, if_neg hk]
      have : Nat.beq k id = false := by
        cases hb : Nat.beq k id with
        | false => rfl
        | true => exact absurd (Nat.eq_of_beq_eq_true hb) hk
      simp only [K1, this] at hq
      exact ⟨ρ', ha', hq⟩
  | _ => exact ⟨ρ', ha', hq⟩
theorem W.cond {c : Operand} {x y : Code} {b : Bool} (hc : opv ρ c = .bool b) (h1 : b = true → W P n x Q ρ w) (h2 : b = false → W P n y Q ρ w) : W P n (.cond c x y) Q ρ w := by
  intro a ha
  exact wp_cond_split (by rw [ha.eval]; exact hc) (fun h => h1 h a ha) (fun h => h2 h a ha)
theorem W.join {c : Code} (Mid : Fr → World → Prop) (h : W P n c (Kh Mid Q) ρ w) (hm : ∀ ρ w, Mid ρ w → Q .normal ρ w) : W P n c Q ρ w :=
  h.mono fun e ρ w hq => by cases e <;> first | exact hm _ _ hq | exact hq
theorem K2 {c : Code} {Q : Exit → Act → World → Prop} (I : Nat → Act → World → Prop)
    (round : ∀ f a w, I f a w → c.wp P (Exit.then (fun a' w' => ∃ f', f' < f ∧ I f' a' w') Q) a w) : ∀ (f : Nat) (a : Act) (w : World), I f a w → (Code.loop c).wp P Q a w := by
  intro f a w h₀ b k cs
  have key : ∀ f a w, I f a w → ∃ e a' w', Q e a' w' ∧ Arrives P (lone (b.at a (.code c :: .inLoop c :: k)) cs w) b k cs e a' w' := by
    intro f
    induction f using Nat.strongRecOn with
    | _ f ih =>
      intro a w hI
      obtain ⟨e, a₁, w₁, hq, harr⟩ := round f a w hI b (.inLoop c :: k) cs
      cases e with
      | normal =>
        obtain ⟨f', hlt, hI₁⟩ := hq
        obtain ⟨e₂, a₂, w₂, hq₂, harr₂⟩ := ih f' hlt a₁ w₁ hI₁
        exact ⟨e₂, a₂, w₂, hq₂, .of_steps (Steps.trans harr (.one step_inLoop)) harr₂⟩
      | exit id => exact ⟨_, a₁, w₁, hq, .pass (x := .inLoop c) rfl (fun _ _ => .inl (by simp)) harr⟩
      | goto l => exact ⟨_, a₁, w₁, hq, .pass (x := .inLoop c) rfl (fun _ _ => .inl (by simp)) harr⟩
      | ret => exact ⟨_, a₁, w₁, hq, .pass (x := .inLoop c) rfl (fun _ _ => .inl (by simp)) harr⟩
      | panic ch => exact ⟨_, a₁, w₁, hq, .pass (x := .inLoop c) rfl (fun _ _ => .inl (by simp)) harr⟩
      | outgrown => exact ⟨_, a₁, w₁, hq, .pass (x := .inLoop c) rfl (fun _ _ => .inl (by simp)) harr⟩
  obtain ⟨e, a', w', hq, harr⟩ := key f a w h₀
  exact ⟨e, a', w', hq, .of_steps (.one step_loop) harr⟩
theorem W.loop {c : Code} (I : Nat → Fr → World → Prop) (h0 : ∀ ρ w, ¬ I 0 ρ w) (hr : ∀ f ρ w, I (f + 1) ρ w → W P n c (Kh (I f) Q) ρ w) (f : Nat) (h : I f ρ w) : W P n (.loop c) Q ρ w := by
  intro a ha
  refine K2 (fun f a w => ∃ ρ, FA n ρ a ∧ I f ρ w) ?_ f a w ⟨ρ, ha, h⟩
  rintro f a w ⟨ρ, ha, hI⟩
  cases f with
  | zero => exact absurd hI (h0 _ _)
  | succ f =>
    refine Code.wp_mono ?_ (hr f ρ w hI a ha)
    rintro e a' w' ⟨ρ', ha', hq⟩
    cases e with
    | normal => exact ⟨f, Nat.lt_succ_self f, ρ', ha', hq⟩
    | _ => exact ⟨ρ', ha', hq⟩
end
def Qm : Code → List Bool → Code
  | c, [] => c
  | .seq a _, false :: p => Qm a p
  | .seq _ b, true :: p => Qm b p
  | .cond _ a _, false :: p => Qm a p
  | .cond _ _ b, true :: p => Qm b p
  | .block _ c, _ :: p => Qm c p
  | .loop c, _ :: p => Qm c p
  | .scope c, _ :: p => Qm c p
  | _, _ :: _ => .skip
theorem L1 (q : List Bool) : Qm .skip q = .skip := by
  cases q with
  | nil => rfl
  | cons b q => cases b <;> rfl
theorem Nt : ∀ (p : List Bool) (c : Code) (q : List Bool), Qm c (p ++ q) = Qm (Qm c p) q
  | [], c, q => by cases c <;> rfl
  | b :: p, c, q => by
    cases c <;> cases b <;> first
      | exact Nt p _ q
      | (simp only [List.cons_append, Qm]; exact (L1 q).symm)
def R6 : Code → Nat × Nat × Operand
  | .seq _ _ => (1, 0, .const undef)
  | .cond c _ _ => (2, 0, c)
  | .block id _ => (3, id, .const undef)
  | .loop _ => (4, 0, .const undef)
  | .region id _ d => (5, id, .const (.bool d))
  | .exit id => (6, id, .const undef)
  | .ret => (7, 0, .const undef)
  | .skip => (8, 0, .const undef)
  | .scope _ => (9, 0, .const undef)
  | _ => (0, 0, .const undef)
def G7 (k : Nat) (c : Code) : Bool := Nat.beq (R6 c).1 k
def L2 (c : Code) : Nat := (R6 c).2.1
def M8 (c : Code) : Operand := (R6 c).2.2
def Q5 : Code → Array Oper
  | .region _ ops _ => ops
  | _ => #[]
def Fh : Code → Bool
  | .region _ _ d => d
  | _ => true
section
variable {P : Program} {n : Nat} {Q : H1} {ρ : Fr} {w : World} {B : Code} {p : List Bool}
theorem seq_of {c : Code} (h : G7 1 c = true) : c = .seq (Qm c [false]) (Qm c [true]) := by
  cases c <;> first | exact absurd h (by decide) | (simp [G7, R6] at h; done) | skip
  rename_i a b
  show Code.seq a b = Code.seq (Qm a []) (Qm b [])
  cases a <;> cases b <;> rfl
theorem Eo (c : Code) : Qm c [] = c := by cases c <;> rfl
theorem cond_of {c : Code} (h : G7 2 c = true) : c = .cond (M8 c) (Qm c [false]) (Qm c [true]) := by
  cases c <;> first | (simp [G7, R6] at h; done) | skip
  simp [M8, R6, Qm, Eo]
theorem block_of {c : Code} (h : G7 3 c = true) : c = .block (L2 c) (Qm c [false]) := by
  cases c <;> first | (simp [G7, R6] at h; done) | skip
  simp [L2, R6, Qm, Eo]
theorem loop_of {c : Code} (h : G7 4 c = true) : c = .loop (Qm c [false]) := by
  cases c <;> first | (simp [G7, R6] at h; done) | skip
  simp [Qm, Eo]
theorem K3 {c : Code} (h : G7 5 c = true) : c = .region (L2 c) (Q5 c) (Fh c) := by
  cases c <;> first | (simp [G7, R6] at h; done) | skip
  rfl
theorem exit_of {c : Code} (h : G7 6 c = true) : c = .exit (L2 c) := by
  cases c <;> first | (simp [G7, R6] at h; done) | skip
  rfl
theorem ret_of {c : Code} (h : G7 7 c = true) : c = .ret := by
  cases c <;> first | (simp [G7, R6] at h; done) | skip
  rfl
theorem skip_of {c : Code} (h : G7 8 c = true) : c = .skip := by
  cases c <;> first | (simp [G7, R6] at h; done) | skip
  rfl
def At (P : Program) (n : Nat) (B : Code) (p : List Bool) (Q : H1) (ρ : Fr) (w : World) : Prop := W P n (Qm B p) Q ρ w
theorem At.seq (h : G7 1 (Qm B p) = true) {p0 p1 : List Bool} (e0 : p0 = p ++ [false]) (e1 : p1 = p ++ [true]) (k : At P n B p0 (Kh (At P n B p1 Q) Q) ρ w) : At P n B p Q ρ w := by
  subst e0 e1
  unfold At
  rw [seq_of h]
  refine W.seq ?_
  rw [← Nt, ← Nt]
  exact k
theorem At.cond (h : G7 2 (Qm B p) = true) {o : Operand} (ho : M8 (Qm B p) = o) {b : Bool} (hb : opv ρ o = .bool b) {p0 p1 : List Bool} (e0 : p0 = p ++ [false]) (e1 : p1 = p ++ [true])
    (k0 : b = true → At P n B p0 Q ρ w) (k1 : b = false → At P n B p1 Q ρ w) : At P n B p Q ρ w := by
  subst e0 e1
  unfold At at *
  rw [cond_of h, ho]
  refine W.cond hb ?_ ?_
  · rw [← Nt]; exact k0
  · rw [← Nt]; exact k1
theorem At.block (h : G7 3 (Qm B p) = true) {id : Nat} (hid : L2 (Qm B p) = id) {p0 : List Bool} (e0 : p0 = p ++ [false]) (k : At P n B p0 (K1 id Q) ρ w) : At P n B p Q ρ w := by
  subst e0
  unfold At at *
  rw [block_of h, hid]
  refine W.block ?_
  rw [← Nt]
  exact k
theorem At.loop (h : G7 4 (Qm B p) = true) {p0 : List Bool} (e0 : p0 = p ++ [false]) (I : Nat → Fr → World → Prop) (h0 : ∀ ρ w, ¬ I 0 ρ w)
    (hr : ∀ f ρ w, I (f + 1) ρ w → At P n B p0 (Kh (I f) Q) ρ w) (f : Nat) (k : I f ρ w) : At P n B p Q ρ w := by
  subst e0
  unfold At at *
  rw [loop_of h]
  refine W.loop I h0 ?_ f k
  rw [← Nt]
  exact hr
theorem At.exit (h : G7 6 (Qm B p) = true) {id : Nat} (hid : L2 (Qm B p) = id) (k : Q (.exit id) ρ w) : At P n B p Q ρ w := by
  unfold At
  rw [exit_of h, hid]
  exact W.exit k
theorem At.ret (h : G7 7 (Qm B p) = true) (k : Q .ret ρ w) : At P n B p Q ρ w := by
  unfold At
  rw [ret_of h]
  exact W.ret k
theorem At.skip (h : G7 8 (Qm B p) = true) (k : Q .normal ρ w) : At P n B p Q ρ w := by
  unfold At
  rw [skip_of h]
  exact W.skip k
theorem At.join (Mid : Fr → World → Prop) (h : At P n B p (Kh Mid Q) ρ w) (hm : ∀ ρ w, Mid ρ w → Q .normal ρ w) : At P n B p Q ρ w := W.join Mid h hm
theorem At.frame {ρ' : Fr} (h : ρ = ρ') (k : At P n B p Q ρ' w) : At P n B p Q ρ w := by subst h; exact k
def D2 (ops : Array Oper) (ρ : Fr) (o : Oper) : Bool :=
  match o.guard with
  | none => true
  | some (j, want) => match (ops[j]?).bind (·.dst) with
    | none => false
    | some d => match ρ d with
      | .bool b => match b, want with | true, true => true | false, false => true | _, _ => false
      | _ => false
theorem Br {ops : Array Oper} {ρ : Fr} {a : Act} {n : Nat} (ha : FA n ρ a) (o : Oper) : Region.wanted o (yielded ops a.tmps) = D2 ops ρ o := by
  unfold Region.wanted D2
  cases hg : o.guard with
  | none => rfl
  | some gw =>
    obtain ⟨j, want⟩ := gw
    simp only [yielded]
    cases hd : (ops[j]?).bind (·.dst) with
    | none => cases want <;> rfl
    | some d =>
      have hget := ha.get d
      simp only [Option.bind_some]
      cases hx : a.tmps[d]? with
      | none =>
        have : ρ d = undef := by rw [← hget]; simp [Array.getD_eq_getD_getElem?, hx]
        rw [this]
        cases want <;> rfl
      | some v =>
        have : ρ d = v := by rw [← hget]; simp [Array.getD_eq_getD_getElem?, hx]
        rw [this]
        cases v <;> cases want <;> first | rfl | (rename_i b; cases b <;> rfl)
def R7 (P : Program) (n : Nat) (ops : Array Oper) : List Oper → Fr → World → Option (Fr × World)
  | [], ρ, w => some (ρ, w)
  | o :: l, ρ, w =>
    match Ji n o.dst with
    | false => none
    | true =>
      match D2 ops ρ o with
      | false => R7 P n ops l (G4 ρ o.dst undef) w
      | true =>
        match (execOp (opv ρ) o).run P w with
        | .ok (.value v) w' => R7 P n ops l (G4 ρ o.dst v) w'
        | .ok .skip w' => R7 P n ops l (G4 ρ o.dst undef) w'
        | _ => none
def In (P : Program) (n : Nat) (B : Code) (p : List Bool) (k : Nat) (Q : H1) (ρ : Fr) (w : World) : Prop :=
  ∀ a, FA n ρ a → wpList P (Q5 (Qm B p)) (L0 n Q) ((Q5 (Qm B p)).toList.drop k) a w
theorem At.region (h : G7 5 (Qm B p) = true) (hd : Fh (Qm B p) = false) (k : In P n B p 0 Q ρ w) : At P n B p Q ρ w := by
  intro a ha
  have := K3 h
  rw [this, hd]
  exact wp_region_list (k a ha)
theorem In.fin {k : Nat} (hk : (Q5 (Qm B p)).size = k) (h : Q .normal ρ w) : In P n B p k Q ρ w := by
  intro a ha
  rw [List.drop_of_length_le (by rw [Array.length_toList]; omega)]
  exact ⟨ρ, ha, h⟩
theorem De {ops : Array Oper} {rest : List Oper} : ∀ (l : List Oper) (ρ : Fr) (w : World) (ρ' : Fr) (w' : World), R7 P n ops l ρ w = some (ρ', w') →
    (∀ a, FA n ρ' a → wpList P ops (L0 n Q) rest a w') → ∀ a, FA n ρ a → wpList P ops (L0 n Q) (l ++ rest) a w
  | [], ρ, w, ρ', w', h, hk, a, ha => by
    simp only [R7, Option.some.injEq, Prod.mk.injEq] at h
    obtain ⟨rfl, rfl⟩ := h
    exact hk a ha
  | o :: l, ρ, w, ρ', w', h, hk, a, ha => by
    simp only [R7] at h
    cases hdst : Ji n o.dst with
    | false => rw [hdst] at h; cases h
    | true =>
      rw [hdst] at h
      simp only at h
      show wpList P ops (L0 n Q) (o :: (l ++ rest)) a w
      unfold wpList
      rw [Br ha o]
      cases hw : D2 ops ρ o with
      | false =>
        rw [hw] at h
        simp only [Bool.false_eq_true, if_false]
        exact De l _ _ _ _ h hk _ (ha.putO hdst _)
      | true =>
        rw [hw] at h
        simp only at h
        simp only [if_true]
        refine .inl ?_
        unfold Oper.wp
        rw [ha.eval]
        cases hr : (execOp (opv ρ) o).run P w with
        | halt x w1 => rw [hr] at h; cases h
        | ok nx w1 =>
          rw [hr] at h
          cases nx <;> first | (cases h; done) | skip
          · exact De l _ _ _ _ h hk _ (ha.putO hdst _)
          · exact De l _ _ _ _ h hk _ (ha.putO hdst _)
theorem In.run {k k' : Nat} (m : Nat) (hk : k' = k + m) (ρ' : Fr) (h : R7 P n (Q5 (Qm B p)) (((Q5 (Qm B p)).toList.drop k).take m) ρ w = some (ρ', w))
    (next : In P n B p k' Q ρ' w) : In P n B p k Q ρ w := by
  subst hk
  intro a ha
  have hl : (Q5 (Qm B p)).toList.drop k = ((Q5 (Qm B p)).toList.drop k).take m ++ (Q5 (Qm B p)).toList.drop (k + m) := by
    rw [← List.drop_drop, List.take_append_drop]
  rw [hl]
  exact De _ _ _ _ _ h next a ha
def D3 (c : Code) (k : Nat) (ρ : Fr) : Option (Op × Option Nat) :=
  match (Q5 c)[k]? with
  | some o => match D2 (Q5 c) ρ o with
    | true => some (o.op, o.dst)
    | false => none
  | none => none
theorem Eb {c : Code} {k : Nat} {ρ : Fr} {op : Op} {d : Option Nat} (h : D3 c k ρ = some (op, d)) : ∃ o, (Q5 c)[k]? = some o ∧ o.op = op ∧ o.dst = d ∧ D2 (Q5 c) ρ o = true := by
  unfold D3 at h
  cases ho : (Q5 c)[k]? with
  | none => rw [ho] at h; cases h
  | some o =>
    rw [ho] at h
    simp only at h
    split at h
    · rename_i hg
      simp only [Option.some.injEq, Prod.mk.injEq] at h
      exact ⟨o, rfl, h.1, h.2, hg⟩
    · cases h
theorem K4 {ops : Array Oper} {k : Nat} {o : Oper} (h : ops[k]? = some o) : ops.toList.drop k = o :: ops.toList.drop (k + 1) := by
  obtain ⟨hk, hv⟩ := Array.getElem?_eq_some_iff.1 h
  rw [List.drop_eq_getElem_cons (by simpa using hk)]
  simp [hv]
def Qi (P : Program) (n : Nat) (B : Code) (p : List Bool) (k : Nat) (K : Fr → World → Prop) (ρ : Fr) (w : World) : Prop :=
  ∀ a, FA n ρ a → ∀ Q' : Exit → Act → World → Prop, wpOp P (Q5 (Qm B p)) Q' k (fun a' w' => ∃ ρ', FA n ρ' a' ∧ K ρ' w') a w
theorem In.step {k k' : Nat} (hk : k' = k + 1) (hs : Nat.blt k (Q5 (Qm B p)).size = true) (h : Qi P n B p k (In P n B p k' Q) ρ w) : In P n B p k Q ρ w := by
  subst hk
  intro a ha
  have hlt : k < (Q5 (Qm B p)).size := Nat.le_of_ble_eq_true hs
  have ho : (Q5 (Qm B p))[k]? = some (Q5 (Qm B p))[k] := Array.getElem?_eq_getElem hlt
  have h1 := wpOp_mono (K' := fun a' w' => wpList P (Q5 (Qm B p)) (L0 n Q) ((Q5 (Qm B p)).toList.drop (k + 1)) a' w') (fun a' w' ⟨ρ', ha', hn⟩ => hn a' ha') (h a ha (L0 n Q))
  rw [K4 ho]
  unfold wpOp at h1
  rw [ho] at h1
  exact h1
section
variable {K : Fr → World → Prop}
theorem Qi.val {k : Nat} {op : Op} {d : Option Nat} (ho : D3 (Qm B p) k ρ = some (op, d)) (hd : Ji n d = true) {v : Value} {w' : World}
    (hrun : ∀ o : Oper, o.op = op → (execOp (opv ρ) o).run P w = .ok (.value v) w') (next : K (G4 ρ d v) w') : Qi P n B p k K ρ w := by
  intro a ha Q'
  obtain ⟨o, h1, h2, h3, h4⟩ := Eb ho
  unfold wpOp
  rw [h1]
  simp only [Br ha o, h4, if_true]
  refine .inl ?_
  unfold Oper.wp
  rw [ha.eval, hrun o h2]
  refine ⟨_, ?_, next⟩
  rw [h3]
  exact ha.putO hd v
theorem Fi {k : Nat} {op : Op} {d : Option Nat} (ho : D3 (Qm B p) k ρ = some (op, d)) (hd : Ji n d = true) {w' : World}
    (hrun : ∀ o : Oper, o.op = op → (execOp (opv ρ) o).run P w = .ok .skip w') (next : K (G4 ρ d undef) w') : Qi P n B p k K ρ w := by
  intro a ha Q'
  obtain ⟨o, h1, h2, h3, h4⟩ := Eb ho
  unfold wpOp
  rw [h1]
  simp only [Br ha o, h4, if_true]
  refine .inl ?_
  unfold Oper.wp
  rw [ha.eval, hrun o h2]
  refine ⟨_, ?_, next⟩
  rw [h3]
  exact ha.putO hd undef
theorem Qi.call {k : Nat} {op : Op} {d : Option Nat} (ho : D3 (Qm B p) k ρ = some (op, d)) (hd : Ji n d = true) {f : FuncId} {args : Array Value}
    (hrun : ∀ o : Oper, o.op = op → (execOp (opv ρ) o).run P w = .ok (.enter f args) w) {R : Ending → World → Prop} (hc : Calls P f args w R)
    (next : ∀ e w', R e w' → ∃ v, e = .returned v ∧ K (G4 ρ d v) w') : Qi P n B p k K ρ w := by
  intro a ha Q'
  obtain ⟨o, h1, h2, h3, h4⟩ := Eb ho
  unfold wpOp
  rw [h1]
  simp only [Br ha o, h4, if_true]
  refine .inl ?_
  unfold Oper.wp
  rw [ha.eval, hrun o h2, Oper.upon_enter]
  refine hc.mono fun e w' hR => ?_
  obtain ⟨v, rfl, hn⟩ := next e w' hR
  refine ⟨_, ?_, hn⟩
  rw [h3]
  exact ha.putO hd v
theorem M9 {k : Nat} {d : Option Nat} (ho : (Q5 (Qm B p))[k]?.map (fun o => (D2 (Q5 (Qm B p)) ρ o, o.dst)) = some (false, d)) (hd : Ji n d = true) (next : K (G4 ρ d undef) w) : Qi P n B p k K ρ w := by
  intro a ha Q'
  cases hk : (Q5 (Qm B p))[k]? with
  | none => rw [hk] at ho; cases ho
  | some o =>
    rw [hk] at ho
    simp only [Option.map_some, Option.some.injEq, Prod.mk.injEq] at ho
    unfold wpOp
    rw [hk]
    simp only [Br ha o, ho.1, Bool.false_eq_true, if_false]
    refine ⟨_, ?_, next⟩
    rw [ho.2]
    exact ha.putO hd undef
end
end
def K5 (f : Func) : Code := f.body.getD .skip
def Dv (fn : Func) (ρ : Fr) : Sem Value := do
  let vs ← fn.results.mapM fun
    | .tmp t => pure (ρ t)
    | .cell a t => do loadVar t (← asAddr (ρ a))
  pure (if h : vs.size = 1 then vs[0] else .tuple vs)
theorem H2 {fn : Func} {ρ : Fr} {a : Act} {n : Nat} (ha : FA n ρ a) : results fn a.tmps = Dv fn ρ := by
  unfold results Dv
  congr 1
  congr 1
  funext x
  cases x with
  | tmp t => simp only [ha.get t]
  | cell b t => simp only [ha.get b]
def retF (P : Program) (fn : Func) (R : Ending → World → Prop) : H1
  | .normal, ρ, w | .ret, ρ, w => ∃ v, (Dv fn ρ).run P w = .ok v w ∧ R (.returned v) w
  | _, _, _ => False
theorem K6 {P : Program} {f : FuncId} {fn : Func} {args : Array Value} {w : World} {R : Ending → World → Prop} {n : Nat} {ρ : Fr}
    (hf : P.funcs[f]? = some fn) (hb : fn.body.isSome = true) (hn : fn.ntmps = n) (hle : args.size ≤ n) (hρ : ∀ t, (args ++ Array.replicate (n - args.size) undef).getD t undef = ρ t)
    (h : At P n (K5 fn) [] (retF P fn R) ρ w) : Calls P f args w R := by
  obtain ⟨c, hc⟩ := Option.isSome_iff_exists.1 hb
  refine calls_of_wp hf hc ?_
  have hbody : Qm (K5 fn) [] = c := by rw [Eo]; simp [K5, hc]
  unfold At at h
  rw [hbody] at h
  have ha : FA n ρ { tmps := args ++ Array.replicate (fn.ntmps - args.size) undef, defers := [] } := by
    rw [hn]
    exact ⟨rfl, by simp; omega, hρ⟩
  refine Code.wp_mono ?_ (h _ ha)
  rintro e a' w' ⟨ρ', ha', hq⟩
  cases e with
  | normal =>
    obtain ⟨v, h1, h2⟩ := hq
    exact ⟨ha'.defers, v, by rw [H2 ha']; exact h1, h2⟩
  | ret =>
    obtain ⟨v, h1, h2⟩ := hq
    exact ⟨ha'.defers, v, by rw [H2 ha']; exact h1, h2⟩
  | _ => exact hq.elim
def H3 : List Value → Nat → Fr
  | [], _ => fun _ => undef
  | v :: l, i => upd (H3 l (i + 1)) i v
theorem I2 : ∀ (l : List Value) (i t : Nat), H3 l i t = if i ≤ t then l.getD (t - i) undef else undef
  | [], i, t => by simp [H3]
  | v :: l, i, t => by
    unfold H3
    by_cases ht : t = i
    · subst ht; rw [Kf]; simp
    · rw [H0 ht, I2 l (i + 1) t]
      by_cases hlt : i ≤ t
      · rw [if_pos (by omega), if_pos hlt, show t - i = (t - (i + 1)) + 1 by omega]
        rfl
      · rw [if_neg (by omega), if_neg hlt]
theorem L3 (l : List Value) (n : Nat) (h : l.length ≤ n) (t : Nat) : (l.toArray ++ Array.replicate (n - l.toArray.size) undef).getD t undef = H3 l 0 t := by
  rw [I2, if_pos (Nat.zero_le _), Nat.sub_zero]
  simp only [Array.getD_eq_getD_getElem?, List.getD]
  by_cases ht : t < l.length
  · rw [Array.getElem?_append_left (by simpa using ht)]
    simp
  · rw [Array.getElem?_append_right (by simpa using ht), List.getElem?_eq_none (by omega)]
    simp only [Array.getElem?_replicate]
    split <;> rfl
theorem L4 {P : Program} {f : FuncId} {fn : Func} {l : List Value} {w : World} {R : Ending → World → Prop} {n : Nat}
    (hf : P.funcs[f]? = some fn) (hb : fn.body.isSome = true) (hn : fn.ntmps = n) (hle : Nat.ble l.length n = true)
    (h : At P n (K5 fn) [] (retF P fn R) (H3 l 0) w) : Calls P f l.toArray w R :=
  K6 hf hb hn (by simpa using Nat.le_of_ble_eq_true hle) (L3 l n (Nat.le_of_ble_eq_true hle)) h
theorem K {p : Prop} (h : p := by kernel_rfl) : p := h
abbrev pt (b o : Nat) : Value := .pointer (some ⟨b, o, none⟩)
section
variable {P : Program} {n : Nat} {B : Code} {q : List Bool} {Q : H1} {ρ : Fr} {w : World}
theorem At.sq (h : G7 1 (Qm B q.reverse) = true) (k : At P n B (false :: q).reverse (Kh (At P n B (true :: q).reverse Q) Q) ρ w) : At P n B q.reverse Q ρ w :=
  At.seq h List.reverse_cons List.reverse_cons k
theorem V1 (h : G7 2 (Qm B q.reverse) = true) {o : Operand} (ho : M8 (Qm B q.reverse) = o) {b : Bool} (hb : opv ρ o = .bool b)
    (k0 : b = true → At P n B (false :: q).reverse Q ρ w) (k1 : b = false → At P n B (true :: q).reverse Q ρ w) : At P n B q.reverse Q ρ w :=
  At.cond h ho hb List.reverse_cons List.reverse_cons k0 k1
theorem Z1 (h : G7 3 (Qm B q.reverse) = true) {id : Nat} (hid : L2 (Qm B q.reverse) = id) (k : At P n B (false :: q).reverse (K1 id Q) ρ w) : At P n B q.reverse Q ρ w :=
  At.block h hid List.reverse_cons k
theorem Nl (h : G7 4 (Qm B q.reverse) = true) (I : Nat → Fr → World → Prop) (h0 : ∀ ρ w, ¬ I 0 ρ w)
    (hr : ∀ f ρ w, I (f + 1) ρ w → At P n B (false :: q).reverse (Kh (I f) Q) ρ w) (f : Nat) (k : I f ρ w) : At P n B q.reverse Q ρ w :=
  At.loop h List.reverse_cons I h0 hr f k
theorem Qs {P : Program} {f : FuncId} {fn : Func} {l : List Value} {w : World} {R : Ending → World → Prop} {n : Nat}
    (hf : P.funcs[f]? = some fn) (hb : fn.body.isSome = true) (hn : fn.ntmps = n) (hle : Nat.ble l.length n = true)
    (h : At P n (K5 fn) (List.reverse []) (retF P fn R) (H3 l 0) w) : Calls P f l.toArray w R := L4 hf hb hn hle h
end
end Go.Proofs.YtmgfanhcdfobhaaGreatDoor
namespace Go.Proofs.YtmgfanhcdfobhaaGreatDoor
open Go.RowKit
section
variable {P : Program} (w : World)
theorem Ix (base : Nat) (t tx ty e : TypeId) (i : TypeInfo) (z : Value) (size bytes : Nat) (ht : P.underlying t = some (.slice e)) (hi : P.info? e = some i) (hz : i.zero = some z)
    (hsize : i.size = size) (hby : i.bytes = bytes) (hzs : z.cells.size = size) (hsz : 0 < size)
    (v : Value) (n : Nat) (xs : List Value) (hown : w.ownsRow base e size v n xs) (x : Value) (m : Nat) (news : List Value) (hs : Src P size tx x m news w)
    (h63 : n + m ≤ maxLen) (hbytes : (n + m) * bytes ≤ 140737488355328) (hbase : base ≤ w.heap.size) :
    ∃ v' w', (Builtin.append_ #[t, tx] ty #[v, x]).run P w = .ok v' w' ∧ w'.ownsRow base e size v' (n + m) (xs ++ news) ∧ w.grownBy w' v.ownBlock ∧
      (v'.ownBlock = v.ownBlock ∨ v'.ownBlock = some w.heap.size) := by
  subst hsize
  subst hby
  have hl := hs.newsLen
  have hsmall : n + m ≤ 9223372036854775807 := by simp only [maxLen] at h63; omega
  have hlen : (xs ++ news).length = (n + m) * i.size := by rw [List.length_append, hown.1, hl, Nat.add_mul]
  have grown : ∀ (old : Nat), old < n + m → ∀ (row : Option Nat),
      (w.drew.alloc (.cells ((xs ++ news).toArray ++ Builtin.zeroCells z.cells (grownCap w (n + m) old e - (n + m))) e)).ownsRow base e i.size
        (.slice (some ⟨w.heap.size, 0, none⟩) (n + m) (grownCap w (n + m) old e)) (n + m) (xs ++ news) ∧
      w.grownBy (w.drew.alloc (.cells ((xs ++ news).toArray ++ Builtin.zeroCells z.cells (grownCap w (n + m) old e - (n + m))) e)) row := by
    intro old ho row
    have hge := grownCap_ge w (n + m) old e
    have hcm : grownCap w (n + m) old e ≤ maxLen := grownCap_le_maxLen w (n + m) old e h63
    refine ⟨⟨hlen, .inr ⟨w.heap.size, _, _, rfl, hbase, heap_alloc_new w.drew _, hge, hcm, ?_, ?_⟩⟩, ⟨rfl, rfl, rfl, by simp, fun k hk _ => Below.heap_alloc w.drew _ k hk⟩⟩
    · rw [Array.size_append, List.size_toArray, size_zeroCells, hzs, hlen, ← Nat.add_mul]
      congr 1
      omega
    · rw [Array.toList_append, ← hlen]
      exact List.take_left
  rcases hown.2 with ⟨rfl, rfl⟩ | ⟨g, cap, cur, rfl, hbg, hg, hnc, hcm, hcs, htake⟩
  · have hx : xs = [] := List.eq_nil_of_length_eq_zero (by simpa using hown.1)
    subst hx
    by_cases hm : m = 0
    · subst hm
      have hn : news = [] := List.eq_nil_of_length_eq_zero (by simpa using hl)
      subst hn
      refine ⟨.slice none 0 0, w, ?_, World.ownsRow_nil w base e i.size, World.grownBy.refl w _, .inl rfl⟩
      have h1 := hs.len w
      have h2 := hs.cells
      rcases hs.kind with ⟨e', hk⟩ | hk <;> simp [Builtin.append_, run_underlying ht, run_underlying hk, sizeOf, typeInfo, hi, h1, h2, storeCells]
    · have hr := run_append_grow_src (P := P) w t tx ty e i z ht hi hz none 0 0 [] (by simpa using run_firstCells_none w.drew i.size 0 0 0) x m news hs (by omega) (by omega)
        (growslice_fits (by omega) (by simpa using hbytes))
      have hgr := grown 0 (by omega) (Value.ownBlock (.slice none 0 0))
      simp only [Nat.zero_add, List.nil_append] at hgr hr ⊢
      exact ⟨_, _, hr, hgr.1, hgr.2, .inr rfl⟩
  · by_cases hroom : n + m ≤ cap
    · have hfit : n * i.size + news.length ≤ cur.size := by rw [hl, hcs, ← Nat.add_mul]; exact Nat.mul_le_mul_right _ hroom
      have hst := run_storeCells_at P g (n * i.size) e news 0 cur w hg (by simpa using hfit) hs.one
      simp only [Nat.add_zero] at hst
      have h2 := hs.len
      have h3 := hs.cells
      have hr : (Builtin.append_ #[t, tx] ty #[.slice (some ⟨g, 0, none⟩) n cap, x]).run P w =
          .ok (.slice (some ⟨g, 0, none⟩) (n + m) cap) (w.setRow g (cur.toList.take (n * i.size) ++ news ++ cur.toList.drop (n * i.size + news.length)).toArray) := by
        rcases hs.kind with ⟨e', hk⟩ | hk <;> simp [Builtin.append_, run_underlying ht, run_underlying hk, sizeOf, typeInfo, hi, h2, hroom, h3, Addr.add_lit, hst]
      refine ⟨_, _, hr, ⟨hlen, .inr ⟨g, cap, _, rfl, hbg, setRow_heap w g cur _ e _ hg, hroom, hcm, ?_, ?_⟩⟩, ⟨rfl, rfl, rfl, by simp, fun k _ hk => setRow_other w g k _ (fun e => hk (by simp [Value.ownBlock, e]))⟩, .inl rfl⟩
      · simp only [List.size_toArray, List.length_append, List.length_take, List.length_drop, Array.length_toList]
        omega
      · rw [htake, ← hlen]
        exact List.take_left
    · have holds : ∀ j u, xs[j]? = some u → w.drew.cell? ((⟨g, 0, none⟩ : Addr).add j) = some u := hown.drew.cells (g := g) rfl
      have hr := run_append_grow_src (P := P) w t tx ty e i z ht hi hz (some ⟨g, 0, none⟩) n cap xs (run_firstCells_some w.drew i.size n ⟨g, 0, none⟩ n cap xs hown.1 holds) x m news hs (by omega) (by omega)
        (growslice_fits (by omega) hbytes)
      have hgr := grown cap (by omega) (Value.ownBlock (.slice (some ⟨g, 0, none⟩) n cap))
      exact ⟨_, _, hr, hgr.1, hgr.2, .inr rfl⟩
theorem H4 {T E S : TypeId} (hT : P.underlying T = some (.slice E)) (hE : P.underlying E = some (.int .u8)) (hS : P.underlying S = some .string) {w : World} {A : Option Addr} {n c : Nat} {l : List UInt8} (h : Rd w A n c l) :
    (convert T S (.slice A n c)).run P w = .ok (.string ⟨l.toArray⟩) w := by
  obtain ⟨h1, h2, h3, h4⟩ := h
  rcases Nat.eq_zero_or_pos n with h0 | h0
  · subst h0
    have : l = [] := List.eq_nil_of_length_eq_zero h1
    subst this
    cases A with
    | none => exact run_convert_bytes_nil w _ _ hT hE 0 c _ hS
    | some a =>
      rw [run_convert_bytes_string w _ _ _ _ _ _ hT hE hS, run_bytesToString w a 0 c [] (by simpa using run_loadCells_list (P := P) w a [] (by simp))]
      rfl
  · obtain ⟨b, off, rfl, hb, hc⟩ := h4 h0
    have := run_convert_bytes_arg (P := P) w T E hT hE b off n c (l.map fun c => (c.toNat : Int)) (by simpa using h1)
      (fun i hi => by
        rw [hc i hi]
        simp [List.getD, List.getElem?_map, List.getElem?_eq_getElem (show i < l.length by omega)]) S hS
    rw [this]
    simp [strOfNums, Function.comp_def]
end
end Go.Proofs.YtmgfanhcdfobhaaGreatDoor
namespace Go.Proofs.YtmgfanhcdfobhaaGreatDoor
open Go.RowKit
structure Ent where
  fp : List Nat
  ok : World → Prop
  loc : ∀ w w' : World, (∀ k ∈ fp, w'.heap[k]? = w.heap[k]?) → ok w → ok w'
def HL (S : List Nat) (B : Nat) (w : World) : List Ent → Prop
  | [] => True
  | e :: es => e.ok w ∧ (∀ k ∈ e.fp, (B ≤ k ∨ k ∈ S) ∧ k < w.heap.size ∧ ∀ e' ∈ es, k ∉ e'.fp) ∧ HL S B w es
section
variable {S : List Nat} {B : Nat} {w w' : World}
theorem HL.get : ∀ {es : List Ent} {i : Nat} {e : Ent}, HL S B w es → es[i]? = some e → e.ok w ∧ ∀ k ∈ e.fp, (B ≤ k ∨ k ∈ S) ∧ k < w.heap.size
  | [], i, e, _, h => by simp at h
  | x :: es, 0, e, h, hi => by
    simp at hi; subst hi
    exact ⟨h.1, fun k hk => ⟨(h.2.1 k hk).1, (h.2.1 k hk).2.1⟩⟩
  | x :: es, i + 1, e, h, hi => HL.get (es := es) h.2.2 (by simpa using hi)
theorem HL.mem : ∀ {es : List Ent} {e : Ent}, HL S B w es → e ∈ es → e.ok w ∧ ∀ k ∈ e.fp, (B ≤ k ∨ k ∈ S) ∧ k < w.heap.size := by
  intro es e h he
  obtain ⟨i, hi⟩ := List.mem_iff_getElem?.1 he
  exact h.get hi
theorem HL.keep : ∀ {es : List Ent}, HL S B w es → w.heap.size ≤ w'.heap.size → (∀ e ∈ es, ∀ k ∈ e.fp, w'.heap[k]? = w.heap[k]?) → HL S B w' es
  | [], _, _, _ => trivial
  | e :: es, h, hs, hk => ⟨e.loc w w' (hk e (by simp)) h.1, fun k hm => ⟨(h.2.1 k hm).1, Nat.lt_of_lt_of_le (h.2.1 k hm).2.1 hs, (h.2.1 k hm).2.2⟩, HL.keep h.2.2 hs fun e' he' => hk e' (List.mem_cons_of_mem _ he')⟩
theorem HL.below {es : List Ent} (h : HL S B w es) (hb : Below w.heap.size w w') : HL S B w' es :=
  h.keep hb.size fun e he k hk => hb.block k (h.mem he |>.2 k hk).2
theorem HL.append : ∀ {es fs : List Ent}, HL S B w es → HL S B w fs → (∀ e ∈ es, ∀ k ∈ e.fp, ∀ f ∈ fs, k ∉ f.fp) → HL S B w (es ++ fs)
  | [], fs, _, h, _ => h
  | e :: es, fs, h, hf, hd => ⟨h.1, fun k hk => ⟨(h.2.1 k hk).1, (h.2.1 k hk).2.1, fun e' he' => by
      rcases List.mem_append.1 he' with h1 | h1
      · exact (h.2.1 k hk).2.2 e' h1
      · exact hd e (by simp) k hk e' h1⟩, HL.append h.2.2 hf fun e' he' => hd e' (List.mem_cons_of_mem _ he')⟩
theorem HL.widen : ∀ {es : List Ent} {S' : List Nat} {B' : Nat}, HL S B w es → (∀ e ∈ es, ∀ k ∈ e.fp, (B ≤ k ∨ k ∈ S) → B' ≤ k ∨ k ∈ S') → HL S' B' w es
  | [], _, _, _, _ => trivial
  | e :: es, S', B', h, hw => ⟨h.1, fun k hk => ⟨hw e (by simp) k hk (h.2.1 k hk).1, (h.2.1 k hk).2⟩, HL.widen h.2.2 fun e' he' => hw e' (List.mem_cons_of_mem _ he')⟩
theorem HL.other : ∀ {es : List Ent} {i : Nat} {e : Ent}, HL S B w es → es[i]? = some e → ∀ e' ∈ es.eraseIdx i, ∀ k ∈ e.fp, k ∉ e'.fp
  | [], i, e, _, h => by simp at h
  | x :: es, 0, e, h, hi => by
    simp at hi; subst hi
    intro e' he' k hk
    exact (h.2.1 k hk).2.2 e' (by simpa using he')
  | x :: es, i + 1, e, h, hi => by
    intro e' he' k hk
    have hi' : es[i]? = some e := by simpa using hi
    simp only [List.eraseIdx_cons_succ, List.mem_cons] at he'
    rcases he' with rfl | he'
    · exact fun hk' => (h.2.1 k hk').2.2 e (List.mem_of_getElem? hi') hk
    · exact HL.other h.2.2 hi' e' he' k hk
theorem HL.set : ∀ {es : List Ent} {i : Nat} {e e' : Ent}, HL S B w es → es[i]? = some e → w.heap.size ≤ w'.heap.size → (∀ f ∈ es.eraseIdx i, ∀ k ∈ f.fp, w'.heap[k]? = w.heap[k]?) → e'.ok w' →
    (∀ k ∈ e'.fp, (k ∈ e.fp ∨ (w.heap.size ≤ k ∧ B ≤ k)) ∧ k < w'.heap.size) → HL S B w' (es.set i e')
  | [], i, e, e', _, h, _, _, _, _ => by simp at h
  | x :: es, 0, e, e', h, hi, hs, hk, hok, hfp => by
    simp at hi; subst hi
    refine ⟨hok, fun k hm => ?_, h.2.2.keep hs (by simpa using hk)⟩
    obtain ⟨h1, h2⟩ := hfp k hm
    rcases h1 with h1 | ⟨h1, h1'⟩
    · exact ⟨(h.2.1 k h1).1, h2, (h.2.1 k h1).2.2⟩
    · exact ⟨.inl h1', h2, fun f hf hkf => by have := (h.2.2.mem hf).2 k hkf; omega⟩
  | x :: es, i + 1, e, e', h, hi, hs, hk, hok, hfp => by
    have hi' : es[i]? = some e := by simpa using hi
    simp only [List.eraseIdx_cons_succ, List.mem_cons, forall_eq_or_imp] at hk
    refine ⟨x.loc w w' hk.1 h.1, fun k hm => ⟨(h.2.1 k hm).1, Nat.lt_of_lt_of_le (h.2.1 k hm).2.1 hs, fun f hf hkf => ?_⟩, HL.set h.2.2 hi' hs hk.2 hok hfp⟩
    rcases List.mem_or_eq_of_mem_set hf with hf | rfl
    · exact (h.2.1 k hm).2.2 f hf hkf
    · rcases (hfp k hkf).1 with h1 | ⟨h1, _⟩
      · exact (h.2.1 k hm).2.2 e (List.mem_of_getElem? hi') h1
      · have := (h.2.1 k hm).2.1; omega
end
structure SP (S : List Nat) (w0 w : World) (es : List Ent) : Prop where
  mod : Mod S w0 w
  own : HL S w0.heap.size w es
section
variable {S T : List Nat} {w0 w w' : World} {es : List Ent}
theorem Q0 (S : List Nat) (w : World) : SP S w w [] := ⟨Mod.refl S w, trivial⟩
theorem SP.get {i : Nat} {e : Ent} (h : SP S w0 w es) (hi : es[i]? = some e) : e.ok w := (h.own.get hi).1
theorem SP.below (h : SP S w0 w es) (hb : Below w.heap.size w w') : SP S w0 w' es := ⟨h.mod.trans (Rr hb S), h.own.below hb⟩
theorem SP.drew (h : SP S w0 w es) : SP S w0 w.drew es := h.below ((Below.refl _ _).drew)
theorem SP.push {e : Ent} (h : SP S w0 w es) (hb : Below w.heap.size w w') (hok : e.ok w') (hfp : ∀ k ∈ e.fp, w.heap.size ≤ k ∧ k < w'.heap.size) : SP S w0 w' (es ++ [e]) := by
  have hs := h.mod.size
  refine ⟨h.mod.trans (Rr hb S), (h.own.below hb).append ⟨hok, fun k hk => ⟨.inl (by have := (hfp k hk).1; omega), (hfp k hk).2, by simp⟩, trivial⟩ ?_⟩
  intro f hf k hk f' hf' hk'
  simp at hf'
  subst hf'
  have h1 := (h.own.mem hf).2 k hk
  have h2 := hfp k hk'
  omega
theorem SP.set {i : Nat} {e e' : Ent} (h : SP S w0 w es) (hi : es[i]? = some e) {T : List Nat} (hm : Mod T w w') (hT : ∀ k ∈ T, k ∈ e.fp) (hok : e'.ok w')
    (hfp : ∀ k ∈ e'.fp, (k ∈ e.fp ∨ w.heap.size ≤ k) ∧ k < w'.heap.size) : SP S w0 w' (es.set i e') := by
  have hs := h.mod.size
  have he := h.own.get hi
  refine ⟨⟨hm.os.trans h.mod.os, hm.tape.trans h.mod.tape, hm.output.trans h.mod.output, Nat.le_trans h.mod.size hm.size, fun k hk hn => ?_⟩, h.own.set hi hm.size ?_ hok ?_⟩
  · refine (hm.block k (Nat.lt_of_lt_of_le hk hs) fun hkT => ?_).trans (h.mod.block k hk hn)
    rcases (he.2 k (hT k hkT)).1 with h1 | h1
    · omega
    · exact hn h1
  · intro f hf k hk
    refine hm.block k (h.own.mem (List.mem_of_mem_eraseIdx hf) |>.2 k hk).2 fun hkT => ?_
    exact h.own.other hi f hf k (hT k hkT) hk
  · intro k hk
    obtain ⟨h1, h2⟩ := hfp k hk
    exact ⟨h1.imp id fun h => ⟨h, by omega⟩, h2⟩
theorem SP.call {es' : List Ent} (h : SP S w0 w es) (hc : SP [] w w' es') : SP S w0 w' (es ++ es') := by
  have hs := h.mod.size
  have hb : Below w.heap.size w w' := hc.mod.below (Nat.le_refl _) (by simp)
  refine ⟨h.mod.trans (Rr hb S), (h.own.below hb).append (hc.own.widen fun e he k hk hor => ?_) ?_⟩
  · rcases hor with h1 | h1
    · exact .inl (by omega)
    · simp at h1
  · intro f hf k hk f' hf' hk'
    have h1 := (h.own.mem hf).2 k hk
    rcases ((hc.own.mem hf').2 k hk').1 with h2 | h2
    · omega
    · simp at h2
theorem SP.keeps (h : SP [] w0 w es) : Below w0.heap.size w0 w := h.mod.below (Nat.le_refl _) (by simp)
end
def Qn (g : Nat) (t : TypeId) (cs : Array Value) : Ent :=
  ⟨[g], fun w => w.heap[g]? = some (.cells cs t (0, 0)), fun w w' h hk => by rw [h g (by simp)]; exact hk⟩
def row (E : TypeId) (sz : Nat) (v : Value) (n : Nat) (xs : List Value) : Ent :=
  ⟨v.ownBlock.toList, fun w => w.ownsRow 0 E sz v n xs, fun w w' h hk => by
    refine ⟨hk.1, ?_⟩
    rcases hk.2 with h1 | ⟨g, cap, cur, rfl, hb, hg, r⟩
    · exact .inl h1
    · exact .inr ⟨g, cap, cur, rfl, hb, by rw [h g (by simp [Value.ownBlock])]; exact hg, r⟩⟩
def RdX (w : World) (A : Option Addr) (n c sz : Nat) (xs : List Value) : Prop :=
  xs.length = n * sz ∧ n ≤ c ∧ c ≤ maxLen ∧ (0 < n → ∃ b off, A = some ⟨b, off, none⟩ ∧ b < w.heap.size ∧ ∀ j u, xs[j]? = some u → w.cell? ⟨b, off + j, none⟩ = some u)
section
variable {S T : List Nat} {w0 w w' : World} {es : List Ent} {A : Option Addr} {n c sz : Nat} {xs : List Value}
theorem RdX.mod (h : RdX w A n c sz xs) (hm : Mod S w w') (hS : ∀ b o, A = some ⟨b, o, none⟩ → b ∉ S) : RdX w' A n c sz xs := by
  obtain ⟨h1, h2, h3, h4⟩ := h
  refine ⟨h1, h2, h3, fun hn => ?_⟩
  obtain ⟨b, off, hA, hb, hc⟩ := h4 hn
  exact ⟨b, off, hA, Nat.lt_of_lt_of_le hb hm.size, fun j u hu => (hm.cell hb (hS _ _ hA)).trans (hc j u hu)⟩
theorem RdX.below (h : RdX w A n c sz xs) (hb : Below w.heap.size w w') : RdX w' A n c sz xs := h.mod (Rr hb []) (by simp)
theorem RdX.sp (h : RdX w0 A n c sz xs) (hs : SP [] w0 w es) : RdX w A n c sz xs := h.below hs.keeps
theorem RdX.nil (w : World) (sz : Nat) : RdX w none 0 0 sz [] := ⟨by simp, Nat.le_refl _, Nat.zero_le _, fun h => absurd h (by omega)⟩
theorem RdX.len (h : RdX w A n c sz xs) : xs.length = n * sz := h.1
theorem RdX.le (h : RdX w A n c sz xs) : n ≤ c := h.2.1
theorem RdX.max (h : RdX w A n c sz xs) : n ≤ maxLen := Nat.le_trans h.2.1 h.2.2.1
theorem row_rdx {E : TypeId} {A : Option Addr} {n c : Nat} (h : (row E sz (.slice A n c) n xs).ok w) : RdX w A n c sz xs := by
  rcases h.2 with ⟨hv, hn⟩ | ⟨g, cap, cur, hv, hb, hh, hnc, hcm, hcs, ht⟩
  · injection hv with hA hn' hc
    subst hA hn' hc
    exact ⟨h.1, Nat.le_refl _, Nat.zero_le _, fun h => absurd h (by omega)⟩
  · injection hv with hA hn' hc
    subst hA hc
    refine ⟨h.1, hnc, hcm, fun _ => ⟨g, 0, rfl, (Array.getElem?_eq_some_iff.1 hh).1, fun j u hu => ?_⟩⟩
    rw [Nat.zero_add]
    obtain ⟨hj, _⟩ := List.getElem?_eq_some_iff.1 hu
    rw [World.ownsRow.cellAt (g := g) (cap := c) h j (by rw [← h.1]; exact hj)]
    exact hu
theorem RdX.part (h : RdX w A n c sz xs) {i j : Nat} (hij : i ≤ j) (hjn : j ≤ n) :
    RdX w (if c = i then A else A.map (·.add (i * sz))) (j - i) (c - i) sz ((xs.take (j * sz)).drop (i * sz)) := by
  obtain ⟨h1, h2, h3, h4⟩ := h
  have hjs : j * sz ≤ n * sz := Nat.mul_le_mul_right _ hjn
  have his : i * sz ≤ j * sz := Nat.mul_le_mul_right _ hij
  refine ⟨by rw [List.length_drop, List.length_take, h1, Nat.sub_mul]; omega, by omega, by omega, fun hn => ?_⟩
  obtain ⟨b, off, rfl, hb, hc⟩ := h4 (by omega)
  rw [if_neg (by omega)]
  refine ⟨b, off + i * sz, ?_, hb, fun k u hu => ?_⟩
  · have hadd : (⟨b, off, none⟩ : Addr).add (i * sz) = ⟨b, off + i * sz, none⟩ := by unfold Addr.add; split <;> simp_all
    simp [hadd]
  · rw [List.getElem?_drop] at hu
    have hlt : i * sz + k < j * sz := by
      have := (List.getElem?_eq_some_iff.1 hu).1
      rw [List.length_take] at this
      omega
    rw [List.getElem?_take, if_pos hlt] at hu
    rw [Nat.add_assoc]
    exact hc _ _ hu
theorem Bm (b off k : Nat) : (⟨b, off, none⟩ : Addr).add k = ⟨b, off + k, none⟩ := by unfold Addr.add; split <;> simp_all
def aggD : TypeDesc → Bool
  | .struct _ | .array _ _ => true
  | _ => false
def Oy (P : Program) (t : TypeId) (off : Nat) (cs : Array Value) : Option Value :=
  match P.underlying t with
  | none => none
  | some d => match aggD d with
    | true => match P.info? t with
      | some i => match Nat.ble (off + i.size) cs.size with
        | true => some (.agg ((cs.toList.drop off).take i.size).toArray)
        | false => none
      | none => none
    | false => cs.toList[off]?
theorem F3 {P : Program} {t : TypeId} {g off : Nat} {cs : Array Value} {v : Value} {e : TypeId} {fr : Nat × Nat} (hl : Oy P t off cs = some v) (hg : w.heap[g]? = some (.cells cs e fr)) :
    (loadVar t ⟨g, off, none⟩).run P w = .ok v w := by
  have hcell : ∀ o, w.cell? ⟨g, o, none⟩ = cs[o]? := fun o => cell_of_row w g o cs e fr hg
  unfold Oy at hl
  cases hu : P.underlying t with
  | none => rw [hu] at hl; cases hl
  | some d =>
    rw [hu] at hl
    simp only at hl
    have hagg : (isAgg t).run P w = .ok (aggD d) w := by
      simp only [isAgg, Sem.run_bind, run_underlying hu, Result.andThen_ok]
      cases d <;> rfl
    cases hd : aggD d with
    | true =>
      rw [hd] at hl hagg
      simp only at hl
      cases hi : P.info? t with
      | none => rw [hi] at hl; cases hl
      | some i =>
        rw [hi] at hl
        simp only at hl
        cases hb : Nat.ble (off + i.size) cs.size with
        | false => rw [hb] at hl; cases hl
        | true =>
          rw [hb] at hl
          simp only [Option.some.injEq] at hl
          have hle := Nat.le_of_ble_eq_true hb
          have hsz : (sizeOf t).run P w = .ok i.size w := by simp [sizeOf, typeInfo, hi]
          have hlen : ((cs.toList.drop off).take i.size).length = i.size := by simp; omega
          have hload := run_loadCells_list (P := P) w ⟨g, off, none⟩ ((cs.toList.drop off).take i.size) (fun j u hu => by
            rw [Bm, hcell]
            rw [List.getElem?_take] at hu
            split at hu
            · rw [List.getElem?_drop] at hu
              simpa using hu
            · cases hu)
          rw [hlen] at hload
          simp only [loadVar, Sem.run_bind, hagg, Result.andThen_ok, if_true, hsz, hload]
          rw [← hl]
          rfl
    | false =>
      rw [hd] at hl hagg
      simp only at hl
      simp only [loadVar, Sem.run_bind, hagg, Result.andThen_ok, Bool.false_eq_true, if_false]
      have : w.cell? ⟨g, off, none⟩ = some v := by rw [hcell]; simpa using hl
      simp [load, Sem.run, this]
def K7 : List Value → Bool
  | [] => true
  | .agg _ :: _ => false
  | .tuple _ :: _ => false
  | _ :: l => K7 l
theorem H5 : ∀ {l : List Value}, K7 l = true → ∀ v ∈ l, v.oneCell' = true
  | [], _, v, hv => by simp at hv
  | x :: l, h, v, hv => by
    rcases List.mem_cons.1 hv with rfl | hv
    · cases v <;> first | rfl | (simp [K7] at h)
    · exact H5 (l := l) (by cases x <;> first | (exact h) | (simp [K7] at h)) v hv
def storeF (P : Program) (t : TypeId) (off : Nat) (cs : Array Value) (v : Value) : Option (Array Value) :=
  match P.info? t with
  | none => none
  | some i => match Nat.beq v.cells.size i.size, Nat.ble (off + v.cells.size) cs.size, K7 v.cells.toList with
    | true, true, true => some (cs.toList.take off ++ v.cells.toList ++ cs.toList.drop (off + v.cells.toList.length)).toArray
    | _, _, _ => none
theorem L5 {P : Program} {t : TypeId} {g off : Nat} {cs cs' : Array Value} {v : Value} {e : TypeId} (hl : storeF P t off cs v = some cs') (hg : w.heap[g]? = some (.cells cs e (0, 0))) :
    (storeVar t ⟨g, off, none⟩ v).run P w = .ok () (w.setRow g cs') := by
  unfold storeF at hl
  cases hi : P.info? t with
  | none => rw [hi] at hl; cases hl
  | some i =>
    rw [hi] at hl
    simp only at hl
    split at hl
    · rename_i h1 h2 h3
      simp only [Option.some.injEq] at hl
      have h1 := Nat.eq_of_beq_eq_true h1
      have h2 := Nat.le_of_ble_eq_true h2
      have hsz : (sizeOf t).run P w = .ok i.size w := by simp [sizeOf, typeInfo, hi]
      have hst := run_storeCells_at P g off e v.cells.toList 0 cs w hg (by simp; omega) (H5 h3)
      simp only [Nat.add_zero] at hst
      simp only [storeVar, Sem.run_bind, hsz, Result.andThen_ok, h1, ne_eq, not_true_eq_false, if_false]
      rw [hst, hl]
    · cases hl
theorem Mod.setRow (w : World) (g : Nat) (cs : Array Value) : Mod [g] w (w.setRow g cs) :=
  ⟨rfl, rfl, rfl, by simp [World.setRow], fun k _ hk => setRow_other w g k cs (by simpa using hk)⟩
theorem SP.store {i g : Nat} {t : TypeId} {cs cs' : Array Value} (h : SP S w0 w es) (hi : es[i]? = some (Qn g t cs)) : SP S w0 (w.setRow g cs') (es.set i (Qn g t cs')) := by
  have hg : w.heap[g]? = some (.cells cs t (0, 0)) := h.get hi
  have hlt : g < w.heap.size := (Array.getElem?_eq_some_iff.1 hg).1
  refine h.set hi (Mod.setRow w g cs') (fun k hk => hk) (setRow_heap w g cs cs' t (0, 0) hg) fun k hk => ⟨.inl hk, ?_⟩
  have : k = g := by simpa [Qn] using hk
  subst this
  simpa [World.setRow] using hlt
theorem SP.alloc {t : TypeId} {cs : Array Value} (h : SP S w0 w es) : SP S w0 (w.alloc (.cells cs t)) (es ++ [Qn w.heap.size t cs]) :=
  h.push ((Below.refl _ _).alloc (Nat.le_refl _) _) (heap_alloc_new w _) fun k hk => by
    have : k = w.heap.size := by simpa [Qn] using hk
    subst this
    simp
end
end Go.Proofs.YtmgfanhcdfobhaaGreatDoor
namespace Go.Proofs.YtmgfanhcdfobhaaGreatDoor
open Go.RowKit
structure Enc (α : Type) where
  sz : Nat
  enc : α → List Value
  len : ∀ x, (enc x).length = sz
  one : ∀ x, ∀ v ∈ enc x, v.oneCell' = true
def eU8 : Enc UInt8 := ⟨1, fun c => [.int .u8 (c.toNat : Int)], fun _ => rfl, fun _ v hv => by simp at hv; subst hv; rfl⟩
def Qc (k : IntKind) : Enc Int := ⟨1, fun n => [.int k n], fun _ => rfl, fun _ v hv => by simp at hv; subst hv; rfl⟩
def Qx : Enc (List UInt8) := ⟨1, fun s => [.string ⟨s.toArray⟩], fun _ => rfl, fun _ v hv => by simp at hv; subst hv; rfl⟩
section
variable {α : Type}
def Qd (e : Enc α) (l : List α) : List Value := l.flatMap e.enc
theorem G8 (e : Enc α) (l m : List α) : Qd e (l ++ m) = Qd e l ++ Qd e m := by simp [Qd]
theorem U2 (e : Enc α) (x : α) (l : List α) : Qd e (x :: l) = e.enc x ++ Qd e l := by simp [Qd]
theorem Vz (e : Enc α) : ∀ l : List α, (Qd e l).length = l.length * e.sz
  | [] => by simp [Qd]
  | x :: l => by rw [U2, List.length_append, e.len, Vz e l, List.length_cons, Nat.succ_mul]; omega
theorem Cf (e : Enc α) (l : List α) : ∀ v ∈ Qd e l, v.oneCell' = true := by
  intro v hv
  obtain ⟨x, _, hx⟩ := List.mem_flatMap.1 hv
  exact e.one x v hx
theorem Di (e : Enc α) : ∀ (l : List α) (i : Nat), (Qd e l).drop (i * e.sz) = Qd e (l.drop i)
  | l, 0 => by simp
  | [], i + 1 => by simp [Qd]
  | x :: l, i + 1 => by
    rw [U2, Nat.succ_mul, List.drop_succ_cons, ← Di e l i, List.drop_append, List.drop_of_length_le (by rw [e.len]; omega), List.nil_append, e.len]
    congr 1
    omega
theorem Dj (e : Enc α) : ∀ (l : List α) (i : Nat), (Qd e l).take (i * e.sz) = Qd e (l.take i)
  | l, 0 => by simp [Qd]
  | [], i + 1 => by simp [Qd]
  | x :: l, i + 1 => by
    rw [U2, Nat.succ_mul, List.take_succ_cons, U2, ← Dj e l i, List.take_append, List.take_of_length_le (by rw [e.len]; omega), e.len]
    congr 2
    omega
theorem Cg (e : Enc α) {l : List α} {i : Nat} {x : α} (h : l[i]? = some x) {j : Nat} {u : Value} (hu : (e.enc x)[j]? = some u) : (Qd e l)[i * e.sz + j]? = some u := by
  have hd : (Qd e l).drop (i * e.sz) = Qd e (l.drop i) := Di e l i
  rw [← List.getElem?_drop, hd]
  obtain ⟨hi, hx⟩ := List.getElem?_eq_some_iff.1 h
  rw [List.drop_eq_getElem_cons hi, hx, U2, List.getElem?_append_left (List.getElem?_eq_some_iff.1 hu).1]
  exact hu
theorem H6 (e : Enc α) : ∀ (l : List α) (i : Nat) (x : α), i < l.length → (Qd e l).take (i * e.sz) ++ e.enc x ++ (Qd e l).drop (i * e.sz + e.sz) = Qd e (l.set i x) := by
  intro l i x hi
  rw [Dj, show i * e.sz + e.sz = (i + 1) * e.sz by rw [Nat.succ_mul], Di, List.set_eq_take_append_cons_drop, if_pos hi, G8, U2, List.append_assoc]
def RdT (e : Enc α) (w : World) (A : Option Addr) (c : Nat) (l : List α) : Prop := RdX w A l.length c e.sz (Qd e l)
def Yc (E : TypeId) (e : Enc α) (A : Option Addr) (c : Nat) (l : List α) : Ent := row E e.sz (.slice A l.length c) l.length (Qd e l)
def rdE (e : Enc α) (A : Option Addr) (c : Nat) (l : List α) : Ent :=
  ⟨(match A with | some a => [a.block] | none => []), fun w => RdT e w A c l, fun w w' h hk => by
    obtain ⟨h1, h2, h3, h4⟩ := hk
    refine ⟨h1, h2, h3, fun hn => ?_⟩
    obtain ⟨b, off, hA, hb, hc⟩ := h4 hn
    subst hA
    have hb' := h b (by simp)
    refine ⟨b, off, rfl, ?_, fun j u hu => ?_⟩
    · have : w.heap[b]? = some w.heap[b] := Array.getElem?_eq_getElem hb
      rw [this] at hb'
      exact (Array.getElem?_eq_some_iff.1 hb').1
    · rw [← hc j u hu]; exact World.cell?_of_block hb'⟩
variable {e : Enc α} {w w' w0 : World} {A : Option Addr} {c : Nat} {l : List α} {E : TypeId} {es : List Ent} {S : List Nat}
theorem Vs (h : (Yc E e A c l).ok w) : RdT e w A c l := row_rdx h
theorem Oa (h : (rdE e A c l).ok w) : RdT e w A c l := h
theorem RdT.sp (h : RdT e w0 A c l) (hs : SP [] w0 w es) : RdT e w A c l := RdX.sp h hs
theorem RdT.mod (h : RdT e w A c l) (hm : Mod S w w') (hS : ∀ b o, A = some ⟨b, o, none⟩ → b ∉ S) : RdT e w' A c l := RdX.mod h hm hS
theorem RdT.below (h : RdT e w A c l) (hb : Below w.heap.size w w') : RdT e w' A c l := RdX.below h hb
theorem RdT.nil (e : Enc α) (w : World) : RdT e w none 0 [] := RdX.nil w e.sz
theorem RdT.max (h : RdT e w A c l) : l.length ≤ maxLen := RdX.max h
def F2 (sz c i : Nat) (A : Option Addr) : Option Addr := if c = i then A else A.map (·.add (i * sz))
theorem RdT.part (h : RdT e w A c l) {i j : Nat} (hij : i ≤ j) (hjn : j ≤ l.length) : RdT e w (F2 e.sz c i A) (c - i) ((l.take j).drop i) := by
  have := RdX.part h hij hjn
  rw [Dj, Di] at this
  have hl : ((l.take j).drop i).length = j - i := by simp; omega
  unfold RdT
  rw [hl]
  exact this
theorem D4 (h : SP S w0 w es) (E : TypeId) (e : Enc α) : SP S w0 w (es ++ [Yc E e none 0 []]) :=
  h.push (Below.refl _ _) (World.ownsRow_nil w 0 E e.sz) (by simp [Yc, row, Value.ownBlock])
end
theorem rd_bytes {w : World} {A : Option Addr} {c : Nat} {l : List UInt8} (h : RdT eU8 w A c l) : Rd w A l.length c l := by
  obtain ⟨h1, h2, h3, h4⟩ := h
  refine ⟨rfl, h2, h3, fun hn => ?_⟩
  obtain ⟨b, off, hA, hb, hc⟩ := h4 hn
  refine ⟨b, off, hA, hb, fun i hi => ?_⟩
  have := Cg eU8 (l := l) (i := i) (x := l[i]) (List.getElem?_eq_getElem hi) (j := 0) (u := .int .u8 (l[i].toNat : Int)) rfl
  have := hc _ _ this
  simp only [eU8, Nat.mul_one, Nat.add_zero] at this
  rw [this]
  simp [List.getD, List.getElem?_eq_getElem hi]
def idx {α : Type} (l : List α) (i : Int) : Option α := if 0 ≤ i then l[i.toNat]? else none
def sub {α : Type} (l : List α) (i j : Int) : Option (List α) := if 0 ≤ i ∧ i ≤ j ∧ j ≤ (l.length : Int) then some ((l.take j.toNat).drop i.toNat) else none
def app {α : Type} (l m : List α) : Option (List α) := if l.length + m.length ≤ 2147483648 then some (l ++ m) else none
def chk (b : Bool) : Option Unit := match b with | true => some () | false => none
section
variable {α β : Type}
theorem Qb {o : Option α} {K : α → Option β} {r : β} (h : o.bind K = some r) : ∃ x, o = some x ∧ K x = some r := by
  cases o with
  | none => cases h
  | some x => exact ⟨x, rfl, h⟩
theorem Qo {l : List α} {i : Int} {K : α → Option β} {r : β} (h : (idx l i).bind K = some r) : ∃ x, 0 ≤ i ∧ i < (l.length : Int) ∧ l[i.toNat]? = some x ∧ K x = some r := by
  obtain ⟨x, h1, h2⟩ := Qb h
  unfold idx at h1
  split at h1
  · obtain ⟨h3, _⟩ := List.getElem?_eq_some_iff.1 h1
    exact ⟨x, ‹_›, by omega, h1, h2⟩
  · cases h1
theorem Dw {l : List α} {i j : Int} {K : List α → Option β} {r : β} (h : (sub l i j).bind K = some r) : 0 ≤ i ∧ i ≤ j ∧ j ≤ (l.length : Int) ∧ K ((l.take j.toNat).drop i.toNat) = some r := by
  obtain ⟨x, h1, h2⟩ := Qb h
  unfold sub at h1
  split at h1
  · rename_i hc
    injection h1 with h1
    subst h1
    exact ⟨hc.1, hc.2.1, hc.2.2, h2⟩
  · cases h1
theorem Uh {l m : List α} {K : List α → Option β} {r : β} (h : (app l m).bind K = some r) : l.length + m.length ≤ 2147483648 ∧ K (l ++ m) = some r := by
  obtain ⟨x, h1, h2⟩ := Qb h
  unfold app at h1
  split at h1
  · injection h1 with h1; subst h1; exact ⟨‹_›, h2⟩
  · cases h1
theorem V4 {b : Bool} {K : Unit → Option β} {r : β} (h : (chk b).bind K = some r) : b = true ∧ K () = some r := by
  obtain ⟨x, h1, h2⟩ := Qb h
  unfold chk at h1
  cases b
  · cases h1
  · exact ⟨rfl, h2⟩
end
section
variable {P : Program} {n : Nat} {Q : H1} {ρ : Fr} {w w0 : World} {B : Code} {p : List Bool} {k : Nat} {d : Option Nat} {S : List Nat} {es : List Ent} {K : Fr → World → Prop}
theorem Vn {t : TypeId} {x : Operand} {v : Value} (ho : D3 (Qm B p) k ρ = some (.box t x, d)) (hd : Ji n d = true) (hv : opv ρ x = v) (hs : SP S w0 w es)
    (next : ∀ (g : Nat) (w' : World), SP S w0 w' (es ++ [Qn g t v.cells]) → K (G4 ρ d (.pointer (some ⟨g, 0, none⟩))) w') : Qi P n B p k K ρ w := by
  subst hv
  refine Qi.val ho hd (v := .pointer (some ⟨w.heap.size, 0, none⟩)) (w' := w.alloc (.cells (opv ρ x).cells t)) (fun o hop => ?_) (next _ _ hs.alloc)
  unfold execOp; rw [hop]; rfl
theorem Qi.alloc {t : TypeId} {z : Value} (ho : D3 (Qm B p) k ρ = some (.alloc t, d)) (hd : Ji n d = true) (hz : (P.info? t).bind (·.zero) = some z) (hs : SP S w0 w es)
    (next : ∀ (g : Nat) (w' : World), SP S w0 w' (es ++ [Qn g t z.cells]) → K (G4 ρ d (.pointer (some ⟨g, 0, none⟩))) w') : Qi P n B p k K ρ w := by
  refine Qi.val ho hd (v := .pointer (some ⟨w.heap.size, 0, none⟩)) (w' := w.alloc (.cells z.cells t)) (fun o hop => ?_) (next _ _ hs.alloc)
  unfold execOp; rw [hop]
  cases hi : P.info? t with
  | none => rw [hi] at hz; cases hz
  | some i =>
    rw [hi] at hz
    have hz : i.zero = some z := hz
    have hzv : (zeroValue t).run P w = .ok z w := by simp [zeroValue, typeInfo, hi, hz]
    simp only [Instr.alloc, Sem.run_bind, hzv, Result.andThen_ok]
    rfl
theorem Qi.load {t t' : TypeId} {x : Operand} {g off i : Nat} {cs : Array Value} {v : Value} (ho : D3 (Qm B p) k ρ = some (.load t x, d)) (hd : Ji n d = true)
    (hv : opv ρ x = .pointer (some ⟨g, off, none⟩)) (hs : SP S w0 w es) (hi : es[i]? = some (Qn g t' cs)) (hl : Oy P t off cs = some v)
    (next : K (G4 ρ d v) w) : Qi P n B p k K ρ w := by
  refine Qi.val ho hd (fun o hop => ?_) next
  have hg : w.heap[g]? = some (.cells cs t' (0, 0)) := hs.get hi
  have := F3 (w := w) hl hg
  unfold execOp; rw [hop]
  simp only [hv, Instr.loadAt, Instr.sureAddr, Sem.run_bind, Sem.run_pure, Result.andThen_ok, this]
theorem Qi.store {t t' : TypeId} {x y : Operand} {g off i : Nat} {cs cs' : Array Value} {v : Value} (ho : D3 (Qm B p) k ρ = some (.store t x y, d)) (hd : Ji n d = true)
    (hx : opv ρ x = .pointer (some ⟨g, off, none⟩)) (hy : opv ρ y = v) (hs : SP S w0 w es) (hi : es[i]? = some (Qn g t' cs)) (hl : storeF P t off cs v = some cs')
    (next : ∀ w' : World, SP S w0 w' (es.set i (Qn g t' cs')) → K (G4 ρ d undef) w') : Qi P n B p k K ρ w := by
  subst hy
  have hg : w.heap[g]? = some (.cells cs t' (0, 0)) := hs.get hi
  refine Fi ho hd (w' := w.setRow g cs') (fun o hop => ?_) (next _ (hs.store hi))
  have := L5 (w := w) hl hg
  unfold execOp; rw [hop]
  simp only [hx, Instr.storeAt, Instr.sureAddr, Sem.run_bind, Sem.run_pure, Result.andThen_ok, this]
variable {α : Type} {e : Enc α} {A : Option Addr} {c : Nat} {l : List α}
theorem L6 {T E : TypeId} {sz m c : Nat} {ki : IntKind} {iz : Int} {b off : Nat} (hT : P.underlying T = some (.slice E)) (hE : (P.info? E).map (·.size) = some sz) (h0 : 0 ≤ iz) (h1 : iz < (m : Int)) (w : World) :
    (Instr.indexAt T (.slice (some ⟨b, off, none⟩) m c) (.int ki iz)).run P w = .ok (.pointer (some ⟨b, off + iz.toNat * sz, none⟩)) w := by
  cases hi : P.info? E with
  | none => rw [hi] at hE; cases hE
  | some i =>
    rw [hi] at hE
    have hE : i.size = sz := by simpa using hE
    have hsz : (sizeOf E).run P w = .ok sz w := by simp [sizeOf, typeInfo, hi, hE]
    simp only [Instr.indexAt, asIntOf, Sem.run_bind, Sem.run_pure, Result.andThen_ok, run_underlying hT]
    simp [h0, h1, hsz, Bm]
theorem Vi {T E : TypeId} {x ix : Operand} {ki : IntKind} {iz : Int} (ho : D3 (Qm B p) k ρ = some (.indexAddr T x ix, d)) (hd : Ji n d = true)
    (hx : opv ρ x = .slice A l.length c) (hix : opv ρ ix = .int ki iz) (hT : P.underlying T = some (.slice E)) (hE : (P.info? E).map (·.size) = some e.sz) (hr : RdT e w A c l) (h0 : 0 ≤ iz) (h1 : iz < (l.length : Int))
    (next : ∀ b off : Nat, A = some ⟨b, off, none⟩ → b < w.heap.size → (∀ j u, (Qd e l)[j]? = some u → w.cell? ⟨b, off + j, none⟩ = some u) → K (G4 ρ d (.pointer (some ⟨b, off + iz.toNat * e.sz, none⟩))) w) :
    Qi P n B p k K ρ w := by
  obtain ⟨_, _, _, h4⟩ := hr
  obtain ⟨b, off, hA, hb, hc⟩ := h4 (by omega)
  refine Qi.val ho hd (fun o hop => ?_) (next b off hA hb hc)
  subst hA
  unfold execOp; rw [hop]
  simp only [hx, hix, Sem.run_bind, L6 hT hE h0 h1, Result.andThen_ok]
  rfl
theorem Qi.cell {t : TypeId} {x : Operand} {b off : Nat} {v : Value} (ho : D3 (Qm B p) k ρ = some (.load t x, d)) (hd : Ji n d = true)
    (hx : opv ρ x = .pointer (some ⟨b, off, none⟩)) (ht : (P.underlying t).map aggD = some false) (hc : w.cell? ⟨b, off, none⟩ = some v)
    (next : K (G4 ρ d v) w) : Qi P n B p k K ρ w := by
  refine Qi.val ho hd (fun o hop => ?_) next
  cases hu : P.underlying t with
  | none => rw [hu] at ht; cases ht
  | some dd =>
    rw [hu] at ht
    have ht : aggD dd = false := by simpa using ht
    have hagg : (isAgg t).run P w = .ok false w := by
      rw [← ht]
      simp only [isAgg, Sem.run_bind, run_underlying hu, Result.andThen_ok]
      cases dd <;> rfl
    unfold execOp; rw [hop]
    simp only [hx, Instr.loadAt, Instr.sureAddr, Sem.run_bind, Sem.run_pure, Result.andThen_ok, loadVar, hagg, Bool.false_eq_true, if_false]
    simp [Go.load, Sem.run, hc]
theorem Qi.cells {t : TypeId} {x : Operand} {b off : Nat} {xs : List Value} (ho : D3 (Qm B p) k ρ = some (.load t x, d)) (hd : Ji n d = true)
    (hx : opv ρ x = .pointer (some ⟨b, off, none⟩)) (ht : (P.underlying t).map aggD = some true) (hz : (P.info? t).map (·.size) = some xs.length) (hc : ∀ j u, xs[j]? = some u → w.cell? ⟨b, off + j, none⟩ = some u)
    (next : K (G4 ρ d (.agg xs.toArray)) w) : Qi P n B p k K ρ w := by
  refine Qi.val ho hd (fun o hop => ?_) next
  cases hu : P.underlying t with
  | none => rw [hu] at ht; cases ht
  | some dd =>
    rw [hu] at ht
    have ht : aggD dd = true := by simpa using ht
    have hagg : (isAgg t).run P w = .ok true w := by
      rw [← ht]
      simp only [isAgg, Sem.run_bind, run_underlying hu, Result.andThen_ok]
      cases dd <;> rfl
    cases hi : P.info? t with
    | none => rw [hi] at hz; cases hz
    | some i =>
      rw [hi] at hz
      have hz : i.size = xs.length := by simpa using hz
      have hsz : (sizeOf t).run P w = .ok xs.length w := by simp [sizeOf, typeInfo, hi, hz]
      have hload := run_loadCells_list (P := P) w ⟨b, off, none⟩ xs (fun j u hu => by rw [Bm]; exact hc j u hu)
      unfold execOp; rw [hop]
      simp only [hx, Instr.loadAt, Instr.sureAddr, Sem.run_bind, Sem.run_pure, Result.andThen_ok, loadVar, hagg, if_true, hsz, hload]
theorem Qk {x : α} {b off j : Nat} {iz : Int} {u : Value} {w : World} (hc : ∀ j u, (Qd e l)[j]? = some u → w.cell? ⟨b, off + j, none⟩ = some u) (hx : l[iz.toNat]? = some x) (hu : (e.enc x)[j]? = some u) :
    w.cell? ⟨b, off + iz.toNat * e.sz + j, none⟩ = some u := by
  rw [Nat.add_assoc]
  exact hc _ _ (Cg e hx hu)
theorem Oz (l : List UInt8) : (⟨l.toArray⟩ : ByteArray).toList = l := by rw [ByteArray.toList_eq]
theorem Rh (l : List UInt8) : (⟨l.toArray⟩ : ByteArray).size = l.length := by simp [ByteArray.size]
theorem O0 (l m : List UInt8) : (⟨l.toArray⟩ : ByteArray) ++ ⟨m.toArray⟩ = ⟨(l ++ m).toArray⟩ := by
  apply ByteArray.ext
  rw [ByteArray.data_append]
  simp
theorem L7 (l : List UInt8) (i j : Nat) (h : j ≤ l.length) : (⟨l.toArray⟩ : ByteArray).extract i j = ⟨((l.take j).drop i).toArray⟩ := by
  apply ByteArray.ext
  rw [ByteArray.data_extract]
  apply Array.ext'
  simp [List.extract_eq_take_drop, List.drop_take]
theorem V0 {op : BinOp} {T T' : TypeId} {x y : Operand} {a b : List UInt8} {r : Value} (ho : D3 (Qm B p) k ρ = some (.binOp op T x y T', d)) (hd : Ji n d = true)
    (hx : opv ρ x = .string ⟨a.toArray⟩) (hy : opv ρ y = .string ⟨b.toArray⟩) (hr : (match op with
      | .eql => some (Value.bool (a == b)) | .neq => some (.bool !(a == b)) | .lss => some (.bool (Op.bytesLess a b)) | .leq => some (.bool (Op.bytesLess a b || a == b))
      | .gtr => some (.bool !(Op.bytesLess a b || a == b)) | .geq => some (.bool !(Op.bytesLess a b)) | _ => none) = some r)
    (next : K (G4 ρ d r) w) : Qi P n B p k K ρ w := by
  refine Qi.val ho hd (fun o hop => ?_) next
  unfold execOp; rw [hop]
  simp only [hx, hy]
  cases op <;> first | (cases hr; done) | skip
  all_goals
    injection hr with hr
    subst hr
    simp [eqGuard, Go.binOp, Op.stringOp, Oz]
theorem E3 {T T' : TypeId} {x y : Operand} {a b : List UInt8} (ho : D3 (Qm B p) k ρ = some (.binOp .add T x y T', d)) (hd : Ji n d = true)
    (hx : opv ρ x = .string ⟨a.toArray⟩) (hy : opv ρ y = .string ⟨b.toArray⟩) (hl : a.length + b.length ≤ 2147483648)
    (next : K (G4 ρ d (.string ⟨(a ++ b).toArray⟩)) w) : Qi P n B p k K ρ w := by
  refine Qi.val ho hd (fun o hop => ?_) next
  have hmax : ¬ (((⟨a.toArray⟩ : ByteArray).size + (⟨b.toArray⟩ : ByteArray).size : Nat) : Int) > IntKind.i64.max := by
    rw [Rh, Rh]
    have : IntKind.i64.max = 9223372036854775807 := by decide
    rw [this]; omega
  unfold execOp; rw [hop]
  simp only [hx, hy]
  simp only [eqGuard, Go.binOp, Op.stringOp, hmax, if_false, O0]
  rfl
theorem Gr {T : TypeId} {x ix : Operand} {ki : IntKind} {iz : Int} {a : List UInt8} {u : UInt8} (ho : D3 (Qm B p) k ρ = some (.index T x ix, d)) (hd : Ji n d = true)
    (hT : P.underlying T = some .string) (hx : opv ρ x = .string ⟨a.toArray⟩) (hix : opv ρ ix = .int ki iz) (h0 : 0 ≤ iz) (hu : a[iz.toNat]? = some u)
    (next : K (G4 ρ d (.int .u8 (u.toNat : Int))) w) : Qi P n B p k K ρ w := by
  refine Qi.val ho hd (fun o hop => ?_) next
  unfold execOp; rw [hop]
  have hg : (⟨a.toArray⟩ : ByteArray)[iz.toNat]? = some u := by
    obtain ⟨h1, h2⟩ := List.getElem?_eq_some_iff.1 hu
    have h1' : iz.toNat < (⟨a.toArray⟩ : ByteArray).size := by rw [Rh]; exact h1
    rw [getElem?_pos (⟨a.toArray⟩ : ByteArray) iz.toNat h1', ← h2]
    rfl
  simp only [hx, hix, Instr.index, asIntOf, Sem.run_bind, Sem.run_pure, Result.andThen_ok, run_underlying hT]
  simp [h0, hg]
theorem F4 {isS : Bool} {m cap : Nat} {lo hi : Option Value} {i j : Nat} (hlo : lo = none ∧ i = 0 ∨ ∃ kk, lo = some (.int kk (i : Int))) (hhi : hi = none ∧ j = m ∨ ∃ kk, hi = some (.int kk (j : Int))) (hij : i ≤ j) (hj : j ≤ m) (hm : m ≤ cap) (w : World) :
    (Instr.sliceBounds isS m cap lo hi none).run P w = .ok (i, j, cap) w := by
  have hj' : j ≤ cap := Nat.le_trans hj hm
  rcases hlo with ⟨rfl, rfl⟩ | ⟨kl, rfl⟩ <;> rcases hhi with ⟨rfl, rfl⟩ | ⟨kh, rfl⟩
  all_goals simp [Instr.sliceBounds, Instr.sliceBound, asIntOf, hij, hj']
def Hm (ρ : Fr) (o : Option Operand) (z : Int) (dflt : Nat) : Prop := match o with | none => z = (dflt : Int) | some x => ∃ kk, opv ρ x = .int kk z
theorem Qi.slice {T E : TypeId} {x : Operand} {lo hi : Option Operand} {i j : Int} (ho : D3 (Qm B p) k ρ = some (.slice T x lo hi none, d)) (hd : Ji n d = true)
    (hx : opv ρ x = .slice A l.length c) (hT : P.underlying T = some (.slice E)) (hE : (P.info? E).map (·.size) = some e.sz) (hlo : Hm ρ lo i 0) (hhi : Hm ρ hi j l.length) (hc : l.length ≤ c)
    (h0 : 0 ≤ i) (h1 : i ≤ j) (h2 : j ≤ (l.length : Int))
    (next : ∀ (A' : Option Addr) (c' : Nat), A' = F2 e.sz c i.toNat A → c' = c - i.toNat → (∀ w1 : World, RdT e w1 A c l → RdT e w1 A' c' ((l.take j.toNat).drop i.toNat)) →
      K (G4 ρ d (.slice A' ((l.take j.toNat).drop i.toNat).length c')) w) : Qi P n B p k K ρ w := by
  have hl : ((l.take j.toNat).drop i.toNat).length = j.toNat - i.toNat := by simp; omega
  refine Qi.val ho hd (v := .slice (F2 e.sz c i.toNat A) ((l.take j.toNat).drop i.toNat).length (c - i.toNat)) (fun o hop => ?_)
    (next _ _ rfl rfl fun w1 hr => RdT.part hr (by omega) (by omega))
  rw [hl]
  unfold execOp; rw [hop]
  cases hi' : P.info? E with
  | none => rw [hi'] at hE; cases hE
  | some ii =>
    rw [hi'] at hE
    have hE : ii.size = e.sz := by simpa using hE
    have hsz : ∀ w, (sizeOf E).run P w = .ok e.sz w := fun w => by simp [sizeOf, typeInfo, hi', hE]
    have hb := F4 (P := P) (isS := true) (m := l.length) (cap := c) (lo := lo.map (opv ρ)) (hi := hi.map (opv ρ)) (i := i.toNat) (j := j.toNat)
      (by
        cases lo with
        | none => exact .inl ⟨rfl, by have : i = 0 := hlo; omega⟩
        | some y => obtain ⟨kk, hh⟩ := hlo; exact .inr ⟨kk, by rw [Option.map_some, hh, Int.toNat_of_nonneg h0]⟩)
      (by
        cases hi with
        | none => exact .inl ⟨rfl, by have : j = (l.length : Int) := hhi; omega⟩
        | some y => obtain ⟨kk, hh⟩ := hhi; exact .inr ⟨kk, by rw [Option.map_some, hh, Int.toNat_of_nonneg (by omega)]⟩)
      (by omega) (by omega) hc w
    simp only [hx, Instr.sliceAt, Sem.run_bind, run_underlying hT, Result.andThen_ok, Instr.slice, Option.map_none, hb, hsz]
    rfl
theorem Dx {T : TypeId} {x : Operand} {lo hi : Option Operand} {i j : Int} {a : List UInt8} (ho : D3 (Qm B p) k ρ = some (.slice T x lo hi none, d)) (hd : Ji n d = true)
    (hx : opv ρ x = .string ⟨a.toArray⟩) (hT : P.underlying T = some .string) (hlo : Hm ρ lo i 0) (hhi : Hm ρ hi j a.length)
    (h0 : 0 ≤ i) (h1 : i ≤ j) (h2 : j ≤ (a.length : Int))
    (next : K (G4 ρ d (.string ⟨((a.take j.toNat).drop i.toNat).toArray⟩)) w) : Qi P n B p k K ρ w := by
  refine Qi.val ho hd (fun o hop => ?_) next
  unfold execOp; rw [hop]
  have hb := F4 (P := P) (isS := false) (m := (⟨a.toArray⟩ : ByteArray).size) (cap := (⟨a.toArray⟩ : ByteArray).size) (lo := lo.map (opv ρ)) (hi := hi.map (opv ρ)) (i := i.toNat) (j := j.toNat)
    (by
      cases lo with
      | none => exact .inl ⟨rfl, by have : i = 0 := hlo; omega⟩
      | some y => obtain ⟨kk, hh⟩ := hlo; exact .inr ⟨kk, by rw [Option.map_some, hh, Int.toNat_of_nonneg h0]⟩)
    (by
      cases hi with
      | none => exact .inl ⟨rfl, by have : j = (a.length : Int) := hhi; rw [Rh]; omega⟩
      | some y => obtain ⟨kk, hh⟩ := hhi; exact .inr ⟨kk, by rw [Option.map_some, hh, Int.toNat_of_nonneg (by omega)]⟩)
    (by omega) (by rw [Rh]; omega) (Nat.le_refl _) w
  simp only [hx, Instr.sliceAt, Sem.run_bind, run_underlying hT, Result.andThen_ok, Instr.slice, Option.map_none, Option.isSome_none, Bool.false_eq_true, if_false, Sem.run_bind, hb, Result.andThen_ok, Sem.run_pure]
  rw [L7 _ _ _ (by omega)]
theorem I3 {T S' E : TypeId} {x : Operand} {l : List UInt8} (ho : D3 (Qm B p) k ρ = some (.convert T S' x, d)) (hd : Ji n d = true)
    (hx : opv ρ x = .slice A l.length c) (hT : P.underlying T = some (.slice E)) (hE : P.underlying E = some (.int .u8)) (hS : P.underlying S' = some .string) (hr : RdT eU8 w A c l)
    (next : K (G4 ρ d (.string ⟨l.toArray⟩)) w) : Qi P n B p k K ρ w := by
  refine Qi.val ho hd (fun o hop => ?_) next
  unfold execOp; rw [hop]
  have := H4 (P := P) hT hE hS (rd_bytes hr)
  simp only [hx, Sem.run_bind, this, Result.andThen_ok]
  rfl
end
end Go.Proofs.YtmgfanhcdfobhaaGreatDoor
namespace Go.Proofs.YtmgfanhcdfobhaaGreatDoor
open Go.RowKit
section
variable {α : Type} {e : Enc α} {P : Program} {w w0 : World} {A : Option Addr} {c : Nat} {l m : List α}
theorem Rk {TX E : TypeId} (hT : P.underlying TX = some (.slice E)) (h : RdT e w A c m) : Src P e.sz TX (.slice A m.length c) m.length (Qd e m) w := by
  obtain ⟨h1, h2, h3, h4⟩ := h
  rcases Nat.eq_zero_or_pos m.length with h0 | h0
  · have : m = [] := List.eq_nil_of_length_eq_zero h0
    subst this
    refine ⟨.inl ⟨_, hT⟩, fun _ => rfl, ?_, ?_, by simp [Qd], Cf e _⟩
    · cases A with
      | none => exact run_firstCells_none w e.sz 0 0 c
      | some a => exact run_firstCells_some w e.sz 0 a 0 c [] (by simp) (by simp)
    · cases A with
      | none => exact run_firstCells_none w.drew e.sz 0 0 c
      | some a => exact run_firstCells_some w.drew e.sz 0 a 0 c [] (by simp) (by simp)
  · obtain ⟨b, off, rfl, hb, hc⟩ := h4 h0
    refine Src.ofSlice w hT _ _ _ _ h1 (fun j u hu => ?_) (Cf e _)
    rw [Bm]
    exact hc j u hu
theorem Ob (m : List UInt8) : Qd eU8 m = m.map fun c => Value.int .u8 (c.toNat : Int) := by
  induction m with
  | nil => rfl
  | cons x r ih => rw [U2, ih]; rfl
theorem src_str {TX : TypeId} (hT : P.underlying TX = some .string) (m : List UInt8) : Src P eU8.sz TX (.string ⟨m.toArray⟩) m.length (Qd eU8 m) w := by
  have := Src.ofString (w := w) hT ⟨m.toArray⟩
  rw [Ob]
  have h2 : byteCells (⟨m.toArray⟩ : ByteArray) = m.map fun c => Value.int .u8 (c.toNat : Int) := rfl
  rw [Rh, h2] at this
  exact this
theorem O1 {w : World} {E : TypeId} {sz n : Nat} {v : Value} {xs : List Value} (h : w.ownsRow 0 E sz v n xs) : ∃ A c, v = .slice A n c := by
  rcases h.2 with ⟨hv, hn⟩ | ⟨g, cap, cur, hv, _⟩
  · exact ⟨none, 0, by rw [hv, hn]⟩
  · exact ⟨_, _, hv⟩
theorem I4 {E : TypeId} {sz b : Nat} (h : (P.info? E).map (fun i => (i.zero.map (·.cells.size), i.size, i.bytes)) = some (some sz, sz, b)) : ∃ i z, P.info? E = some i ∧ i.zero = some z ∧ i.size = sz ∧ i.bytes = b ∧ z.cells.size = sz := by
  cases hi : P.info? E with
  | none => rw [hi] at h; cases h
  | some i =>
    rw [hi] at h
    simp only [Option.map_some, Option.some.injEq, Prod.mk.injEq] at h
    obtain ⟨h1, h2, h3⟩ := h
    cases hz : i.zero with
    | none => rw [hz] at h1; cases h1
    | some z =>
      rw [hz] at h1
      exact ⟨i, z, rfl, hz, h2, h3, by simpa using h1⟩
end
section
variable {P : Program} {n : Nat} {Q : H1} {ρ : Fr} {w w0 : World} {B : Code} {p : List Bool} {k : Nat} {d : Option Nat} {S : List Nat} {es : List Ent} {K : Fr → World → Prop}
variable {α : Type} {e : Enc α} {A : Option Addr} {c : Nat} {l m : List α}
theorem Qi.append {T TX E : TypeId} {s x : Operand} {b i : Nat} {vx : Value} (ho : D3 (Qm B p) k ρ = some (.call { callee := .builtin .append, args := #[s, x], argTypes := #[T, TX] }, d)) (hd : Ji n d = true)
    (hv : opv ρ s = .slice A l.length c) (hx : opv ρ x = vx) (hT : P.underlying T = some (.slice E)) (hE : (P.info? E).map (fun i => (i.zero.map (·.cells.size), i.size, i.bytes)) = some (some e.sz, e.sz, b)) (hb : (Nat.ble 1 e.sz && Nat.ble b 65536) = true)
    (hs : SP S w0 w es) (hi : es[i]? = some (Yc E e A c l)) (hsrc : Src P e.sz TX vx m.length (Qd e m) w) (hlen : l.length + m.length ≤ 2147483648)
    (next : ∀ (A' : Option Addr) (c' : Nat) (w' : World), SP S w0 w' (es.set i (Yc E e A' c' (l ++ m))) → K (G4 ρ d (.slice A' (l ++ m).length c')) w') : Qi P n B p k K ρ w := by
  subst hx
  obtain ⟨i0, z, hi0, hz0, hz1, hz2, hz3⟩ := I4 hE
  simp only [Bool.and_eq_true] at hb
  have hb1 := Nat.le_of_ble_eq_true hb.1
  have hb2 := Nat.le_of_ble_eq_true hb.2
  have hbytes : (l.length + m.length) * b ≤ 140737488355328 := Nat.le_trans (Nat.mul_le_mul hlen hb2) (by omega)
  have hown : w.ownsRow 0 E e.sz (.slice A l.length c) l.length (Qd e l) := hs.get hi
  obtain ⟨o0, ho0, _⟩ := Eb ho
  obtain ⟨v', w', hrun, h2, h3, h4⟩ := Ix (P := P) w 0 T TX o0.type E i0 z e.sz b hT hi0 hz0 hz1 hz2 hz3 (by omega) _ l.length (Qd e l) hown (opv ρ x) m.length (Qd e m) hsrc (by unfold maxLen; omega) hbytes (Nat.zero_le _)
  obtain ⟨A', c', rfl⟩ := O1 h2
  have h2' : (Yc E e A' c' (l ++ m)).ok w' := by
    show w'.ownsRow 0 E e.sz (.slice A' (l ++ m).length c') (l ++ m).length (Qd e (l ++ m))
    rw [List.length_append, G8]
    exact h2
  have hmod : Mod ((Value.slice A l.length c).ownBlock.toList) w w' := Hl h3 (fun q hq => by rw [hq]; simp)
  refine Qi.val ho hd (v := .slice A' (l ++ m).length c') (w' := w') (fun o hop => ?_) (next A' c' w' (hs.set hi hmod (fun q hq => hq) h2' fun q hq => ?_))
  · have hty : ∀ ty, (Builtin.append_ #[T, TX] ty #[.slice A l.length c, opv ρ x]).run P w = (Builtin.append_ #[T, TX] o0.type #[.slice A l.length c, opv ρ x]).run P w := fun _ => rfl
    have hrun' : (Builtin.append_ #[T, TX] o.type #[opv ρ s, opv ρ x]).run P w = .ok (.slice A' (l.length + m.length) c') w' := by rw [hv, hty]; exact hrun
    rw [List.length_append]
    unfold execOp
    rw [hop]
    simp [resolve, invoke, builtin, hrun', Result.andThen]
  · have hq' : (Value.slice A' (l.length + m.length) c').ownBlock = some q := by
      have : (Value.slice A' (l ++ m).length c').ownBlock = some q := by simpa [Yc, row] using hq
      rw [List.length_append] at this
      exact this
    refine ⟨?_, (World.ownsRow.lt h2 q hq').2⟩
    rcases h4 with h4 | h4
    · left
      rw [h4] at hq'
      show q ∈ (Value.slice A l.length c).ownBlock.toList
      rw [hq']
      simp
    · right
      rw [h4] at hq'
      injection hq' with hq'
      omega
theorem SP.newrow {E : TypeId} {cs : Array Value} {w : World} (h : SP S w0 w es) (e : Enc α) (l : List α) (hc : cs.toList = Qd e l) (hm : l.length ≤ maxLen) (hz : 0 < e.sz) :
    SP S w0 (w.alloc (.cells cs E)) (es ++ [Yc E e (some ⟨w.heap.size, 0, none⟩) l.length l]) := by
  refine h.push ((Below.refl _ _).alloc (Nat.le_refl _) _) ?_ fun k hk => ?_
  · have := World.ownsRow_lit (base := 0) (e := E) (size := e.sz) w cs l.length (Nat.zero_le _) hm (by rw [← Array.length_toList, hc, Vz])
    rw [hc] at this
    exact this
  · have : k = w.heap.size := by simpa [Yc, row, Value.ownBlock] using hk
    subst this
    simp
theorem Zv {T E : TypeId} {len : Nat} {parts : Array (Nat × Operand)} {cs : Array Value} (l : List α) (ho : D3 (Qm B p) k ρ = some (.buildSlice T len parts, d)) (hd : Ji n d = true)
    (hb : ∀ w : World, (Instr.buildSlice T len (parts.map fun (i, x) => (i, opv ρ x))).run P w = .ok (.slice (some ⟨w.heap.size, 0, none⟩) len len) (w.alloc (.cells cs E)))
    (hs : SP S w0 w es) (hc : cs.toList = Qd e l) (hl : l.length = len) (hm : Nat.ble l.length 2147483648 = true) (hz : Nat.ble 1 e.sz = true)
    (next : ∀ (g : Nat) (w' : World), SP S w0 w' (es ++ [Yc E e (some ⟨g, 0, none⟩) l.length l]) → K (G4 ρ d (.slice (some ⟨g, 0, none⟩) l.length l.length)) w') : Qi P n B p k K ρ w := by
  subst hl
  refine Qi.val ho hd (v := .slice (some ⟨w.heap.size, 0, none⟩) l.length l.length) (w' := w.alloc (.cells cs E)) (fun o hop => ?_) (next _ _ (hs.newrow e l hc (by have := Nat.le_of_ble_eq_true hm; unfold maxLen; omega) (Nat.le_of_ble_eq_true hz)))
  unfold execOp; rw [hop]
  simp only [Sem.run_bind, hb, Result.andThen_ok]
  rfl
theorem Bd {S' T E : TypeId} {x : Operand} {l : List UInt8} (ho : D3 (Qm B p) k ρ = some (.convert S' T x, d)) (hd : Ji n d = true)
    (hx : opv ρ x = .string ⟨l.toArray⟩) (hS : P.underlying S' = some .string) (hT : P.underlying T = some (.slice E)) (hE : P.underlying E = some (.int .u8)) (hl : l.length ≤ maxLen) (hs : SP S w0 w es)
    (next : ∀ (g c' : Nat) (w' : World), SP S w0 w' (es ++ [rdE eU8 (some ⟨g, 0, none⟩) c' l]) → l.length ≤ c' → K (G4 ρ d (.slice (some ⟨g, 0, none⟩) l.length c')) w') : Qi P n B p k K ρ w := by
  have hrun := run_bytes_of_string (P := P) w S' T E ⟨l.toArray⟩ hS hT hE
  have hge := grownCap_ge w (⟨l.toArray⟩ : ByteArray).size 0 E
  have hle := grownCap_le_maxLen w (⟨l.toArray⟩ : ByteArray).size 0 E (by rw [Rh]; exact hl)
  rw [Rh] at hge hle hrun
  generalize hcap : grownCap w l.length 0 E = cap at hrun hge hle
  refine Qi.val ho hd (v := .slice (some ⟨w.heap.size, 0, none⟩) l.length cap) (fun o hop => ?_) (next w.heap.size cap (w.drew.alloc (.cells (bytesRow ⟨l.toArray⟩ cap) E ((bytesRow ⟨l.toArray⟩ cap).size, (bytesRow ⟨l.toArray⟩ cap).size + 1)))
    (hs.push (e := rdE eU8 (some ⟨w.heap.size, 0, none⟩) cap l) ?_ ?_ ?_) hge)
  · unfold execOp; rw [hop]
    simp only [hx, Sem.run_bind, hrun, Result.andThen_ok]
    rfl
  · exact (Below.refl _ _).drew.alloc (Nat.le_refl _) _
  · refine ⟨by rw [Vz], hge, hle, fun hn => ⟨w.heap.size, 0, rfl, by simp, fun j u hu => ?_⟩⟩
    have hj : j < l.length := by
      have := (List.getElem?_eq_some_iff.1 hu).1
      rw [Vz] at this
      simpa [eU8] using this
    rw [Nat.zero_add]
    refine (cell_of_row _ w.heap.size j _ E _ (heap_alloc_new w.drew _)).trans ?_
    rw [Ob] at hu
    rw [← hu]
    unfold bytesRow
    rw [Array.getElem?_append_left (by simpa using hj)]
    simp
  · intro q hq
    have : q = w.heap.size := by simpa [rdE] using hq
    subst this
    simp
theorem Jj {f : FuncId} {fo : Operand} {xs : Array Operand} {tys : Array TypeId} {first captured : Array Value} {args : List Value} (ho : D3 (Qm B p) k ρ = some (.call { callee := .value fo, args := xs, argTypes := tys }, d)) (hd : Ji n d = true)
    (hf : opv ρ fo = .func (.func f) first captured) (hargs : first.toList ++ xs.toList.map (opv ρ) ++ captured.toList = args) (hcf : ∀ (args : Array Value) (w : World), (callFunc f args).run P w = .ok (.enter f args) w)
    {R : Ending → World → Prop} (hc : Calls P f args.toArray w R) (next : ∀ e w', R e w' → ∃ v, e = .returned v ∧ K (G4 ρ d v) w') : Qi P n B p k K ρ w := by
  refine Qi.call ho hd (f := f) (args := args.toArray) (fun o hop => ?_) hc next
  unfold execOp; rw [hop]
  have : first ++ xs.map (opv ρ) ++ captured = args.toArray := by
    rw [← hargs]
    apply Array.ext'
    simp
  simp only [resolve, hf, Deferred.ofValue, Sem.run_bind, Sem.run_pure, Result.andThen_ok, invoke, this, hcf]
end
end Go.Proofs.YtmgfanhcdfobhaaGreatDoor
namespace Go.Proofs.YtmgfanhcdfobhaaGreatDoor
open Go.RowKit
def H7 (ρ : Fr) : List (Nat × Value) → Fr
  | [] => ρ
  | (d, v) :: l => H7 (upd ρ d v) l
def V6 (ρ : Fr) : List (Nat × Value) → Prop
  | [] => True
  | (d, v) :: l => ρ d = v ∧ V6 ρ l
theorem Qv {ρ : Fr} : ∀ {l : List (Nat × Value)}, V6 ρ l → H7 ρ l = ρ
  | [], _ => rfl
  | (d, v) :: l, h => by
    show H7 (upd ρ d v) l = ρ
    rw [Kg h.1]
    exact Qv h.2
def Zt (k : IntKind) (a b : Int) : Int := k.wrap (BitVec.ofInt k.bits a &&& BitVec.ofInt k.bits b).toNat
def bOr (k : IntKind) (a b : Int) : Int := k.wrap (BitVec.ofInt k.bits a ||| BitVec.ofInt k.bits b).toNat
def V7 (k : IntKind) (a b : Int) : Int := k.wrap (BitVec.ofInt k.bits a ^^^ BitVec.ofInt k.bits b).toNat
def R8 (k : IntKind) (a b : Int) : Int := k.wrap (BitVec.ofInt k.bits a &&& ~~~BitVec.ofInt k.bits b).toNat
def Ns (k : IntKind) (a b : Int) : Int := k.wrap (a * 2 ^ (min b.toNat k.bits))
def Nm (k : IntKind) (a b : Int) : Int := a.fdiv (2 ^ (min b.toNat k.bits))
def Bc (e : Int) : UInt8 := UInt8.ofNat e.toNat
theorem D5 {e : Int} (h : 0 ≤ e ∧ e < 256) : ((Bc e).toNat : Int) = e := by
  unfold Bc
  have : e.toNat < 256 := by omega
  rw [UInt8.toNat_ofNat_of_lt' this]
  omega
theorem Ec (x : Int) : 0 ≤ IntKind.wrap .u8 x ∧ IntKind.wrap .u8 x < 256 := by
  unfold IntKind.wrap
  simp only [IntKind.bits, IntKind.signed]
  have h1 := Int.emod_nonneg x (b := 256) (by omega)
  have h2 := Int.emod_lt_of_pos x (b := 256) (by omega)
  simp
  omega
theorem u8_or (a b : Int) : 0 ≤ bOr .u8 a b ∧ bOr .u8 a b < 256 := Ec _
theorem u8_xor (a b : Int) : 0 ≤ V7 .u8 a b ∧ V7 .u8 a b < 256 := Ec _
theorem Gs {e : Int} {c : UInt8} {t : List Value} {l : List UInt8} (h : (c.toNat : Int) = e ∨ (c = Bc e ∧ (0 ≤ e ∧ e < 256))) (ht : t = Qd eU8 l) : (Value.int .u8 e) :: t = Qd eU8 (c :: l) := by
  rw [U2, ← ht]
  rcases h with h | ⟨rfl, h⟩
  · subst h; rfl
  · show _ = [Value.int .u8 ((Bc e).toNat : Int)] ++ t
    rw [D5 h]
    rfl
theorem Be {n : Nat} (h : Nat.ble n 281474976710656 = true) : n ≤ maxLen := by
  have := Nat.le_of_ble_eq_true h
  unfold maxLen
  omega
theorem I5 {n : Nat} (h : Nat.ble n 2147483648 = true) : n ≤ maxLen := by
  have := Nat.le_of_ble_eq_true h
  unfold maxLen
  omega
def K8 (es : List Ent) : List Nat → List Ent
  | [] => []
  | i :: l => match es[i]? with | some e => e :: K8 es l | none => K8 es l
def Ed : List Nat → Bool
  | [] => true
  | i :: l => l.all (fun j => !Nat.beq i j) && Ed l
def Zj : Nat := 18446744073709551616
section
variable {S : List Nat} {B : Nat} {w w0 : World} {es es' : List Ent}
theorem HL.apart {i j : Nat} {e f : Ent} (h : HL S B w es) (hi : es[i]? = some e) (hj : es[j]? = some f) (hij : i ≠ j) : ∀ k ∈ e.fp, k ∉ f.fp := by
  intro k hk
  refine h.other hi f ?_ k hk
  rw [List.mem_eraseIdx_iff_getElem?]
  exact ⟨j, fun h => hij h.symm, hj⟩
theorem Ch {es : List Ent} : ∀ {l : List Nat} {f : Ent}, f ∈ K8 es l → ∃ j ∈ l, es[j]? = some f
  | [], f, h => by simp [K8] at h
  | i :: l, f, h => by
    unfold K8 at h
    split at h
    · rename_i e he
      rcases List.mem_cons.1 h with rfl | h
      · exact ⟨i, by simp, he⟩
      · obtain ⟨j, hj, hf⟩ := Ch h
        exact ⟨j, List.mem_cons_of_mem _ hj, hf⟩
    · obtain ⟨j, hj, hf⟩ := Ch h
      exact ⟨j, List.mem_cons_of_mem _ hj, hf⟩
theorem HL.sel (h : HL S B w es) : ∀ {l : List Nat}, Ed l = true → HL S B w (K8 es l)
  | [], _ => trivial
  | i :: l, hn => by
    simp only [Ed, Bool.and_eq_true, List.all_eq_true, Bool.not_eq_true'] at hn
    unfold K8
    cases hi : es[i]? with
    | none => exact h.sel hn.2
    | some e =>
      have he := h.get hi
      refine ⟨he.1, fun k hk => ⟨(he.2 k hk).1, (he.2 k hk).2, fun f hf => ?_⟩, h.sel hn.2⟩
      obtain ⟨j, hj, hfj⟩ := Ch hf
      refine h.apart hi hfj (fun hij => ?_) k hk
      have := hn.1 j hj
      subst hij
      rw [Nat.beq_refl] at this
      cases this
theorem SP.sel (h : SP S w0 w es) (l : List Nat) (hn : Ed l = true) (he : es' = K8 es l) : SP S w0 w es' := by
  subst he
  exact ⟨h.mod, h.own.sel hn⟩
end
section
variable {β : Type}
theorem ct {b : Bool} {x y : Option β} {r : β} (h : cond b x y = some r) (hb : b = true) : x = some r := by subst hb; exact h
theorem cf {b : Bool} {x y : Option β} {r : β} (h : cond b x y = some r) (hb : b = false) : y = some r := by subst hb; exact h
theorem Zk {α : Type} {x : α} {K : α → Option β} {r : β} (h : (some x).bind K = some r) : ∃ z, x = z ∧ K z = some r := ⟨x, rfl, h⟩
theorem Fj {w w' : World} {g : Nat} {o : Obj} (h : w.heap[g]? = some o) (hb : Below w.heap.size w w') : w'.heap[g]? = some o := (hb.block g (Array.getElem?_eq_some_iff.1 h).1).trans h
theorem Qe {x r : β} (h : some x = some r) : r = x := (Option.some.inj h).symm
end
section
variable {P : Program} {n : Nat} {Q : H1} {ρ : Fr} {w : World} {B : Code} {p : List Bool} {k : Nat} {K : Fr → World → Prop}
theorem At.known (l : List (Nat × Value)) (h : V6 ρ l) (next : At P n B p Q (H7 ρ l) w) : At P n B p Q ρ w := by
  rw [Qv h] at next
  exact next
theorem In.run' {k' : Nat} (m : Nat) (hk : k' = k + m) (l : List (Nat × Value)) (h : R7 P n (Q5 (Qm B p)) (((Q5 (Qm B p)).toList.drop k).take m) ρ w = some (H7 ρ l, w))
    (next : In P n B p k' Q (H7 ρ l) w) : In P n B p k Q ρ w := In.run m hk (H7 ρ l) h next
theorem Qi.shift {d : Option Nat} {op : BinOp} {T T' : TypeId} {x y : Operand} {kx ky : IntKind} {a b : Int} {v : Value} (ho : D3 (Qm B p) k ρ = some (.binOp op T x y T', d)) (hd : Ji n d = true)
    (hx : opv ρ x = .int kx a) (hy : opv ρ y = .int ky b) (h0 : 0 ≤ b) (hv : (match op with | .shl => some (Value.int kx (Ns kx a b)) | .shr => some (.int kx (Nm kx a b)) | _ => none) = some v)
    (next : K (G4 ρ d v) w) : Qi P n B p k K ρ w := by
  refine Qi.val ho hd (fun o hop => ?_) next
  unfold execOp; rw [hop]
  simp only [hx, hy]
  cases op <;> first | (cases hv; done) | skip
  all_goals
    injection hv with hv
    subst hv
    simp [eqGuard, Go.binOp, Op.shift, show ¬ b < 0 by omega, Ns, Nm]
theorem In.known (l : List (Nat × Value)) (h : V6 ρ l) (next : In P n B p k Q (H7 ρ l) w) : In P n B p k Q ρ w := by
  rw [Qv h] at next
  exact next
theorem Bn {α : Type} {e : Enc α} {S : List Nat} {w0 : World} {es : List Ent} {i b off c : Nat} {d : Option Nat} {t E : TypeId} {x y : Operand} {A : Option Addr} {l : List α} {iz : Int} {v : Value} {x' : α}
    (ho : D3 (Qm B p) k ρ = some (.store t x y, d)) (hd : Ji n d = true) (hx : opv ρ x = .pointer (some ⟨b, off + iz.toNat * e.sz, none⟩)) (hy : opv ρ y = v)
    (hs : SP S w0 w es) (hi : es[i]? = some (Yc E e A c l)) (hA : A = some ⟨b, off, none⟩) (hz : e.sz = 1) (h1 : iz < (l.length : Int)) (h0 : 0 ≤ iz) (hv : e.enc x' = [v]) (ht : (P.info? t).map (·.size) = some 1)
    (next : ∀ w' : World, SP S w0 w' (es.set i (Yc E e A c (l.set iz.toNat x'))) → K (G4 ρ d undef) w') : Qi P n B p k K ρ w := by
  subst hy hA
  have hown : w.ownsRow 0 E e.sz (.slice (some ⟨b, off, none⟩) l.length c) l.length (Qd e l) := hs.get hi
  have hoff : off = 0 := by
    rcases hown.2 with ⟨hn, _⟩ | ⟨g, cap, cur, hn, _⟩
    · cases hn
    · injection hn with h1 _ _
      injection h1 with h1
      injection h1
  subst hoff
  have hlt : iz.toNat < l.length := by omega
  have hcellx : ∃ u, w.cell? ⟨b, iz.toNat, none⟩ = some u := by
    have := World.ownsRow.cellAt (g := b) (cap := c) hown iz.toNat (by rw [hz]; omega)
    rw [this]
    have hlen := Vz e l
    exact ⟨_, List.getElem?_eq_getElem (by rw [hlen, hz]; omega)⟩
  obtain ⟨u0, hu0⟩ := hcellx
  have hfr := World.ownsRow.frozenAt (g := b) (cap := c) hown iz.toNat
  obtain ⟨h2, h3⟩ := World.ownsRow.stored (g := b) (cap := c) hown iz.toNat (opv ρ y)
  have hone := e.one x' (opv ρ y) (by rw [hv]; simp)
  have hset : (Qd e l).set iz.toNat (opv ρ y) = Qd e (l.set iz.toNat x') := by
    have := H6 e l iz.toNat x' hlt
    rw [hz, Nat.mul_one, hv] at this
    rw [← this, List.set_eq_take_append_cons_drop, if_pos (by rw [Vz, hz]; omega)]
    simp
  have h2' : (Yc E e (some ⟨b, 0, none⟩) c (l.set iz.toNat x')).ok (w.setCell ⟨b, iz.toNat, none⟩ (opv ρ y)) := by
    show World.ownsRow _ 0 E e.sz (.slice (some ⟨b, 0, none⟩) (l.set iz.toNat x').length c) (l.set iz.toNat x').length (Qd e (l.set iz.toNat x'))
    rw [List.length_set, ← hset]
    exact h2
  refine Fi ho hd (w' := w.setCell ⟨b, iz.toNat, none⟩ (opv ρ y)) (fun o hop => ?_) (next _ (hs.set hi (T := [b]) (Hl h3 (fun q hq => by injection hq with hq; simp [hq])) (fun q hq => ?_) h2' fun q hq => ?_))
  · have hcs : (opv ρ y).cells = #[opv ρ y] := by
      cases hvv : opv ρ y <;> first | rfl | (rw [hvv] at hone; cases hone)
    cases hi' : P.info? t with
    | none => rw [hi'] at ht; cases ht
    | some ii =>
      rw [hi'] at ht
      have ht : ii.size = 1 := by simpa using ht
      have hsz : (sizeOf t).run P w = .ok 1 w := by simp [sizeOf, typeInfo, hi', ht]
      have hst : (Go.store ⟨b, iz.toNat, none⟩ (opv ρ y)).run P w = .ok () (w.setCell ⟨b, iz.toNat, none⟩ (opv ρ y)) := by
        cases hvv : opv ρ y <;> first | (rw [hvv] at hone; cases hone; done) | (simp [Go.store, Sem.run, hu0, hfr])
      unfold execOp; rw [hop]
      rw [hz, Nat.zero_add, Nat.mul_one] at hx
      have hadd : (⟨b, iz.toNat, none⟩ : Addr).add 0 = ⟨b, iz.toNat, none⟩ := by simp [Addr.add]
      simp only [hx, Instr.storeAt, Instr.sureAddr, Sem.run_bind, Sem.run_pure, Result.andThen_ok, storeVar, hsz, hcs]
      simp [storeCells, hadd, hst, Sem.run_bind]
  · simpa [Yc, row, Value.ownBlock] using hq
  · have hq' : q = b := by simpa [Yc, row, Value.ownBlock] using hq
    subst hq'
    refine ⟨.inl (by simp [Yc, row, Value.ownBlock]), ?_⟩
    have := (World.ownsRow.lt hown q (by simp [Value.ownBlock])).2
    simpa [World.setCell] using this
theorem I6 {t t' : TypeId} {x : Operand} {g off : Nat} {d : Option Nat} {cs : Array Value} {v : Value} (ho : D3 (Qm B p) k ρ = some (.load t x, d)) (hd : Ji n d = true)
    (hv : opv ρ x = .pointer (some ⟨g, off, none⟩)) {fr : Nat × Nat} (hg : w.heap[g]? = some (.cells cs t' fr)) (hl : Oy P t off cs = some v)
    (next : K (G4 ρ d v) w) : Qi P n B p k K ρ w := by
  refine Qi.val ho hd (fun o hop => ?_) next
  have := F3 (w := w) hl hg
  unfold execOp; rw [hop]
  simp only [hv, Instr.loadAt, Instr.sureAddr, Sem.run_bind, Sem.run_pure, Result.andThen_ok, this]
theorem In.guard {t : Nat} {b : Bool} (h : ρ t = .bool b) (h1 : b = true → In P n B p k Q (upd ρ t (.bool true)) w) (h2 : b = false → In P n B p k Q (upd ρ t (.bool false)) w) : In P n B p k Q ρ w := by
  cases b
  · have := h2 rfl
    rw [Kg h] at this
    exact this
  · have := h1 rfl
    rw [Kg h] at this
    exact this
end
end Go.Proofs.YtmgfanhcdfobhaaGreatDoor
namespace Go.Proofs.YtmgfanhcdfobhaaGreatDoor
open Go.RowKit
def I7 (ops : Array Oper) (size : Nat) : Bool :=
  let ds := ops.toList.filterMap (·.dst)
  ds.all (fun d => decide (d < size)) && decide ds.Nodup
theorem nodup_idx : ∀ (l : List Oper), (l.filterMap (·.dst)).Nodup → ∀ (i j : Nat) (o p : Oper) (d : Tmp), l[i]? = some o → l[j]? = some p → o.dst = some d → p.dst = some d → i = j := by
  intro l
  induction l with
  | nil => intro _ i j o p d h; simp at h
  | cons x r ih =>
    intro hn i j o p d hi hj ho hp
    have hmem : ∀ (k : Nat) (q : Oper), r[k]? = some q → q.dst = some d → d ∈ r.filterMap (·.dst) := fun k q hk hq =>
      List.mem_filterMap.2 ⟨q, List.mem_of_getElem? hk, hq⟩
    cases hx : x.dst with
    | none =>
      rw [List.filterMap_cons_none hx] at hn
      cases i with
      | zero => simp at hi; subst hi; rw [hx] at ho; cases ho
      | succ i =>
        cases j with
        | zero => simp at hj; subst hj; rw [hx] at hp; cases hp
        | succ j => simp at hi hj; rw [ih hn i j o p d hi hj ho hp]
    | some e =>
      rw [List.filterMap_cons_some hx] at hn
      have hn' := List.nodup_cons.1 hn
      cases i with
      | zero =>
        simp at hi; subst hi
        rw [hx] at ho; injection ho with ho; subst ho
        cases j with
        | zero => rfl
        | succ j => simp at hj; exact absurd (hmem j p hj hp) hn'.1
      | succ i =>
        cases j with
        | zero =>
          simp at hj; subst hj
          rw [hx] at hp; injection hp with hp; subst hp
          simp at hi
          exact absurd (hmem i o hi ho) hn'.1
        | succ j => simp at hi hj; rw [ih hn'.2 i j o p d hi hj ho hp]
section
variable {P : Program} {ops : Array Oper} {Q : Exit → Act → World → Prop} {a0 : Act} {w0 : World} {G : World → World → Prop} {R : Nat → Value → World → Prop}
def Still (ops : Array Oper) (t : Tmp) : Prop := ∀ o ∈ ops.toList, o.dst ≠ some t
theorem Ki {a : Act} {d : Tmp} {v : Value} (h : d < a.tmps.size) : (a.put (some d) v).eval (.tmp d) = v := by
  simp [Act.put, Act.eval, h]
theorem Df {a : Act} {x : Option Tmp} {t : Tmp} {v : Value} (h : x ≠ some t) : (a.put x v).eval (.tmp t) = a.eval (.tmp t) := by
  cases x with
  | none => rfl
  | some d =>
    have : d ≠ t := fun e => h (by rw [e])
    simp [Act.put, Act.eval, Array.getElem?_setIfInBounds_ne this]
theorem ready_mem {listed : Array Bool} {i : Nat} (hs : listed.size = ops.size) (h : i ∈ Region.ready .any ops listed) :
    ∃ o, ops[i]? = some o ∧ ∀ e ∈ o.after.toList, Region.binds .any e = true → listed.getD e.on false = true := by
  unfold Region.ready at h
  simp only [List.mem_filter, List.mem_range, Bool.and_eq_true] at h
  obtain ⟨hi, _, h2⟩ := h
  have hsome : ops[i]? = some ops[i] := Array.getElem?_eq_getElem hi
  refine ⟨ops[i], hsome, fun e he hb => ?_⟩
  rw [hsome] at h2
  simp only [Option.map_some, Option.getD_some, Array.all_eq_true] at h2
  obtain ⟨k, hk, hek⟩ := List.mem_iff_getElem.1 he
  have := h2 k (by simpa using hk)
  rw [Array.getElem_toList] at hek
  rw [hek, hb] at this
  simpa using this
def Kj (ops : Array Oper) : Bool := ops.toList.zipIdx.all fun (o, i) => o.after.all fun e => !Region.binds .any e || decide (e.on < i)
theorem full_of (h : Kj ops = true) : ∀ listed : Array Bool, listed.size = ops.size → Region.ready .any ops listed = [] → ∀ j, j < ops.size → listed.getD j false = true := by
  intro listed hs hr j
  induction j using Nat.strongRecOn with
  | ind j ih =>
    intro hj
    cases hl : listed.getD j false with
    | true => rfl
    | false =>
      exfalso
      have hj' : j < listed.size := by omega
      have hmem : j ∈ Region.ready .any ops listed := by
        unfold Region.ready
        simp only [List.mem_filter, List.mem_range, Bool.and_eq_true]
        have hsome : ops[j]? = some ops[j] := Array.getElem?_eq_getElem hj
        refine ⟨hj, ?_, ?_⟩
        · have : listed[j] = false := by simpa [Array.getD, hj'] using hl
          simp [Array.getD, hj', this]
        · rw [hsome]
          simp only [Option.map_some, Option.getD_some, Array.all_eq_true]
          intro k hk
          unfold Kj at h
          rw [List.all_eq_true] at h
          have hz := h (ops[j], j) (by
            rw [List.mem_iff_getElem?]
            exact ⟨j, by rw [List.getElem?_zipIdx]; simp [Array.getElem?_toList, hsome]⟩)
          simp only [Array.all_eq_true] at hz
          have := hz k hk
          simp only [Bool.or_eq_true, Bool.not_eq_true', decide_eq_true_eq] at this ⊢
          rcases this with this | this
          · exact .inl this
          · exact .inr (ih _ this (by omega))
      rw [hr] at hmem
      cases hmem
end
end Go.Proofs.YtmgfanhcdfobhaaGreatDoor
namespace Go.Proofs.YtmgfanhcdfobhaaGreatDoor
open Go.RowKit
def Fk (ops : Array Oper) (t : Nat) : Bool := ops.toList.all fun o => match o.dst with | some d => !Nat.beq d t | none => true
def Fl (ops : Array Oper) (i j d : Nat) : Bool :=
  match ops[i]?, ops[j]? with
  | some o, some q => o.after.toList.any (fun e => Nat.beq e.on j && Region.binds .any e) && (match q.dst with | some x => Nat.beq x d | none => false)
  | _, _ => false
def dstAt (ops : Array Oper) (j d : Nat) : Bool := match ops[j]? with | some q => (match q.dst with | some x => Nat.beq x d | none => false) | none => false
def Rl : List (Value → World → Prop) → Nat → Value → World → Prop
  | [], _ => fun _ _ => True
  | x :: _, 0 => x
  | _ :: l, j + 1 => Rl l j
def FEq (u : Value) : Value → World → Prop := fun v _ => v = u
def Obs : Nat → (Nat → Prop) → Prop
  | 0, _ => True
  | k + 1, Φ => Obs k Φ ∧ Φ k
theorem obs_get {Φ : Nat → Prop} : ∀ {k : Nat}, Obs k Φ → ∀ i, i < k → Φ i
  | 0, _, i, h => absurd h (by omega)
  | k + 1, ho, i, h => by
    by_cases hk : i = k
    · subst hk; exact ho.2
    · exact obs_get ho.1 i (by omega)
def Dy (ops : Array Oper) (i : Nat) : Option Nat := (ops[i]?).bind (·.dst)
section
variable {P : Program} {n : Nat} {Q : H1} {ρ : Fr} {w : World} {B : Code} {p : List Bool}
def Owes (P : Program) (n : Nat) (B : Code) (p : List Bool) (ρ : Fr) (w : World) (l : List (Value → World → Prop)) (i : Nat) : Prop :=
  ∀ (ρ' : Fr) (w' : World), Below w.heap.size w w' → (∀ t, Fk (Q5 (Qm B p)) t = true → ρ' t = ρ t) → (∀ j d, Fl (Q5 (Qm B p)) i j d = true → Rl l j (ρ' d) w') →
    Qi P n B p i (fun ρ'' w'' => Below w'.heap.size w' w'' ∧ ∃ v, ρ'' = G4 ρ' (Dy (Q5 (Qm B p)) i) v ∧ Rl l i v w'') ρ' w'
theorem Hn {ops : Array Oper} {t : Nat} (h : Fk ops t = true) : Still ops t := by
  intro o ho hd
  unfold Fk at h
  rw [List.all_eq_true] at h
  have := h o ho
  rw [hd] at this
  simp at this
theorem fa_of {a : Act} (h1 : a.defers = []) (h2 : a.tmps.size = n) : FA n (fun t => a.tmps.getD t undef) a := ⟨h1, h2, fun _ => rfl⟩
theorem Q3 {Q : H1} (l : List (Nat × Value)) (h : V6 ρ l) (next : Q .normal (H7 ρ l) w) : Q .normal ρ w := by
  rw [Qv h] at next
  exact next
theorem Qi.known {k : Nat} {K : Fr → World → Prop} (l : List (Nat × Value)) (h : V6 ρ l) (next : Qi P n B p k K (H7 ρ l) w) : Qi P n B p k K ρ w := by
  rw [Qv h] at next
  exact next
end
theorem Qi.run {P : Program} {n : Nat} {ρ : Fr} {w : World} {B : Code} {p : List Bool} {k : Nat} {K : Fr → World → Prop} {v : Value}
    (h : R7 P n (Q5 (Qm B p)) (((Q5 (Qm B p)).toList.drop k).take 1) ρ w = some (G4 ρ (Dy (Q5 (Qm B p)) k) v, w)) (next : K (G4 ρ (Dy (Q5 (Qm B p)) k) v) w) : Qi P n B p k K ρ w := by
  intro a ha Q'
  cases ho : (Q5 (Qm B p))[k]? with
  | none =>
    unfold wpOp
    rw [ho]
    have hd : Dy (Q5 (Qm B p)) k = none := by simp [Dy, ho]
    rw [hd] at next
    exact ⟨ρ, ha, next⟩
  | some o =>
    rw [K4 ho] at h
    have ht : (o :: (Q5 (Qm B p)).toList.drop (k + 1)).take 1 = [o] := by simp
    rw [ht] at h
    unfold wpOp
    rw [ho]
    simp only [R7] at h
    cases hdst : Ji n o.dst with
    | false => rw [hdst] at h; cases h
    | true =>
      rw [hdst] at h
      simp only at h
      simp only [Br ha o]
      cases hw : D2 (Q5 (Qm B p)) ρ o with
      | false =>
        rw [hw] at h
        simp only [Option.some.injEq, Prod.mk.injEq] at h
        simp only [Bool.false_eq_true, if_false]
        refine ⟨_, ha.putO hdst undef, ?_⟩
        rw [h.1]
        exact next
      | true =>
        rw [hw] at h
        simp only at h
        simp only [if_true]
        refine .inl ?_
        unfold Oper.wp
        rw [ha.eval]
        cases hr : (execOp (opv ρ) o).run P w with
        | halt x w1 => rw [hr] at h; cases h
        | ok nx w1 =>
          rw [hr] at h
          cases nx <;> first | (cases h; done) | skip
          · simp only [Option.some.injEq, Prod.mk.injEq] at h
            obtain ⟨h1, rfl⟩ := h
            refine ⟨_, ha.putO hdst _, ?_⟩
            rw [h1]
            exact next
          · simp only [Option.some.injEq, Prod.mk.injEq] at h
            obtain ⟨h1, rfl⟩ := h
            refine ⟨_, ha.putO hdst _, ?_⟩
            rw [h1]
            exact next
theorem Qa {ρ : Fr} {l : List (Nat × Value)} {d : Option Nat} {v : Value} (h : V6 ρ l) : G4 (H7 ρ l) d v = G4 ρ d v := by rw [Qv h]
def Src1 (ops : Array Oper) (i : Nat) (l : List (Value → World → Prop)) (ρ : Fr) (t : Nat) (v : Value) : Prop :=
  (Fk ops t = true ∧ ρ t = v) ∨ ∃ j, Fl ops i j t = true ∧ Rl l j = FEq v
def SrcOk (ops : Array Oper) (i : Nat) (l : List (Value → World → Prop)) (ρ : Fr) : List (Nat × Value) → Prop
  | [] => True
  | x :: r => Src1 ops i l ρ x.1 x.2 ∧ SrcOk ops i l ρ r
theorem K9 {ops : Array Oper} {i : Nat} {l : List (Value → World → Prop)} {ρ ρ' : Fr} {w' : World} (hs : ∀ t, Fk ops t = true → ρ' t = ρ t) (ha : ∀ j d, Fl ops i j d = true → Rl l j (ρ' d) w') :
    ∀ src : List (Nat × Value), SrcOk ops i l ρ src → V6 ρ' src
  | [], _ => trivial
  | x :: r, h => by
    refine ⟨?_, K9 hs ha r h.2⟩
    rcases h.1 with ⟨h1, h2⟩ | ⟨j, h1, h2⟩
    · exact (hs _ h1).trans h2
    · have := ha j x.1 h1
      rw [h2] at this
      exact this
theorem Owes.skip {P : Program} {n : Nat} {B : Code} {p : List Bool} {ρ : Fr} {w : World} {l : List (Value → World → Prop)} {i : Nat} (src : List (Nat × Value)) (hsrc : SrcOk (Q5 (Qm B p)) i l ρ src) (d : Option Nat)
    (h : ∀ (ρ' : Fr), (Q5 (Qm B p))[i]?.map (fun o => (D2 (Q5 (Qm B p)) (H7 ρ' src) o, o.dst)) = some (false, d)) (hd : Ji n d = true) (hR : ∀ w, Rl l i undef w) : Owes P n B p ρ w l i := by
  intro ρ' w' hk hs hah
  have hkn := K9 hs hah src hsrc
  have hdd : Dy (Q5 (Qm B p)) i = d := by
    have := h ρ'
    unfold Dy
    cases ho : (Q5 (Qm B p))[i]? with
    | none => rw [ho] at this; cases this
    | some o => rw [ho] at this; simp only [Option.map_some, Option.some.injEq, Prod.mk.injEq] at this; exact this.2
  refine Qi.known src hkn ?_
  exact M9 (h ρ') hd ⟨Below.refl _ _, undef, by rw [hdd]; exact Qa hkn, hR _⟩
theorem H8 (p : Prop) [Decidable p] (X : Bool) (w : World) : (if p then Result.ok (Value.bool X) w else Result.ok (Value.bool false) w) = Result.ok (Value.bool (decide p && X)) w := by
  by_cases h : p <;> simp [h]
theorem F5 (p : Prop) [Decidable p] (X : Bool) (w : World) : (if p then Result.ok (Value.bool (!X)) w else Result.ok (Value.bool true) w) = Result.ok (Value.bool (!(decide p && X))) w := by
  by_cases h : p <;> simp [h]
theorem E4 (p : Prop) [Decidable p] (w : World) : (if p then Result.ok (Value.bool false) w else Result.ok (Value.bool true) w) = Result.ok (Value.bool (!decide p)) w := by
  by_cases h : p <;> simp [h]
theorem F6 {α : Type} [BEq α] [LawfulBEq α] [DecidableEq α] (a b : α) : (a == b) = decide (a = b) := by
  by_cases h : a = b <;> simp [h]
theorem Fm {P : Program} {n : Nat} {ρ : Fr} {w : World} {B : Code} {p : List Bool} {k : Nat} {K : Fr → World → Prop} {d : Option Nat} {op : BinOp} {T T' : TypeId} {x y : Operand} {vx vy v : Value}
    (ho : D3 (Qm B p) k ρ = some (.binOp op T x y T', d)) (hd : Ji n d = true) (hx : opv ρ x = vx) (hy : opv ρ y = vy)
    (hrun : ∀ w : World, Sem.run P (do eqGuard op T x y vx vy; Go.binOp op T vx vy) w = .ok v w) (next : K (G4 ρ d v) w) : Qi P n B p k K ρ w := by
  refine Qi.val ho hd (fun o hop => ?_) next
  unfold execOp; rw [hop]
  subst hx hy
  have := hrun w
  simp only [Sem.run_bind] at this ⊢
  rw [this]
  rfl
def rvS (ρ : Fr) : ResultVar → Sem Value
  | .tmp t => pure (ρ t)
  | .cell a t => do loadVar t (← asAddr (ρ a))
theorem R4 {P : Program} {ρ : Fr} {w : World} {t : Nat} {v : Value} (h : ρ t = v) : (rvS ρ (.tmp t)).run P w = .ok v w := by subst h; rfl
theorem J4 {P : Program} {ρ : Fr} {w : World} {a t g off : Nat} {cs : Array Value} {e : TypeId} {fr : Nat × Nat} {v : Value} (h : ρ a = .pointer (some ⟨g, off, none⟩)) (hg : w.heap[g]? = some (.cells cs e fr)) (hl : Oy P t off cs = some v) : (rvS ρ (.cell a t)).run P w = .ok v w := by
  simp only [rvS, h, asAddr, Sem.run_bind, Sem.run_pure, Result.andThen_ok]
  exact F3 hl hg
theorem Bs {P : Program} {fn : Func} {ρ : Fr} {w : World} {x : ResultVar} {v : Value} (h : fn.results = #[x]) (hx : (rvS ρ x).run P w = .ok v w) : (Dv fn ρ).run P w = .ok v w := by
  have : Dv fn ρ = (do let vs ← #[x].mapM (rvS ρ); pure (if h : vs.size = 1 then vs[0] else .tuple vs)) := by
    unfold Dv; rw [h]; congr 1
  rw [this]
  simp [hx, Sem.run_bind, Result.andThen]
theorem C2 {P : Program} {fn : Func} {ρ : Fr} {w : World} {x y : ResultVar} {v u : Value} (h : fn.results = #[x, y]) (hx : (rvS ρ x).run P w = .ok v w) (hy : (rvS ρ y).run P w = .ok u w) : (Dv fn ρ).run P w = .ok (.tuple #[v, u]) w := by
  have : Dv fn ρ = (do let vs ← #[x, y].mapM (rvS ρ); pure (if h : vs.size = 1 then vs[0] else .tuple vs)) := by
    unfold Dv; rw [h]; congr 1
  rw [this]
  simp [hx, hy, Sem.run_bind, Result.andThen]
end Go.Proofs.YtmgfanhcdfobhaaGreatDoor
namespace Go.Proofs.YtmgfanhcdfobhaaGreatDoor
open Go.RowKit
abbrev Stg := List Nat × (List Value → World → Prop)
def La (ops : Array Oper) (ρ : Fr) (h : Nat) : Value := match Dy ops h with | some d => ρ d | none => undef
def insN (i : Nat) : List Nat → List Nat
  | [] => [i]
  | x :: l => match Nat.ble i x with | true => i :: x :: l | false => x :: insN i l
theorem Kk {i h : Nat} : ∀ {l : List Nat}, h ∈ insN i l ↔ h = i ∨ h ∈ l
  | [] => by simp [insN]
  | x :: l => by
    unfold insN
    cases Nat.ble i x
    · simp only [List.mem_cons, Kk (l := l)]
      constructor
      · rintro (h | h | h) <;> simp [h]
      · rintro (h | h | h) <;> simp [h]
    · simp only [List.mem_cons]
def C3 (x : Nat) : List Nat → Bool
  | [] => false
  | y :: l => match Nat.beq x y with | true => true | false => C3 x l
theorem Ci {x : Nat} : ∀ {l : List Nat}, C3 x l = true ↔ x ∈ l
  | [] => by simp [C3]
  | y :: l => by
    unfold C3
    cases hb : Nat.beq x y
    · simp only [Ci (l := l), List.mem_cons]
      constructor
      · exact .inr
      · rintro (rfl | h)
        · rw [Nat.beq_refl] at hb; cases hb
        · exact h
    · simp [Nat.eq_of_beq_eq_true hb]
def Lb (ops : Array Oper) (i : Nat) : List Nat := match ops[i]? with | some o => (o.after.toList.filter (fun e => Region.binds .any e)).map (·.on) | none => []
def Lc (ops : Array Oper) : Nat → List Nat → List Nat → List Nat
  | 0, _, acc => acc
  | _ + 1, [], acc => acc
  | m + 1, i :: todo, acc => match C3 i acc with | true => Lc ops m todo acc | false => Lc ops m (Lb ops i ++ todo) (i :: acc)
def Gm (listed : Array Bool) (i : Nat) : Prop := listed.getD i false = true
def Closed (ops : Array Oper) (listed : Array Bool) : Prop := ∀ i, Gm listed i → ∀ j ∈ Lb ops i, Gm listed j
theorem Dk {ops : Array Oper} {listed : Array Bool} (hc : Closed ops listed) : ∀ (m : Nat) (todo acc : List Nat), (∀ i ∈ todo, Gm listed i) → (∀ i ∈ acc, Gm listed i) → ∀ i ∈ Lc ops m todo acc, Gm listed i
  | 0, todo, acc, _, h2 => h2
  | m + 1, [], acc, _, h2 => h2
  | m + 1, x :: todo, acc, h1, h2 => by
    unfold Lc
    cases C3 x acc
    · refine Dk hc m _ _ (fun i hi => ?_) (fun i hi => ?_)
      · rcases List.mem_append.1 hi with h | h
        · exact hc x (h1 x (by simp)) i h
        · exact h1 i (by simp [h])
      · rcases List.mem_cons.1 hi with rfl | h
        · exact h1 i (by simp)
        · exact h2 i h
    · exact Dk hc m _ _ (fun i hi => h1 i (by simp [hi])) h2
def canAt (ops : Array Oper) (hv : List Nat) (M : List Nat) (i : Nat) : Bool :=
  !C3 i M && (Lc ops 4096 (Lb ops i) []).all (fun j => !C3 j hv || C3 j M) && M.all (fun h => !C3 i (Lc ops 4096 [h] []))
def Ep (ops : Array Oper) (hv : List Nat) (masks : List (List Nat)) (i : Nat) (ss : List Nat) : Bool :=
  masks.zipIdx.all fun x => !canAt ops hv x.1 i || C3 x.2 ss
def GEq (u : Value) : Value → Prop := fun v => v = u
def Ey : Value → Prop := fun _ => True
def Gl : List (Value → Prop) → Nat → Value → Prop
  | [], _ => fun _ => True
  | x :: _, 0 => x
  | _ :: l, j + 1 => Gl l j
def VL : List Value → List Value → Prop
  | [], _ => True
  | _, [] => True
  | a :: l, b :: m => a = b ∧ VL l m
section
variable {P : Program} {n : Nat} {Q : H1} {ρ : Fr} {w : World} {B : Code} {p : List Bool}
def L8 (ops : Array Oper) (l : List (Value → Prop)) (i : Nat) (ρ' : Fr) : Prop := ∀ j d, Fl ops i j d = true → Gl l j (ρ' d)
def oldB (ops : Array Oper) (i t : Nat) : Bool := Fk ops t || (List.range ops.size).any (fun j => dstAt ops j t && C3 i (Lc ops 4096 [j] []))
def H9 (ops : Array Oper) (i : Nat) (ρ ρ' : Fr) : Prop := ∀ t, oldB ops i t = true → ρ' t = ρ t
def OwesP (P : Program) (n : Nat) (B : Code) (p : List Bool) (ρ : Fr) (l : List (Value → Prop)) (i : Nat) : Prop :=
  ∀ (ρ' : Fr) (w' : World), H9 (Q5 (Qm B p)) i ρ ρ' → L8 (Q5 (Qm B p)) l i ρ' →
    Qi P n B p i (fun ρ'' w'' => w'' = w' ∧ ∃ v, ρ'' = G4 ρ' (Dy (Q5 (Qm B p)) i) v ∧ Gl l i v) ρ' w'
def OwesL (P : Program) (n : Nat) (B : Code) (p : List Bool) (ρ : Fr) (l : List (Value → Prop)) (s : Stg) (i : Nat) : Prop :=
  ∀ (ρ' : Fr) (w' : World), H9 (Q5 (Qm B p)) i ρ ρ' → L8 (Q5 (Qm B p)) l i ρ' → s.2 (s.1.map (La (Q5 (Qm B p)) ρ')) w' →
    Qi P n B p i (fun ρ'' w'' => w'' = w' ∧ ∃ v, ρ'' = G4 ρ' (Dy (Q5 (Qm B p)) i) v ∧ Gl l i v) ρ' w'
def OwesH (P : Program) (n : Nat) (B : Code) (p : List Bool) (ρ : Fr) (l : List (Value → Prop)) (s s' : Stg) (i : Nat) : Prop :=
  s'.1 = insN i s.1 ∧ ∀ (ρ' : Fr) (w' : World), H9 (Q5 (Qm B p)) i ρ ρ' → L8 (Q5 (Qm B p)) l i ρ' → s.2 (s.1.map (La (Q5 (Qm B p)) ρ')) w' →
    Qi P n B p i (fun ρ'' w'' => ∃ v, ρ'' = G4 ρ' (Dy (Q5 (Qm B p)) i) v ∧ Gl l i v ∧ s'.2 (s'.1.map (La (Q5 (Qm B p)) (G4 ρ' (Dy (Q5 (Qm B p)) i) v))) w'') ρ' w'
def U0 (S : List Stg) (k : Nat) : Stg := S.getD k ([], fun _ _ => False)
inductive Owe (P : Program) (n : Nat) (B : Code) (p : List Bool) (ρ : Fr) (l : List (Value → Prop)) (hv : List Nat) (S : List Stg) (i : Nat) : Prop
  | pure (hh : C3 i hv = false) (h : OwesP P n B p ρ l i)
  | light (hh : C3 i hv = false) (ss : List Nat) (hs : Ep (Q5 (Qm B p)) hv (S.map (·.1)) i ss = true) (h : ∀ k ∈ ss, OwesL P n B p ρ l (U0 S k) i)
  | heavy (hh : C3 i hv = true) (ss : List (Nat × Nat)) (hs : Ep (Q5 (Qm B p)) hv (S.map (·.1)) i (ss.map (·.1)) = true) (h : ∀ k ∈ ss, Nat.blt k.2 S.length = true ∧ OwesH P n B p ρ l (U0 S k.1) (U0 S k.2) i)
end
section
variable {P : Program} {ops : Array Oper} {Q : Exit → Act → World → Prop} {a0 : Act} {hv : List Nat} {S : List Stg} {l : List (Value → Prop)}
def Gg (a : Act) : Fr := fun t => a.tmps.getD t undef
structure InvS (ops : Array Oper) (hv : List Nat) (S : List Stg) (l : List (Value → Prop)) (a0 : Act) (listed : Array Bool) (a : Act) (w : World) : Prop where
  size : listed.size = ops.size
  defers : a.defers = a0.defers
  tmps : a.tmps.size = a0.tmps.size
  still : ∀ t, Still ops t → a.eval (.tmp t) = a0.eval (.tmp t)
  closed : Closed ops listed
  old : ∀ j q d, ops[j]? = some q → ¬ Gm listed j → q.dst = some d → a.eval (.tmp d) = a0.eval (.tmp d)
  facts : ∀ j q d, ops[j]? = some q → Gm listed j → q.dst = some d → Gl l j (a.eval (.tmp d))
  stage : ∃ k, k < S.length ∧ (∀ h, C3 h hv = true → (Gm listed h ↔ h ∈ (U0 S k).1)) ∧ (∀ h ∈ (U0 S k).1, C3 h hv = true) ∧ (U0 S k).2 ((U0 S k).1.map (La ops (Gg a))) w
def PutsS (ops : Array Oper) (hv : List Nat) (S : List Stg) (l : List (Value → Prop)) (k i : Nat) (o : Oper) (a : Act) (w : World) (a' : Act) (w' : World) : Prop :=
  ∃ v, a' = a.put o.dst v ∧ Gl l i v ∧
    ((C3 i hv = false ∧ w' = w) ∨ ∃ k', C3 i hv = true ∧ k' < S.length ∧ (U0 S k').1 = insN i (U0 S k).1 ∧ (U0 S k').2 ((U0 S k').1.map (La ops (Gg (a.put o.dst v)))) w')
theorem Bt {listed : Array Bool} {i j : Nat} (hi : i < listed.size) : Gm (listed.setIfInBounds i true) j ↔ j = i ∨ Gm listed j := by
  unfold Gm
  simp only [Array.getD_eq_getD_getElem?]
  by_cases h : i = j
  · subst h
    simp [hi]
  · rw [Array.getElem?_setIfInBounds_ne h]
    constructor
    · exact .inr
    · rintro (h1 | h1)
      · exact absurd h1.symm h
      · exact h1
theorem I8 {i j : Nat} {o : Oper} (ho : ops[i]? = some o) : j ∈ Lb ops i ↔ ∃ e ∈ o.after.toList, Region.binds .any e = true ∧ e.on = j := by
  unfold Lb
  rw [ho]
  simp only [List.mem_map, List.mem_filter]
  constructor
  · rintro ⟨e, ⟨h1, h2⟩, h3⟩; exact ⟨e, h1, h2, h3⟩
  · rintro ⟨e, h1, h2, h3⟩; exact ⟨e, ⟨h1, h2⟩, h3⟩
theorem invS_step {listed : Array Bool} {a a' : Act} {w w' : World} {i k : Nat} {o : Oper} (hok : I7 ops a0.tmps.size = true) (ho : ops[i]? = some o) (hready : ∀ e ∈ o.after.toList, Region.binds .any e = true → Gm listed e.on)
    (h : InvS ops hv S l a0 listed a w) (hk : k < S.length) (hk1 : ∀ h, C3 h hv = true → (Gm listed h ↔ h ∈ (U0 S k).1)) (hk2 : ∀ h ∈ (U0 S k).1, C3 h hv = true) (hk3 : (U0 S k).2 ((U0 S k).1.map (La ops (Gg a))) w)
    (hni : ¬ Gm listed i) (hp : PutsS ops hv S l k i o a w a' w') : InvS ops hv S l a0 (listed.setIfInBounds i true) a' w' := by
  obtain ⟨v, rfl, hG, hcase⟩ := hp
  have hi : i < listed.size := by rw [h.size]; exact (Array.getElem?_eq_some_iff.1 ho).1
  simp only [I7, Bool.and_eq_true, List.all_eq_true, decide_eq_true_eq] at hok
  have hmem : ∀ d, o.dst = some d → d < a.tmps.size := fun d hd => by
    rw [h.tmps]
    exact hok.1 d (List.mem_filterMap.2 ⟨o, by rw [← Array.getElem?_toList] at ho; exact List.mem_of_getElem? ho, hd⟩)
  have hne : ∀ j q d, ops[j]? = some q → q.dst = some d → j ≠ i → o.dst ≠ some d := fun j q d hq hd hji hod =>
    hji (nodup_idx _ hok.2 j i q o d (by rw [Array.getElem?_toList]; exact hq) (by rw [Array.getElem?_toList]; exact ho) hd hod)
  refine ⟨by simpa using h.size, ?_, ?_, ?_, ?_, ?_, ?_, ?_⟩
  · cases o.dst <;> simpa [Act.put] using h.defers
  · cases o.dst <;> simpa [Act.put] using h.tmps
  · intro t ht
    rw [Df (ht o (by rw [← Array.getElem?_toList] at ho; exact List.mem_of_getElem? ho))]
    exact h.still t ht
  · intro j hj q hq
    rw [Bt hi] at hj ⊢
    rcases hj with rfl | hj
    · obtain ⟨e, he, hb, rfl⟩ := (I8 ho).1 hq
      exact .inr (hready e he hb)
    · exact .inr (h.closed j hj q hq)
  · intro j q d hq hj hd
    rw [Bt hi] at hj
    rw [Df (hne j q d hq hd fun e => hj (.inl e))]
    exact h.old j q d hq (fun hl => hj (.inr hl)) hd
  · intro j q d hq hj hd
    rw [Bt hi] at hj
    by_cases hij : j = i
    · subst hij
      rw [ho] at hq; injection hq with hq; subst hq
      rw [hd, Ki (hmem d hd)]
      exact hG
    · rw [Df (hne j q d hq hd hij)]
      exact h.facts j q d hq (hj.resolve_left hij) hd
  · rcases hcase with ⟨hnh, rfl⟩ | ⟨k', hh, hk', hM, hP⟩
    · refine ⟨k, hk, fun x hx => ?_, hk2, ?_⟩
      · rw [Bt hi]
        constructor
        · rintro (rfl | h1)
          · rw [hnh] at hx; cases hx
          · exact (hk1 x hx).1 h1
        · exact fun h1 => .inr ((hk1 x hx).2 h1)
      · have e : (U0 S k).1.map (La ops (Gg (a.put o.dst v))) = (U0 S k).1.map (La ops (Gg a)) := by
          refine List.map_congr_left fun x hx => ?_
          have hxi : x ≠ i := fun e => by subst e; rw [hk2 x hx] at hnh; cases hnh
          unfold La Dy
          cases hq : ops[x]? with
          | none => rfl
          | some q =>
            simp only [Option.bind_some]
            cases hd : q.dst with
            | none => rfl
            | some d => exact Df (hne x q d hq hd hxi)
        rw [e]
        exact hk3
    · refine ⟨k', hk', fun x hx => ?_, fun x hx => ?_, hP⟩
      · rw [Bt hi, hM, Kk]
        constructor
        · rintro (rfl | h1)
          · exact .inl rfl
          · exact .inr ((hk1 x hx).1 h1)
        · rintro (rfl | h1)
          · exact .inl rfl
          · exact .inr ((hk1 x hx).2 h1)
      · rw [hM, Kk] at hx
        rcases hx with rfl | hx
        · exact hh
        · exact hk2 x hx
theorem canAt_of {listed : Array Bool} {i k : Nat} {o : Oper} (ho : ops[i]? = some o) (hc : Closed ops listed) (hready : ∀ e ∈ o.after.toList, Region.binds .any e = true → Gm listed e.on) (hni : ¬ Gm listed i)
    (hk1 : ∀ h, C3 h hv = true → (Gm listed h ↔ h ∈ (U0 S k).1)) (hk2 : ∀ h ∈ (U0 S k).1, C3 h hv = true) : canAt ops hv (U0 S k).1 i = true := by
  unfold canAt
  simp only [Bool.and_eq_true, Bool.not_eq_true', List.all_eq_true, Bool.or_eq_true]
  refine ⟨⟨?_, fun j hj => ?_⟩, fun h hh => ?_⟩
  · cases hm : C3 i (U0 S k).1 with
    | false => rfl
    | true =>
      have := Ci.1 hm
      exact absurd ((hk1 i (hk2 i this)).2 this) hni
  · cases hm : C3 j hv with
    | false => exact .inl rfl
    | true =>
      refine .inr (Ci.2 ((hk1 j hm).1 (Dk hc 4096 _ _ (fun x hx => ?_) (fun x hx => by simp at hx) j hj)))
      obtain ⟨e, he, hb, rfl⟩ := (I8 ho).1 hx
      exact hready e he hb
  · cases hm : C3 i (Lc ops 4096 [h] []) with
    | false => rfl
    | true =>
      exact absurd (Dk hc 4096 [h] [] (fun x hx => by
        have : x = h := by simpa using hx
        subst this
        exact (hk1 x (hk2 x hh)).2 hh) (fun x hx => by simp at hx) i (Ci.1 hm)) hni
theorem I9 {masks : List (List Nat)} {i k : Nat} {ss : List Nat} {M : List Nat} (h : Ep ops hv masks i ss = true) (hk : masks[k]? = some M) (hc : canAt ops hv M i = true) : k ∈ ss := by
  unfold Ep at h
  rw [List.all_eq_true] at h
  have := h (M, k) (by rw [List.mem_iff_getElem?]; exact ⟨k, by rw [List.getElem?_zipIdx, hk]; simp⟩)
  simp only [hc, Bool.not_true, Bool.false_or] at this
  exact Ci.1 this
theorem old_of {listed : Array Bool} {a : Act} {w : World} {i : Nat} (h : InvS ops hv S l a0 listed a w) (hni : ¬ Gm listed i) (t : Nat) (ht : oldB ops i t = true) : a.eval (.tmp t) = a0.eval (.tmp t) := by
  unfold oldB at ht
  rw [Bool.or_eq_true, List.any_eq_true] at ht
  rcases ht with ht | ⟨j, _, hj⟩
  · exact h.still t (Hn ht)
  · rw [Bool.and_eq_true] at hj
    obtain ⟨h1, h2⟩ := hj
    have hnj : ¬ Gm listed j := fun hl => hni (Dk h.closed 4096 [j] [] (fun x hx => by
      have : x = j := by simpa using hx
      subst this
      exact hl) (fun x hx => by simp at hx) i (Ci.1 h2))
    unfold dstAt at h1
    cases hq : ops[j]? with
    | none => rw [hq] at h1; cases h1
    | some q =>
      rw [hq] at h1
      simp only at h1
      cases hd : q.dst with
      | none => rw [hd] at h1; cases h1
      | some d =>
        rw [hd] at h1
        have e : d = t := Nat.eq_of_beq_eq_true h1
        subst e
        exact h.old j q d hq hnj hd
theorem Ld (hok : I7 ops a0.tmps.size = true)
    (hstep : ∀ i o k, ops[i]? = some o → k < S.length → canAt ops hv (U0 S k).1 i = true → ∀ a w, a.defers = a0.defers → a.tmps.size = a0.tmps.size → (∀ t, oldB ops i t = true → a.eval (.tmp t) = a0.eval (.tmp t)) →
      (∀ e ∈ o.after.toList, Region.binds .any e = true → ∀ q d, ops[e.on]? = some q → q.dst = some d → Gl l e.on (a.eval (.tmp d))) → (U0 S k).2 ((U0 S k).1.map (La ops (Gg a))) w → wpOp P ops Q i (PutsS ops hv S l k i o a w) a w)
    (hend : ∀ k a w, k < S.length → (∀ h, h < ops.size → C3 h hv = true → h ∈ (U0 S k).1) → a.defers = a0.defers → a.tmps.size = a0.tmps.size → (∀ t, Still ops t → a.eval (.tmp t) = a0.eval (.tmp t)) →
      (∀ j q d, ops[j]? = some q → q.dst = some d → Gl l j (a.eval (.tmp d))) → (U0 S k).2 ((U0 S k).1.map (La ops (Gg a))) w → Q .normal a w)
    (hfull : ∀ listed : Array Bool, listed.size = ops.size → Region.ready .any ops listed = [] → ∀ j, j < ops.size → listed.getD j false = true) :
    ∀ (Zj : Nat) (listed : Array Bool) (a : Act) (w : World), (listed.toList.filter (! ·)).length ≤ Zj → InvS ops hv S l a0 listed a w → wpAny P .any ops Q Zj listed a w := by
  have fin : ∀ (listed : Array Bool) (a : Act) (w : World), Region.ready .any ops listed = [] → InvS ops hv S l a0 listed a w → Q .normal a w := by
    intro listed a w hr h
    obtain ⟨k, hk, hk1, hk2, hk3⟩ := h.stage
    have hall := hfull listed h.size hr
    exact hend k a w hk (fun x hx hm => (hk1 x hm).1 (hall x hx)) h.defers h.tmps h.still (fun j q d hj hd => h.facts j q d hj (hall j (Array.getElem?_eq_some_iff.1 hj).1) hd) hk3
  intro Zj
  induction Zj with
  | zero =>
    intro listed a w hl hinv
    have hr : Region.ready .any ops listed = [] := by
      unfold Region.ready
      rw [List.filter_eq_nil_iff]
      intro i hi
      have hi' : i < listed.size := by rw [hinv.size]; simpa using hi
      have hlist : listed.getD i true = true := by
        have hempty : listed.toList.filter (! ·) = [] := List.eq_nil_of_length_eq_zero (by omega)
        rw [List.filter_eq_nil_iff] at hempty
        have := hempty listed[i] (by rw [← Array.getElem_toList]; exact List.getElem_mem _)
        simpa [Array.getD, hi'] using this
      simp [hlist]
    exact ⟨hr, fin _ _ _ hr hinv⟩
  | succ Zj ih =>
    intro listed a w hl hinv
    refine ⟨fun hr => fin _ _ _ hr hinv, fun i hi => ?_⟩
    obtain ⟨o, ho, hedge⟩ := ready_mem hinv.size hi
    unfold Region.ready at hi
    simp only [List.mem_filter, List.mem_range, Bool.and_eq_true] at hi
    have hi' : i < listed.size := by rw [hinv.size]; exact hi.1
    have hf : listed[i] = false := by
      have := hi.2.1
      simpa [Array.getD, hi'] using this
    have hni : ¬ Gm listed i := by
      unfold Gm
      simp [Array.getD, hi', hf]
    obtain ⟨k, hk, hk1, hk2, hk3⟩ := hinv.stage
    refine wpOp_mono (fun a' w' hp => ih _ a' w' ?_ (invS_step hok ho hedge hinv hk hk1 hk2 hk3 hni hp))
      (hstep i o k ho hk (canAt_of ho hinv.closed hedge hni hk1 hk2) a w hinv.defers hinv.tmps (old_of hinv hni) (fun e he hb q d hq hd => hinv.facts e.on q d hq (hedge e he hb) hd) hk3)
    have hcount : ∀ (l : List Bool) (k : Nat), l[k]? = some false → ((l.set k true).filter (! ·)).length + 1 = (l.filter (! ·)).length := by
      intro l
      induction l with
      | nil => intro k hk; simp at hk
      | cons x r ihr =>
        intro k hk
        cases k with
        | zero => simp at hk; subst hk; simp
        | succ k =>
          simp at hk
          have := ihr k hk
          cases x <;> simp [List.set] <;> omega
    have := hcount listed.toList i (by rw [Array.getElem?_toList, Array.getElem?_eq_getElem hi', hf])
    simp only [Array.toList_setIfInBounds]
    omega
end
section
variable {P : Program} {n : Nat} {Q : H1} {ρ : Fr} {w : World} {B : Code} {p : List Bool}
theorem At.stages (h : G7 5 (Qm B p) = true) (hd : Fh (Qm B p) = true) (hm : P.follows .mixedOrders = true) (hok : I7 (Q5 (Qm B p)) n = true) (he : Kj (Q5 (Qm B p)) = true)
    (l : List (Value → Prop)) (hv : List Nat) (S : List Stg) {N : Nat} (hN : (Q5 (Qm B p)).size = N) (h0 : (U0 S 0).1 = [] ∧ 0 < S.length) (hS : (U0 S 0).2 [] w.drew) (hobs : Obs N (Owe P n B p ρ l hv S))
    {last : Nat} (hlast : (S.map (·.1)).zipIdx.all (fun x => Nat.beq x.2 last || (List.range N).any (fun i => C3 i hv && !C3 i x.1)) = true)
    (hend : ∀ (ρ' : Fr) (w' : World), (∀ t, Fk (Q5 (Qm B p)) t = true → ρ' t = ρ t) → (∀ j d, dstAt (Q5 (Qm B p)) j d = true → Gl l j (ρ' d)) → (U0 S last).2 ((U0 S last).1.map (La (Q5 (Qm B p)) ρ')) w' → Q .normal ρ' w') : At P n B p Q ρ w := by
  intro a0 ha0
  have hreg := K3 h
  rw [hreg, hd]
  have hd0 : a0.defers = [] := ha0.defers
  have hsz0 : a0.tmps.size = n := ha0.size
  have hev : ∀ (a : Act) (t : Nat), a.eval (.tmp t) = a.tmps.getD t undef := fun _ _ => rfl
  have hstill : ∀ (a : Act), (∀ t, Still (Q5 (Qm B p)) t → a.eval (.tmp t) = a0.eval (.tmp t)) → ∀ t, Fk (Q5 (Qm B p)) t = true → Gg a t = ρ t := fun a hst t ht => by
    have := hst t (Hn ht)
    rw [hev, hev] at this
    rw [← ha0.get t]; exact this
  have hstillI : ∀ (i : Nat) (a : Act), (∀ t, oldB (Q5 (Qm B p)) i t = true → a.eval (.tmp t) = a0.eval (.tmp t)) → H9 (Q5 (Qm B p)) i ρ (Gg a) := fun i a hst t ht => by
    have := hst t ht
    rw [hev, hev] at this
    rw [← ha0.get t]; exact this
  have hmask : ∀ k, k < S.length → (S.map (·.1))[k]? = some (U0 S k).1 := fun k hk => by
    rw [List.getElem?_map]
    unfold U0
    rw [List.getD_eq_getElem?_getD, List.getElem?_eq_getElem hk]
    rfl
  refine wp_region_any hm ?_
  refine Ld (l := l) (hv := hv) (S := S) (a0 := a0) (by rw [hsz0]; exact hok) ?_ ?_ (full_of he) _ _ _ _ ?_ ?_
  · intro i o k ho hk hcan a w' hdf hsz hst hah hstage
    have hlt : i < N := by rw [← hN]; exact (Array.getElem?_eq_some_iff.1 ho).1
    have ha : FA n (Gg a) a := fa_of (hdf.trans hd0) (hsz.trans hsz0)
    have hfacts : L8 (Q5 (Qm B p)) l i (Gg a) := fun j d hjd => by
      unfold Fl at hjd
      rw [ho] at hjd
      cases hj : (Q5 (Qm B p))[j]? with
      | none => rw [hj] at hjd; cases hjd
      | some q =>
        rw [hj] at hjd
        simp only [Bool.and_eq_true, List.any_eq_true] at hjd
        obtain ⟨⟨e, hem, hon, hbind⟩, hdst⟩ := hjd
        have hon := Nat.eq_of_beq_eq_true hon
        cases hq : q.dst with
        | none => rw [hq] at hdst; cases hdst
        | some x =>
          rw [hq] at hdst
          have hx : x = d := Nat.eq_of_beq_eq_true hdst
          subst hx
          have := hah e hem hbind q x (by rw [hon]; exact hj) hq
          rw [hon] at this
          exact this
    have hdst : Dy (Q5 (Qm B p)) i = o.dst := by simp [Dy, ho]
    have hdok : Ji n o.dst = true := by
      cases hdo : o.dst with
      | none => rfl
      | some d =>
        simp only [I7, Bool.and_eq_true, List.all_eq_true, decide_eq_true_eq] at hok
        have hmem : o ∈ (Q5 (Qm B p)).toList := by rw [← Array.getElem?_toList] at ho; exact List.mem_of_getElem? ho
        have := hok.1 d (List.mem_filterMap.2 ⟨o, hmem, hdo⟩)
        exact Nat.ble_eq_true_of_le (Nat.succ_le_of_lt this)
    have same : ∀ (a' : Act) (ρ'' : Fr) (v : Value), FA n ρ'' a' → ρ'' = G4 (Gg a) (Dy (Q5 (Qm B p)) i) v → a' = a.put o.dst v ∧ Gg (a.put o.dst v) = G4 (Gg a) (Dy (Q5 (Qm B p)) i) v := by
      intro a' ρ'' v ha'' hρ
      rw [hdst] at hρ ⊢
      subst hρ
      have hput := ha.putO hdok v
      refine ⟨?_, funext fun t => hput.get t⟩
      have ht : a'.tmps = (a.put o.dst v).tmps := by
        apply Array.ext_getElem?
        intro t
        have h1 := ha''.get t
        have h2 := hput.get t
        rcases Nat.lt_or_ge t n with hlt | hge
        · have s1 : t < a'.tmps.size := by rw [ha''.size]; exact hlt
          have s2 : t < (a.put o.dst v).tmps.size := by rw [hput.size]; exact hlt
          rw [Array.getElem?_eq_getElem s1, Array.getElem?_eq_getElem s2]
          simp only [Array.getD_eq_getD_getElem?, Array.getElem?_eq_getElem s1, Array.getElem?_eq_getElem s2, Option.getD_some] at h1 h2
          rw [h1, h2]
        · rw [Array.getElem?_eq_none (by rw [ha''.size]; exact hge), Array.getElem?_eq_none (by rw [hput.size]; exact hge)]
      have hdd : a'.defers = (a.put o.dst v).defers := ha''.defers.trans hput.defers.symm
      cases a'
      cases hq : a.put o.dst v
      rw [hq] at ht hdd
      simp only at ht hdd
      rw [ht, hdd]
    rcases obs_get hobs i hlt with ⟨hh, howe⟩ | ⟨hh, ss, hs, howe⟩ | ⟨hh, ss, hs, howe⟩
    · refine wpOp_mono ?_ (howe (Gg a) w' (hstillI i a hst) hfacts a ha _)
      rintro a' w'' ⟨ρ'', ha'', hw, v, hρ, hG⟩
      exact ⟨v, (same a' ρ'' v ha'' hρ).1, hG, .inl ⟨hh, hw⟩⟩
    · refine wpOp_mono ?_ (howe k (I9 hs (hmask k hk) hcan) (Gg a) w' (hstillI i a hst) hfacts hstage a ha _)
      rintro a' w'' ⟨ρ'', ha'', hw, v, hρ, hG⟩
      exact ⟨v, (same a' ρ'' v ha'' hρ).1, hG, .inl ⟨hh, hw⟩⟩
    · obtain ⟨kk, hkm, hke⟩ := List.mem_map.1 (I9 hs (hmask k hk) hcan)
      have hke' : kk.1 = k := hke
      obtain ⟨hk'lt0, hM, howe'⟩ := howe kk hkm
      have hk'lt : kk.2 < S.length := Nat.le_of_ble_eq_true hk'lt0
      rw [hke'] at howe' hM
      refine wpOp_mono ?_ (howe' (Gg a) w' (hstillI i a hst) hfacts hstage a ha _)
      rintro a' w'' ⟨ρ'', ha'', v, hρ, hG, hP⟩
      obtain ⟨e1, e2⟩ := same a' ρ'' v ha'' hρ
      rw [← e2] at hP
      exact ⟨v, e1, hG, .inr ⟨kk.2, hh, hk'lt, hM, hP⟩⟩
  · intro k a w' hk hall hdf hsz hst hfacts hstage
    have ha : FA n (Gg a) a := fa_of (hdf.trans hd0) (hsz.trans hsz0)
    have hkl : k = last := by
      rw [List.all_eq_true] at hlast
      have := hlast ((U0 S k).1, k) (by rw [List.mem_iff_getElem?]; exact ⟨k, by rw [List.getElem?_zipIdx, hmask k hk]; simp⟩)
      simp only [Bool.or_eq_true, List.any_eq_true, Bool.and_eq_true, Bool.not_eq_true', List.mem_range] at this
      rcases this with h1 | ⟨i, hi, h1, h2⟩
      · exact Nat.eq_of_beq_eq_true h1
      · have := Ci.2 (hall i (by rw [hN]; exact hi) h1)
        rw [this] at h2
        cases h2
    rw [hkl] at hstage
    refine ⟨_, ha, hend _ w' (hstill a hst) (fun j d hjd => ?_) hstage⟩
    unfold dstAt at hjd
    cases hj : (Q5 (Qm B p))[j]? with
    | none => rw [hj] at hjd; cases hjd
    | some q =>
      rw [hj] at hjd
      simp only at hjd
      cases hq : q.dst with
      | none => rw [hq] at hjd; cases hjd
      | some x =>
        rw [hq] at hjd
        have hx : x = d := Nat.eq_of_beq_eq_true hjd
        subst hx
        exact hfacts j q x hj hq
  · simp [List.filter_replicate]
  · refine ⟨by simp, rfl, rfl, fun _ _ => rfl, ?_, fun _ _ _ _ _ _ => rfl, ?_, 0, h0.2, fun h _ => ?_, fun h hh => ?_, ?_⟩
    · intro j hj
      exfalso
      unfold Gm at hj
      simp only [Array.getD_eq_getD_getElem?, Array.getElem?_replicate] at hj
      split at hj <;> simp at hj
    · intro j q d hq hj _
      exfalso
      unfold Gm at hj
      simp only [Array.getD_eq_getD_getElem?, Array.getElem?_replicate] at hj
      split at hj <;> simp at hj
    · rw [h0.1]
      unfold Gm
      simp only [Array.getD_eq_getD_getElem?, Array.getElem?_replicate]
      constructor
      · intro hj; split at hj <;> simp at hj
      · intro hj; simp at hj
    · rw [h0.1] at hh; simp at hh
    · rw [h0.1]; exact hS
def GElem (A : Option Addr) (sz : Nat) (iz : Int) (j : Nat) : Value → Prop := fun v => ∃ b off : Nat, A = some ⟨b, off, none⟩ ∧ v = .pointer (some ⟨b, off + iz.toNat * sz + j, none⟩)
def Vr (A : Option Addr) (sz : Nat) (iz : Int) : Value → Prop := fun v => ∃ b off : Nat, A = some ⟨b, off, none⟩ ∧ v = .pointer (some ⟨b, off + iz.toNat * sz, none⟩)
theorem Qh {α : Type} {e : Enc α} {w : World} {A : Option Addr} {c b off : Nat} {l : List α} {iz : Int} (hr : RdT e w A c l) (hA : A = some ⟨b, off, none⟩) (h0 : 0 ≤ iz) (h1 : iz < (l.length : Int)) :
    ∀ j u, (Qd e l)[j]? = some u → w.cell? ⟨b, off + j, none⟩ = some u := by
  obtain ⟨_, _, _, h4⟩ := hr
  obtain ⟨b', off', hA', hb, hc⟩ := h4 (by omega)
  rw [hA] at hA'
  injection hA' with hA'
  injection hA' with e1 e2 _
  subst e1 e2
  exact hc
theorem Z2 {α : Type} {e : Enc α} {l : List α} {x : α} {b off : Nat} {iz : Int} {xs : List Value} {w : World} (hc : ∀ j u, (Qd e l)[j]? = some u → w.cell? ⟨b, off + j, none⟩ = some u) (hx : l[iz.toNat]? = some x) (hxs : (e.enc x).take xs.length = xs) :
    ∀ j u, xs[j]? = some u → w.cell? ⟨b, off + iz.toNat * e.sz + j, none⟩ = some u := by
  intro j u hu
  refine Qk hc hx ?_
  rw [← hxs, List.getElem?_take] at hu
  split at hu
  · exact hu
  · cases hu
theorem L9 {α : Type} {e : Enc α} {l : List α} {x : α} {b off j : Nat} {iz : Int} {xs : List Value} {w : World} (hc : ∀ j u, (Qd e l)[j]? = some u → w.cell? ⟨b, off + j, none⟩ = some u) (hx : l[iz.toNat]? = some x) (hxs : ((e.enc x).drop j).take xs.length = xs) :
    ∀ j' u, xs[j']? = some u → w.cell? ⟨b, off + iz.toNat * e.sz + j + j', none⟩ = some u := by
  intro j' u hu
  rw [Nat.add_assoc]
  refine Qk hc hx (j := j + j') ?_
  rw [← hxs, List.getElem?_take] at hu
  split at hu
  · rw [List.getElem?_drop] at hu
    exact hu
  · cases hu
theorem Jd {ops : Array Oper} {ρ : Fr} {h d : Nat} (hd : Dy ops h = some d) : La ops ρ h = ρ d := by unfold La; rw [hd]
theorem Ia {α : Type} {e : Enc α} {A : Option Addr} {c : Nat} {l m : List α} {i j : Int} (h0 : 0 ≤ i) (h1 : i ≤ j) (h2 : j ≤ (l.length : Int)) (hm : List.drop i.toNat (List.take j.toNat l) = m) (w1 : World) (hr : RdT e w1 A c l) : RdT e w1 (F2 e.sz c i.toNat A) (c - i.toNat) m := by
  subst hm
  exact RdT.part hr (by omega) (by omega)
theorem Cj {α : Type} {e : Enc α} {A : Option Addr} {c : Nat} {l m : List α} {k : Nat} {d : Option Nat} {K : Fr → World → Prop} {T E : TypeId} {x : Operand} {lo hi : Option Operand} {i j : Int} (ho : D3 (Qm B p) k ρ = some (.slice T x lo hi none, d)) (hd : Ji n d = true)
    (hx : opv ρ x = .slice A l.length c) (hT : P.underlying T = some (.slice E)) (hE : (P.info? E).map (·.size) = some e.sz) (hlo : Hm ρ lo i 0) (hhi : Hm ρ hi j l.length) (hc : l.length ≤ c)
    (h0 : 0 ≤ i) (h1 : i ≤ j) (h2 : j ≤ (l.length : Int)) (hm : List.drop i.toNat (List.take j.toNat l) = m)
    (next : K (G4 ρ d (.slice (F2 e.sz c i.toNat A) m.length (c - i.toNat))) w) : Qi P n B p k K ρ w := by
  refine Qi.slice (e := e) ho hd hx hT hE hlo hhi hc h0 h1 h2 ?_
  intro A' c' hA hcc _
  subst hA hcc hm
  exact next
def SrcG1 (ops : Array Oper) (i : Nat) (l : List (Value → Prop)) (ρ : Fr) (t : Nat) (v : Value) : Prop :=
  (oldB ops i t = true ∧ ρ t = v) ∨ ∃ j, Fl ops i j t = true ∧ Gl l j = GEq v
def SrcG (ops : Array Oper) (i : Nat) (l : List (Value → Prop)) (ρ : Fr) : List (Nat × Value) → Prop
  | [] => True
  | x :: r => SrcG1 ops i l ρ x.1 x.2 ∧ SrcG ops i l ρ r
theorem F7 {ops : Array Oper} {i : Nat} {l : List (Value → Prop)} {ρ ρ' : Fr} (hs : H9 ops i ρ ρ') (ha : L8 ops l i ρ') :
    ∀ src : List (Nat × Value), SrcG ops i l ρ src → V6 ρ' src
  | [], _ => trivial
  | x :: r, h => by
    refine ⟨?_, F7 hs ha r h.2⟩
    rcases h.1 with ⟨h1, h2⟩ | ⟨j, h1, h2⟩
    · exact (hs _ h1).trans h2
    · have := ha j x.1 h1
      rw [h2] at this
      exact this
theorem Owe.run {l : List (Value → Prop)} {hv : List Nat} {S : List Stg} {i : Nat} (hh : C3 i hv = false) (src : List (Nat × Value)) (hsrc : SrcG (Q5 (Qm B p)) i l ρ src) (v : Value)
    (h : ∀ (ρ' : Fr) (w' : World), R7 P n (Q5 (Qm B p)) (((Q5 (Qm B p)).toList.drop i).take 1) (H7 ρ' src) w' = some (G4 (H7 ρ' src) (Dy (Q5 (Qm B p)) i) v, w')) (hR : Gl l i v) : Owe P n B p ρ l hv S i := by
  refine .pure hh fun ρ' w' hs hah => ?_
  have hkn := F7 hs hah src hsrc
  refine Qi.known src hkn ?_
  exact Qi.run (h ρ' w') ⟨rfl, v, Qa hkn, hR⟩
theorem Owe.skip {l : List (Value → Prop)} {hv : List Nat} {S : List Stg} {i : Nat} (hh : C3 i hv = false) (src : List (Nat × Value)) (hsrc : SrcG (Q5 (Qm B p)) i l ρ src) (d : Option Nat)
    (h : ∀ (ρ' : Fr), (Q5 (Qm B p))[i]?.map (fun o => (D2 (Q5 (Qm B p)) (H7 ρ' src) o, o.dst)) = some (false, d)) (hd : Ji n d = true) (hR : Gl l i undef) : Owe P n B p ρ l hv S i := by
  refine .pure hh fun ρ' w' hs hah => ?_
  have hkn := F7 hs hah src hsrc
  have hdd : Dy (Q5 (Qm B p)) i = d := by
    have := h ρ'
    unfold Dy
    cases ho : (Q5 (Qm B p))[i]? with
    | none => rw [ho] at this; cases this
    | some o => rw [ho] at this; simp only [Option.map_some, Option.some.injEq, Prod.mk.injEq] at this; exact this.2
  refine Qi.known src hkn ?_
  exact M9 (h ρ') hd ⟨rfl, undef, by rw [hdd]; exact Qa hkn, hR⟩
theorem Q8 {α : Type} {Φ : α → Prop} : ∀ k ∈ ([] : List α), Φ k := fun _ h => by simp at h
theorem Qf {α : Type} {Φ : α → Prop} {x : α} {l : List α} (h : Φ x) (t : ∀ k ∈ l, Φ k) : ∀ k ∈ x :: l, Φ k := fun k hk => by
  rcases List.mem_cons.1 hk with rfl | hk
  · exact h
  · exact t k hk
end
section
variable {P : Program} {n : Nat} {B : Code} {q : List Bool} {Q : H1} {ρ : Fr} {w : World}
theorem aQ (k : At P n B (false :: q).reverse (Kh (At P n B (true :: q).reverse Q) Q) ρ w) (h : G7 1 (Qm B q.reverse) = true := by kernel_rfl) : At P n B q.reverse Q ρ w := At.sq h k
end
section
variable {P : Program} {n : Nat} {B : Code} {p : List Bool} {Q : H1} {ρ : Fr} {w w0 : World} {k : Nat} {K : Fr → World → Prop} {S : List Nat} {es : List Ent}
theorem aR (h : In P n B p 0 Q ρ w) (h1 : G7 5 (Qm B p) = true := by kernel_rfl) (h2 : Fh (Qm B p) = false := by kernel_rfl) : At P n B p Q ρ w := At.region h1 h2 h
theorem iF (h : Q .normal ρ w) (hk : (Q5 (Qm B p)).size = k := by kernel_rfl) : In P n B p k Q ρ w := In.fin hk h
theorem iS (k' : Nat) (h : Qi P n B p k (In P n B p k' Q) ρ w) (hk : k' = k + 1 := by exact rfl) (hs : Nat.blt k (Q5 (Qm B p)).size = true := by kernel_rfl) : In P n B p k Q ρ w := In.step hk hs h
theorem iR (m k' : Nat) (l : List (Nat × Value)) (h : In P n B p k' Q (H7 ρ l) w) (hk : k' = k + m := by exact rfl)
    (h1 : R7 P n (Q5 (Qm B p)) (((Q5 (Qm B p)).toList.drop k).take m) ρ w = some (H7 ρ l, w) := by kernel_rfl) : In P n B p k Q ρ w := In.run' m hk l h1 h
theorem kN (l : List (Nat × Value)) (h : V6 ρ l) (next : V6 ρ l → Qi P n B p k K (H7 ρ l) w) : Qi P n B p k K ρ w := Qi.known l h (next h)
theorem eK {l : List (Nat × Value)} {L : List (Value → Prop)} {i : Nat} {d d' : Option Nat} {v : Value} (h : V6 ρ l) (hd : d' = d := by kernel_rfl) (hG : Gl L i v := by exact rfl) : w = w ∧ ∃ v', G4 (H7 ρ l) d v = G4 ρ d' v' ∧ Gl L i v' := by
  subst hd
  exact ⟨rfl, v, Qa h, hG⟩
theorem oL {l : List (Value → Prop)} {hv : List Nat} {S : List Stg} {i : Nat} (a : Nat) (h : OwesL P n B p ρ l (U0 S a) i) (hh : C3 i hv = false := by kernel_rfl)
    (hs : Ep (Q5 (Qm B p)) hv (S.map (·.1)) i [a] = true := by kernel_rfl) : Owe P n B p ρ l hv S i := .light hh [a] hs (Qf h Q8)
theorem oH {l : List (Value → Prop)} {hv : List Nat} {S : List Stg} {i : Nat} (a b : Nat) (h : ∀ (ρ' : Fr) (w' : World), H9 (Q5 (Qm B p)) i ρ ρ' → L8 (Q5 (Qm B p)) l i ρ' → (U0 S a).2 ((U0 S a).1.map (La (Q5 (Qm B p)) ρ')) w' →
      Qi P n B p i (fun ρ'' w'' => ∃ v, ρ'' = G4 ρ' (Dy (Q5 (Qm B p)) i) v ∧ Gl l i v ∧ (U0 S b).2 ((U0 S b).1.map (La (Q5 (Qm B p)) (G4 ρ' (Dy (Q5 (Qm B p)) i) v))) w'') ρ' w')
    (hh : C3 i hv = true := by kernel_rfl) (hs : Ep (Q5 (Qm B p)) hv (S.map (·.1)) i [a] = true := by kernel_rfl) (hb : Nat.blt b S.length = true := by kernel_rfl) (hi : (U0 S b).1 = insN i (U0 S a).1 := by kernel_rfl) : Owe P n B p ρ l hv S i :=
  .heavy hh [(a, b)] hs (Qf ⟨hb, hi, h⟩ Q8)
theorem sL {t' : TypeId} {cs : Array Value} (t x g off i : Nat) (v : Value) (d : Nat) (hs : SP S w0 w es) (hi : es[i]? = some (Qn g t' cs)) (next : K (G4 ρ (some d) v) w) (ho : D3 (Qm B p) k ρ = some (.load t (.tmp x), some d) := by kernel_rfl)
    (hd : Ji n (some d) = true := by exact rfl) (hv : opv ρ (.tmp x) = .pointer (some ⟨g, off, none⟩) := by kernel_rfl) (hl : Oy P t off cs = some v := by kernel_rfl) : Qi P n B p k K ρ w := Qi.load ho hd hv hs hi hl next
theorem sC (t x b off : Nat) (v : Value) (d : Nat) (hc : w.cell? ⟨b, off, none⟩ = some v) (next : K (G4 ρ (some d) v) w) (ho : D3 (Qm B p) k ρ = some (.load t (.tmp x), some d) := by kernel_rfl)
    (hd : Ji n (some d) = true := by exact rfl) (hx : opv ρ (.tmp x) = .pointer (some ⟨b, off, none⟩) := by kernel_rfl) (ht : (P.underlying t).map aggD = some false := by kernel_rfl) : Qi P n B p k K ρ w := Qi.cell ho hd hx ht hc next
theorem cF {args : List Value} {R : Ending → World → Prop} (f : FuncId) (xs : Array Operand) (tys : Array TypeId) (d : Nat) (hcf : ∀ (args : Array Value) (w : World), (callFunc f args).run P w = .ok (.enter f args) w) (hc : Calls P f args.toArray w R)
    (next : ∀ e w', R e w' → ∃ v, e = .returned v ∧ K (G4 ρ (some d) v) w') (ho : D3 (Qm B p) k ρ = some (.call { callee := .value (.func f), args := xs, argTypes := tys }, some d) := by kernel_rfl) (hd : Ji n (some d) = true := by exact rfl)
    (hf : opv ρ (.func f) = .func (.func f) #[] #[] := by kernel_rfl) (hargs : (#[] : Array Value).toList ++ xs.toList.map (opv ρ) ++ (#[] : Array Value).toList = args := by kernel_rfl) : Qi P n B p k K ρ w := Jj ho hd hf hargs hcf hc next
theorem kc {ρ : Fr} {t : Nat} {v : Value} {r : List (Nat × Value)} (h : ρ t = v) (h2 : V6 ρ r) : V6 ρ ((t, v) :: r) := ⟨h, h2⟩
theorem k0 {ρ : Fr} : V6 ρ [] := trivial
theorem kM {l : List (Nat × Value)} (h : V6 ρ l) (next : V6 ρ l → Qi P n B p k K (H7 ρ l) w) : Qi P n B p k K ρ w := Qi.known l h (next h)
theorem kA {ops : Array Oper} {l : List (Value → Prop)} {i : Nat} {ρ' : Fr} {v : Value} (hah : L8 ops l i ρ') (j t : Nat) (e : Gl l j = GEq v := by exact rfl) (h : Fl ops i j t = true := by kernel_rfl) : ρ' t = v := by
  have := hah j t h
  rw [e] at this
  exact this
theorem kS {ops : Array Oper} {i : Nat} {ρ ρ' : Fr} (hs : H9 ops i ρ ρ') (t : Nat) (v : Value) (h : oldB ops i t = true := by kernel_rfl) (e : ρ t = v := by kernel_rfl) : ρ' t = v := (hs t h).trans e
theorem hS {ops : Array Oper} {i : Nat} {l : List (Value → Prop)} {ρ : Fr} (t : Nat) (v : Value) (h : oldB ops i t = true := by kernel_rfl) (e : ρ t = v := by kernel_rfl) : SrcG1 ops i l ρ t v := .inl ⟨h, e⟩
theorem hA {ops : Array Oper} {i : Nat} {l : List (Value → Prop)} {ρ : Fr} {v : Value} (j t : Nat) (e : Gl l j = GEq v := by exact rfl) (h : Fl ops i j t = true := by kernel_rfl) : SrcG1 ops i l ρ t v := .inr ⟨j, h, e⟩
theorem hB {ops : Array Oper} {i : Nat} {l : List (Value → Prop)} {ρ : Fr} {u b : Bool} (j t : Nat) (hb : u = b) (e : Gl l j = GEq (.bool u) := by exact rfl) (h : Fl ops i j t = true := by kernel_rfl) : SrcG1 ops i l ρ t (.bool b) := .inr ⟨j, h, by rw [e, hb]⟩
theorem hC {ops : Array Oper} {i : Nat} {l : List (Value → Prop)} {ρ : Fr} {t : Nat} {v : Value} {r : List (Nat × Value)} (h : SrcG1 ops i l ρ t v) (h2 : SrcG ops i l ρ r) : SrcG ops i l ρ ((t, v) :: r) := ⟨h, h2⟩
theorem h0 {ops : Array Oper} {i : Nat} {l : List (Value → Prop)} {ρ : Fr} : SrcG ops i l ρ [] := trivial
theorem oV {l : List (Value → Prop)} {hv : List Nat} {S : List Stg} {i : Nat} {src : List (Nat × Value)} (hsrc : SrcG (Q5 (Qm B p)) i l ρ src) (v : Value) (hR : Gl l i v := by exact rfl) (hh : C3 i hv = false := by kernel_rfl)
    (h : ∀ (ρ' : Fr) (w' : World), R7 P n (Q5 (Qm B p)) (((Q5 (Qm B p)).toList.drop i).take 1) (H7 ρ' src) w' = some (G4 (H7 ρ' src) (Dy (Q5 (Qm B p)) i) v, w') := by intro _ _; kernel_rfl) : Owe P n B p ρ l hv S i := Owe.run hh src hsrc v h hR
theorem oW {l : List (Value → Prop)} {hv : List Nat} {S : List Stg} {i : Nat} {src : List (Nat × Value)} (hsrc : SrcG (Q5 (Qm B p)) i l ρ src) (d : Nat) (hR : Gl l i undef := by exact rfl) (hh : C3 i hv = false := by kernel_rfl)
    (h : ∀ (ρ' : Fr), (Q5 (Qm B p))[i]?.map (fun o => (D2 (Q5 (Qm B p)) (H7 ρ' src) o, o.dst)) = some (false, some d) := by intro _; kernel_rfl) (hd : Ji n (some d) = true := by kernel_rfl) : Owe P n B p ρ l hv S i := Owe.skip hh src hsrc (some d) h hd hR
abbrev tG (S : List Nat) (w0 : World) (ens : List Ent) (l : List (List Nat × List Value)) : List Stg := l.map fun x => (x.1, fun vs w => VL vs x.2 ∧ SP S w0 w ens)
abbrev sG (i : List Nat) (v : List Value) (S : List Nat) (w0 : World) (ens : List Ent) : Stg := (i, fun vs w => VL vs v ∧ SP S w0 w ens)
theorem aG (l : List (Value → Prop)) (hv : List Nat) (S : List Stg) (N last : Nat) (hS : (U0 S 0).2 [] w.drew) (hobs : Obs N (Owe P n B p ρ l hv S))
    (hend : ∀ (ρ' : Fr) (w' : World), (∀ t, Fk (Q5 (Qm B p)) t = true → ρ' t = ρ t) → (∀ j d, dstAt (Q5 (Qm B p)) j d = true → Gl l j (ρ' d)) → (U0 S last).2 ((U0 S last).1.map (La (Q5 (Qm B p)) ρ')) w' → Q .normal ρ' w')
    (h : G7 5 (Qm B p) = true := by kernel_rfl) (hd : Fh (Qm B p) = true := by kernel_rfl) (hm : P.follows .mixedOrders = true := by kernel_rfl) (hok : I7 (Q5 (Qm B p)) n = true := by kernel_rfl) (he : Kj (Q5 (Qm B p)) = true := by kernel_rfl)
    (hN : (Q5 (Qm B p)).size = N := by kernel_rfl) (h0 : (U0 S 0).1 = [] := by kernel_rfl) (h1 : Nat.blt 0 S.length = true := by kernel_rfl)
    (hlast : (S.map (·.1)).zipIdx.all (fun x => Nat.beq x.2 last || (List.range N).any (fun i => C3 i hv && !C3 i x.1)) = true := by kernel_rfl) : At P n B p Q ρ w :=
  At.stages h hd hm hok he l hv S hN ⟨h0, Nat.le_of_ble_eq_true h1⟩ hS hobs hlast hend
end
end Go.Proofs.YtmgfanhcdfobhaaGreatDoor
namespace Go.Proofs.YtmgfanhcdfobhaaGreatDoor
open Go.RowKit
def Qj {α β : Type} (a : Enc α) (b : Enc β) : Enc (α × β) :=
  ⟨a.sz + b.sz, fun x => a.enc x.1 ++ b.enc x.2, fun x => by rw [List.length_append, a.len, b.len], fun x v hv => by
    rcases List.mem_append.1 hv with h | h
    · exact a.one _ v h
    · exact b.one _ v h⟩
def optE {α β : Type} (z : Option α) (a : Option β) (f : α → Option β) : Option β := match z with | none => a | some x => f x
theorem optN {α β : Type} {a : Option β} {f : α → Option β} {r : β} (h : optE (none : Option α) a f = some r) : a = some r := h
theorem optS {α β : Type} {x : α} {a : Option β} {f : α → Option β} {r : β} (h : optE (some x) a f = some r) : f x = some r := h
section
variable {S : List Nat} {B : Nat} {w w' w0 : World} {es es' es2 : List Ent}
theorem Le : ∀ {l m : List Nat}, Ed (l ++ m) = true → Ed l = true ∧ Ed m = true ∧ ∀ i ∈ l, i ∉ m
  | [], m, h => ⟨rfl, h, fun i hi => by simp at hi⟩
  | i :: l, m, h => by
    simp only [List.cons_append, Ed, Bool.and_eq_true, List.all_append] at h
    obtain ⟨⟨h1, h2⟩, h3⟩ := h
    obtain ⟨k1, k2, k3⟩ := Le h3
    refine ⟨by simp only [Ed, Bool.and_eq_true]; exact ⟨h1, k1⟩, k2, fun j hj => ?_⟩
    rcases List.mem_cons.1 hj with rfl | hj
    · intro hm
      rw [List.all_eq_true] at h2
      have := h2 j hm
      rw [Nat.beq_refl] at this
      cases this
    · exact k3 j hj
theorem Yd (h : SP S w0 w es) (l : List Nat) (hn : Ed l = true) (he : es' = K8 es l) : SP (es'.flatMap Ent.fp) w w es' := by
  subst he
  exact ⟨Mod.refl _ _, (h.own.sel hn).widen fun e hm k hk _ => .inr (List.mem_flatMap.2 ⟨e, hm, hk⟩)⟩
theorem fps_own (h : SP S w0 w es) {l : List Nat} {k : Nat} (hk : k ∈ (K8 es l).flatMap Ent.fp) : (w0.heap.size ≤ k ∨ k ∈ S) ∧ k < w.heap.size := by
  obtain ⟨e, he, hke⟩ := List.mem_flatMap.1 hk
  obtain ⟨j, _, hj⟩ := Ch he
  exact (h.own.get hj).2 k hke
theorem SP.through (h : SP S w0 w es) {l : List Nat} (he : es' = K8 es l) (hm : Mod (es'.flatMap Ent.fp) w w') : Mod S w0 w' := by
  subst he
  have hs := h.mod.size
  refine ⟨hm.os.trans h.mod.os, hm.tape.trans h.mod.tape, hm.output.trans h.mod.output, Nat.le_trans hs hm.size, fun k hk hn => ?_⟩
  refine (hm.block k (Nat.lt_of_lt_of_le hk hs) fun hkT => ?_).trans (h.mod.block k hk hn)
  rcases (fps_own h hkT).1 with h1 | h1
  · omega
  · exact hn h1
theorem Vv (h : SP S w0 w es) (l m : List Nat) (hn : Ed (l ++ m) = true) {fs : List Ent} (hf : fs = K8 es l) (hc : SP (fs.flatMap Ent.fp) w w' es2) (he : es' = K8 es m ++ es2) : SP S w0 w' es' := by
  subst hf he
  obtain ⟨n1, n2, n3⟩ := Le hn
  have hs := h.mod.size
  have hm := hc.mod
  have apart : ∀ f ∈ K8 es m, ∀ k ∈ f.fp, k ∉ (K8 es l).flatMap Ent.fp := fun f hf k hk hkl => by
    obtain ⟨j, hj, hfj⟩ := Ch hf
    obtain ⟨e, he, hke⟩ := List.mem_flatMap.1 hkl
    obtain ⟨i, hi, hei⟩ := Ch he
    exact h.own.apart hfj hei (fun e => n3 i hi (e ▸ hj)) k hk hke
  refine ⟨h.through rfl hm, ((h.own.sel n2).keep hm.size fun f hf k hk => hm.block k ((h.own.sel n2).mem hf |>.2 k hk).2 (apart f hf k hk)).append (hc.own.widen fun f hf k hk hor => ?_) fun f hf k hk f' hf' hk' => ?_⟩
  · rcases hor with h1 | h1
    · exact .inl (by omega)
    · exact (fps_own h h1).1
  · rcases ((hc.own.mem hf').2 k hk').1 with h1 | h1
    · have := ((h.own.sel n2).mem hf |>.2 k hk).2
      omega
    · exact apart f hf k hk h1
theorem Nc (h : SP [] w0 w es) {l : List Nat} (he : es' = K8 es l) (hm : Mod (es'.flatMap Ent.fp) w w') : Below w0.heap.size w0 w' := (h.through he hm).below (Nat.le_refl _) (by simp)
end
end Go.Proofs.YtmgfanhcdfobhaaGreatDoor
namespace Go.Proofs
open Go.Shelf
def Cz : Go.Shelf.Ren := ⟨fun | 156 => 105 | 165 => 119 | 166 => 120 | 169 => 121 | 240 => 129 | 241 => 130 | 276 => 139 | 277 => 140 | n => n, fun | 31 => 53 | 9 => 9 | 3 => 3 | 4 => 4 | 0 => 0 | 20 => 20 | 72 => 156 | 76 => 160 | 70 => 154 | 37 => 52 | 75 => 159 | 127 => 170 | 164 => 178 | 5 => 5 | 80 => 162 | n => n, fun | n => n⟩
theorem Ho : Go.Proofs.Lays.n156 Tryz.prog Cz := {
  mixed := by kernel_rfl
  f156 := Tryz.func105.trans (congrArg some (by kernel_rfl))
  f165 := Tryz.func119.trans (congrArg some (by kernel_rfl))
  f166 := Tryz.func120.trans (congrArg some (by kernel_rfl))
  f169 := Tryz.func121.trans (congrArg some (by kernel_rfl))
  f240 := Tryz.func129.trans (congrArg some (by kernel_rfl))
  f241 := Tryz.func130.trans (congrArg some (by kernel_rfl))
  f276 := Tryz.func139.trans (congrArg some (by kernel_rfl))
  f277 := Tryz.func140.trans (congrArg some (by kernel_rfl))
  t0 := Tryz.underlying0
  a0 := Tryz.isAgg0
  z0 := Tryz.sizeOf0
  v0 := Tryz.zeroValue0
  t3 := Tryz.underlying3
  a3 := Tryz.isAgg3
  z3 := Tryz.sizeOf3
  v3 := Tryz.zeroValue3
  t4 := Tryz.underlying4
  a4 := Tryz.isAgg4
  z4 := Tryz.sizeOf4
  v4 := Tryz.zeroValue4
  t9 := Tryz.underlying9
  a9 := Tryz.isAgg9
  z9 := Tryz.sizeOf9
  v9 := Tryz.zeroValue9
  t20 := Tryz.underlying20
  a20 := Tryz.isAgg20
  z20 := Tryz.sizeOf20
  v20 := Tryz.zeroValue20
  t31 := Tryz.underlying53
  a31 := Tryz.isAgg53
  z31 := Tryz.sizeOf53
  v31 := Tryz.zeroValue53
  t37 := Tryz.underlying52
  a37 := Tryz.isAgg52
  z37 := Tryz.sizeOf52
  v37 := Tryz.zeroValue52
  t70 := Tryz.underlying154
  a70 := Tryz.isAgg154
  z70 := Tryz.sizeOf154
  v70 := Tryz.zeroValue154
  t72 := Tryz.underlying156
  a72 := Tryz.isAgg156
  z72 := Tryz.sizeOf156
  v72 := Tryz.zeroValue156
  t75 := Tryz.underlying159
  a75 := Tryz.isAgg159
  z75 := Tryz.sizeOf159
  v75 := Tryz.zeroValue159
  t76 := Tryz.underlying160
  a76 := Tryz.isAgg160
  z76 := Tryz.sizeOf160
  v76 := Tryz.zeroValue160
  t127 := Tryz.underlying170
  a127 := Tryz.isAgg170
  z127 := Tryz.sizeOf170
  v127 := Tryz.zeroValue170
  t164 := Tryz.underlying178
  a164 := Tryz.isAgg178
  z164 := Tryz.sizeOf178
  v164 := Tryz.zeroValue178 }
theorem R5 : Builder.Extra Tryz.prog Cz := {
  sizeBuilder := by kernel_rfl
  liesBuilder := by kernel_rfl
  t5 := Tryz.underlying5
  a5 := Tryz.isAgg5
  z5 := Tryz.sizeOf5
  v5 := Tryz.zeroValue5
  infoByte := by kernel_rfl
  cellsByte := by kernel_rfl
  sizeByte := by kernel_rfl
  neB5 := by decide }
open Go.RowKit in
theorem Tryz.strings_Join_none (a : Option Addr) (c : Nat) (sep : ByteArray) (w : World) :
    Calls Tryz.prog 105 #[.slice a 0 c, .string sep] w fun e w' => e = .returned (.string ⟨#[]⟩) ∧ w' = w := Any.strings_Join_none Ho R5 a c sep w
open Go.RowKit in
theorem Tryz.strings_Join (bk o c : Nat) (xs : List ByteArray) (sep : ByteArray) (w : World) (hcells : ∀ (j : Nat) x, xs[j]? = some x → w.cell? ⟨bk, o + j, none⟩ = some (.string x)) (hbk : bk < w.heap.size) (hN : xs.length ≤ 140737488355328) (hcap : xs.length ≤ c) (hlen : (Lib.join (xs.map (·.data.toList)) sep.data.toList).length ≤ 140737488355328) :
    Calls Tryz.prog 105 #[.slice (some ⟨bk, o, none⟩) xs.length c, .string sep] w fun e w' => e = .returned (.string ⟨(Lib.join (xs.map (·.data.toList)) sep.data.toList).toArray⟩) ∧ Below w.heap.size w w' := Any.strings_Join Ho R5 bk o c xs sep w hcells hbk hN hcap hlen
def Hp : Go.Shelf.Ren := ⟨fun | 160 => 98 | 232 => 108 | 231 => 107 | 227 => 109 | 234 => 111 | 233 => 110 | 236 => 113 | 235 => 112 | 228 => 123 | 271 => 126 | 151 => 125 | 197 => 124 | 120 => 137 | 152 => 136 | 260 => 135 | 137 => 146 | 119 => 147 | 224 => 148 | 225 => 149 | 217 => 152 | 266 => 153 | n => n, fun | 9 => 9 | 4 => 4 | 3 => 3 | 5 => 5 | 117 => 145 | 116 => 144 | 0 => 0 | 124 => 148 | 21 => 21 | 105 => 164 | 46 => 127 | 119 => 187 | 139 => 190 | 138 => 189 | n => n, fun | 3 => 1 | 4 => 2 | n => n⟩
theorem Lf : Go.Proofs.Lays.n160 Tryz.prog Hp := {
  mixed := by kernel_rfl
  f119 := Tryz.func147.trans (congrArg some (by kernel_rfl))
  f120 := Tryz.func137.trans (congrArg some (by kernel_rfl))
  f137 := Tryz.func146.trans (congrArg some (by kernel_rfl))
  f151 := Tryz.func125.trans (congrArg some (by kernel_rfl))
  f152 := Tryz.func136.trans (congrArg some (by kernel_rfl))
  f160 := Tryz.func98.trans (congrArg some (by kernel_rfl))
  f197 := Tryz.func124.trans (congrArg some (by kernel_rfl))
  f217 := Tryz.func152.trans (congrArg some (by kernel_rfl))
  f224 := Tryz.func148.trans (congrArg some (by kernel_rfl))
  f225 := Tryz.func149.trans (congrArg some (by kernel_rfl))
  f227 := Tryz.func109.trans (congrArg some (by kernel_rfl))
  f228 := Tryz.func123.trans (congrArg some (by kernel_rfl))
  f231 := Tryz.func107.trans (congrArg some (by kernel_rfl))
  f232 := Tryz.func108.trans (congrArg some (by kernel_rfl))
  f233 := Tryz.func110.trans (congrArg some (by kernel_rfl))
  f234 := Tryz.func111.trans (congrArg some (by kernel_rfl))
  f235 := Tryz.func112.trans (congrArg some (by kernel_rfl))
  f236 := Tryz.func113.trans (congrArg some (by kernel_rfl))
  f260 := Tryz.func135.trans (congrArg some (by kernel_rfl))
  f266 := Tryz.func153.trans (congrArg some (by kernel_rfl))
  f271 := Tryz.func126.trans (congrArg some (by kernel_rfl))
  t0 := Tryz.underlying0
  a0 := Tryz.isAgg0
  z0 := Tryz.sizeOf0
  v0 := Tryz.zeroValue0
  t3 := Tryz.underlying3
  a3 := Tryz.isAgg3
  z3 := Tryz.sizeOf3
  v3 := Tryz.zeroValue3
  t4 := Tryz.underlying4
  a4 := Tryz.isAgg4
  z4 := Tryz.sizeOf4
  v4 := Tryz.zeroValue4
  t5 := Tryz.underlying5
  a5 := Tryz.isAgg5
  z5 := Tryz.sizeOf5
  v5 := Tryz.zeroValue5
  t9 := Tryz.underlying9
  a9 := Tryz.isAgg9
  z9 := Tryz.sizeOf9
  v9 := Tryz.zeroValue9
  t21 := Tryz.underlying21
  a21 := Tryz.isAgg21
  z21 := Tryz.sizeOf21
  v21 := Tryz.zeroValue21
  t46 := Tryz.underlying127
  a46 := Tryz.isAgg127
  z46 := Tryz.sizeOf127
  v46 := Tryz.zeroValue127
  t105 := Tryz.underlying164
  a105 := Tryz.isAgg164
  z105 := Tryz.sizeOf164
  v105 := Tryz.zeroValue164
  t116 := Tryz.underlying144
  a116 := Tryz.isAgg144
  z116 := Tryz.sizeOf144
  t117 := Tryz.underlying145
  a117 := Tryz.isAgg145
  z117 := Tryz.sizeOf145
  v117 := Tryz.zeroValue145
  t119 := Tryz.underlying187
  a119 := Tryz.isAgg187
  z119 := Tryz.sizeOf187
  t124 := Tryz.underlying148
  a124 := Tryz.isAgg148
  z124 := Tryz.sizeOf148
  v124 := Tryz.zeroValue148
  t138 := Tryz.underlying189
  a138 := Tryz.isAgg189
  z138 := Tryz.sizeOf189
  v138 := Tryz.zeroValue189
  t139 := Tryz.underlying190
  a139 := Tryz.isAgg190
  z139 := Tryz.sizeOf190
  v139 := Tryz.zeroValue190
  g3 := by kernel_rfl
  g4 := by kernel_rfl }
def F8 : Go.Shelf.Ren := ⟨fun | 173 => 106 | 246 => 122 | 283 => 131 | 284 => 132 | 285 => 133 | 286 => 134 | 129 => 142 | 317 => 141 | 318 => 143 | 319 => 144 | 320 => 145 | 337 => 150 | 338 => 151 | n => n, fun | 2 => 2 | 3 => 3 | 9 => 9 | 4 => 4 | 171 => 172 | 0 => 0 | 53 => 153 | 37 => 52 | 5 => 5 | 173 => 175 | 212 => 183 | 51 => 111 | 20 => 20 | 213 => 184 | 46 => 127 | 232 => 89 | 233 => 124 | n => n, fun | 17 => 0 | 18 => 4 | 19 => 5 | n => n⟩
theorem Kl : Go.Proofs.LaysM.n173 Tryz.prog F8 := {
  mixed := by kernel_rfl
  f129 := Tryz.func142.trans (congrArg some (by kernel_rfl))
  f173 := Tryz.func106.trans (congrArg some (by kernel_rfl))
  f246 := Tryz.func122.trans (congrArg some (by kernel_rfl))
  f283 := Tryz.func131.trans (congrArg some (by kernel_rfl))
  f284 := Tryz.func132.trans (congrArg some (by kernel_rfl))
  f285 := Tryz.func133.trans (congrArg some (by kernel_rfl))
  f286 := Tryz.func134.trans (congrArg some (by kernel_rfl))
  f317 := Tryz.func141.trans (congrArg some (by kernel_rfl))
  f318 := Tryz.func143.trans (congrArg some (by kernel_rfl))
  f319 := Tryz.func144.trans (congrArg some (by kernel_rfl))
  f320 := Tryz.func145.trans (congrArg some (by kernel_rfl))
  f337 := Tryz.func150.trans (congrArg some (by kernel_rfl))
  f338 := Tryz.func151.trans (congrArg some (by kernel_rfl))
  t0 := Tryz.underlying0
  a0 := Tryz.isAgg0
  z0 := Tryz.sizeOf0
  v0 := Tryz.zeroValue0
  t2 := Tryz.underlying2
  a2 := Tryz.isAgg2
  z2 := Tryz.sizeOf2
  v2 := Tryz.zeroValue2
  t3 := Tryz.underlying3
  a3 := Tryz.isAgg3
  z3 := Tryz.sizeOf3
  v3 := Tryz.zeroValue3
  t4 := Tryz.underlying4
  a4 := Tryz.isAgg4
  z4 := Tryz.sizeOf4
  v4 := Tryz.zeroValue4
  t5 := Tryz.underlying5
  a5 := Tryz.isAgg5
  z5 := Tryz.sizeOf5
  v5 := Tryz.zeroValue5
  t9 := Tryz.underlying9
  a9 := Tryz.isAgg9
  z9 := Tryz.sizeOf9
  v9 := Tryz.zeroValue9
  t20 := Tryz.underlying20
  a20 := Tryz.isAgg20
  z20 := Tryz.sizeOf20
  v20 := Tryz.zeroValue20
  t37 := Tryz.underlying52
  a37 := Tryz.isAgg52
  z37 := Tryz.sizeOf52
  v37 := Tryz.zeroValue52
  t46 := Tryz.underlying127
  a46 := Tryz.isAgg127
  z46 := Tryz.sizeOf127
  v46 := Tryz.zeroValue127
  t51 := Tryz.underlying111
  a51 := Tryz.isAgg111
  z51 := Tryz.sizeOf111
  v51 := Tryz.zeroValue111
  t53 := Tryz.underlying153
  a53 := Tryz.isAgg153
  z53 := Tryz.sizeOf153
  v53 := Tryz.zeroValue153
  t171 := Tryz.underlying172
  a171 := Tryz.isAgg172
  z171 := Tryz.sizeOf172
  v171 := Tryz.zeroValue172
  t173 := Tryz.underlying175
  a173 := Tryz.isAgg175
  z173 := Tryz.sizeOf175
  v173 := Tryz.zeroValue175
  t212 := Tryz.underlying183
  a212 := Tryz.isAgg183
  z212 := Tryz.sizeOf183
  v212 := Tryz.zeroValue183
  t213 := Tryz.underlying184
  a213 := Tryz.isAgg184
  z213 := Tryz.sizeOf184
  t232 := Tryz.underlying89
  a232 := Tryz.isAgg89
  z232 := Tryz.sizeOf89
  v232 := Tryz.zeroValue89
  t233 := Tryz.underlying124
  a233 := Tryz.isAgg124
  z233 := Tryz.sizeOf124
  v233 := Tryz.zeroValue124
  g17 := by kernel_rfl
  g18 := by kernel_rfl
  g19 := by kernel_rfl
  i0 := by kernel_rfl
  i2 := by kernel_rfl
  i3 := by kernel_rfl
  i4 := by kernel_rfl
  i5 := by kernel_rfl
  i9 := by kernel_rfl
  i20 := by kernel_rfl
  i37 := by kernel_rfl
  i46 := by kernel_rfl
  i51 := by kernel_rfl
  i53 := by kernel_rfl
  i171 := by kernel_rfl
  i173 := by kernel_rfl
  i212 := by kernel_rfl
  i232 := by kernel_rfl
  i233 := by kernel_rfl
  m17 := by kernel_rfl
  m18 := by kernel_rfl
  m19 := by kernel_rfl }
open Go.RowKit Go.Sort Go.Lib in
theorem Tryz.strconv_FormatInt_10 (n : Int) (h0 : -9223372036854775808 ≤ n) (h1 : n ≤ 9223372036854775807) (w : World) (htab : Lib.TabIs Tryz.prog w "internal/strconv.uint64pow10" .u64 Lib.pow10Tab) :
    Calls Tryz.prog 106 #[.int .i64 n, .int .i64 10] w fun e w' => e = .returned (.string ⟨(Lib.itoa n).toArray⟩) ∧ ∃ k os, w' = grow (w.drewN k) os := Any.strconv_FormatInt_10 Kl n h0 h1 w htab
end Go.Proofs
namespace Go.Proofs.YtmgfanhcdfobhaaGreatDoor
open Go.RowKit
theorem Lg {w w' : World} (h : Below w.heap.size w w') : SP [] w w' [] := ⟨Rr h [], trivial⟩
def ba (l : List UInt8) : ByteArray := ⟨l.toArray⟩
def Dg (l : List (List UInt8)) (sep : List UInt8) : Option (List UInt8) :=
  cond (Nat.ble l.length 140737488355328 && Nat.ble (Lib.join l sep).length 140737488355328) (some (Lib.join l sep)) none
theorem map_ba (l : List (List UInt8)) : (l.map ba).map (·.data.toList) = l := by
  rw [List.map_map]
  conv => rhs; rw [← List.map_id l]
  rfl
theorem E5 (A : Option Addr) (c : Nat) (l : List (List UInt8)) (sep : List UInt8) (w0 : World) (hr : RdT Qx w0 A c l) (r : List UInt8) (H : Dg l sep = some r) :
    Calls Tryz.prog 105 #[(.slice A (List.length l) c), (.string ⟨List.toArray sep⟩)] w0 (fun e w' => e = .returned (.string ⟨List.toArray r⟩) ∧ SP [] w0 w' []) := by
  unfold Dg at H
  cases hc : (Nat.ble l.length 140737488355328 && Nat.ble (Lib.join l sep).length 140737488355328) <;> rw [hc] at H
  · cases H
  injection H with H
  subst H
  rw [Bool.and_eq_true] at hc
  have h1 := Nat.le_of_ble_eq_true hc.1
  have h2 := Nat.le_of_ble_eq_true hc.2
  obtain ⟨_, hle, _, h4⟩ := hr
  by_cases h0 : l = []
  · subst h0
    refine (Tryz.strings_Join_none A c ⟨sep.toArray⟩ w0).mono ?_
    rintro e w' ⟨rfl, rfl⟩
    exact ⟨rfl, Q0 [] w'⟩
  · obtain ⟨b, off, rfl, hb, hcell⟩ := h4 (by cases l with | nil => exact absurd rfl h0 | cons x r => simp)
    have hlen : (l.map ba).length = l.length := by simp
    have := Tryz.strings_Join b off c (l.map ba) ⟨sep.toArray⟩ w0 (fun j x hj => by
      rw [List.getElem?_map] at hj
      cases hx : l[j]? with
      | none => rw [hx] at hj; cases hj
      | some y =>
        rw [hx] at hj
        injection hj with hj
        subst hj
        have := Cg Qx (l := l) (i := j) (x := y) hx (j := 0) (u := .string ⟨y.toArray⟩) rfl
        have h9 := hcell _ _ this
        simpa [Qx, ba] using h9) hb (by rw [hlen]; exact h1) (by rw [hlen]; exact hle) (by rw [map_ba]; exact h2)
    rw [map_ba, hlen] at this
    refine this.mono ?_
    rintro e w' ⟨rfl, hbel⟩
    exact ⟨rfl, Lg hbel⟩
def G9 (s cs : List UInt8) : Option (List UInt8) :=
  cond (Nat.ble s.length 9223372036854775807 && (Nat.ble cs.length 4294967280 && cs.all (fun b => Nat.ble b.toNat 127))) (some (Lib.trimS s cs)) none
theorem E6 (s cs : List UInt8) (w0 : World) (r : List UInt8) (H : G9 s cs = some r) :
    Calls Tryz.prog 98 #[(.string ⟨List.toArray s⟩), (.string ⟨List.toArray cs⟩)] w0 (fun e w' => e = .returned (.string ⟨List.toArray r⟩) ∧ SP [] w0 w' []) := by
  unfold G9 at H
  cases hc : (Nat.ble s.length 9223372036854775807 && (Nat.ble cs.length 4294967280 && cs.all (fun b => Nat.ble b.toNat 127))) <;> rw [hc] at H
  · cases H
  injection H with H
  subst H
  rw [Bool.and_eq_true, Bool.and_eq_true, List.all_eq_true] at hc
  have h1 := Nat.le_of_ble_eq_true hc.1
  have h2 := Nat.le_of_ble_eq_true hc.2.1
  refine (Any.strings_Trim_laid Lf (by kernel_rfl) ⟨s.toArray⟩ ⟨cs.toArray⟩ w0 (by rw [Rh]; exact h1) (by rw [Rh]; omega) (fun j b hj => by
    have := Nat.le_of_ble_eq_true (hc.2.2 b (List.mem_of_getElem? hj))
    omega)).mono ?_
  rintro e w' ⟨rfl, hbel⟩
  exact ⟨rfl, Lg hbel⟩
end Go.Proofs.YtmgfanhcdfobhaaGreatDoor
namespace Go.Proofs.YtmgfanhcdfobhaaGreatDoor
open Go.RowKit
def Ee : String := "internal/strconv.uint64pow10"
theorem O2 : ∃ g, Tryz.prog.globalNamed Ee = some g := Option.isSome_iff_exists.mp (by kernel_rfl)
structure Fn (w : World) : Prop where
  tab : Lib.TabIs Tryz.prog w Ee .u64 Lib.pow10Tab
  here : ∀ g, Tryz.prog.globalNamed Ee = some g → g < w.heap.size
theorem Y9 {w w' : World} (h : Fn w) (hb : Below w.heap.size w w') : Fn w' := by
  obtain ⟨g, hg⟩ := O2
  refine ⟨?_, fun k hk => Nat.lt_of_lt_of_le (h.here k hk) hb.size⟩
  exact Go.var?_below hb hg (h.here g hg) h.tab
def Nu (n base : Int) : Option (List UInt8) := cond (base == 10 && (decide (-9223372036854775808 ≤ n) && decide (n ≤ 9223372036854775807))) (some (Lib.itoa n)) none
theorem Bu (n base : Int) (w0 : World) (hL : Fn w0) (r : List UInt8) (H : Nu n base = some r) :
    Calls Tryz.prog 106 #[(.int .i64 n), (.int .i64 base)] w0 (fun e w' => e = .returned (.string ⟨List.toArray r⟩) ∧ SP [] w0 w' []) := by
  unfold Nu at H
  cases hc : (base == 10 && (decide (-9223372036854775808 ≤ n) && decide (n ≤ 9223372036854775807))) <;> rw [hc] at H
  · cases H
  injection H with H
  subst H
  simp only [Bool.and_eq_true, beq_iff_eq, decide_eq_true_eq] at hc
  obtain ⟨rfl, h0, h1⟩ := hc
  refine (Tryz.strconv_FormatInt_10 n h0 h1 w0 hL.tab).mono ?_
  rintro e w' ⟨rfl, k, os, rfl⟩
  exact ⟨rfl, Rr (Go.Lib.below_grow w0.heap.size w0 (Nat.le_refl _) k os) [], trivial⟩
end Go.Proofs.YtmgfanhcdfobhaaGreatDoor
namespace Go.Proofs.YtmgfanhcdfobhaaGreatDoor
open Go.RowKit
def Gb (p1 : Int) (v3 : Bool) : Option ((List UInt8)) :=
  (cond v3 (some (([] : List UInt8))) ((Nu p1 10).bind fun z7 => (some (z7))))
def Gy (p1 : Int) : Option ((List UInt8)) :=
  (cond (decide (p1 < 0)) (Gb p1 true) (Gb p1 (decide (p1 > 1099511627776))))
theorem Bf  (p1 : Int) (w0 : World) (hL : Fn w0)  (r : ((List UInt8))) (H : Gy p1 = some r) :
  Calls Tryz.prog 97 #[(.int .i64 p1)] w0 (fun e w' => e = .returned (.string ⟨List.toArray r⟩) ∧ SP [] w0 w' []) := by
 unfold Gy at H
 refine Qs (n := 11) Tryz.func97 K K K ?_
 have f := Q0 [] w0
 refine aQ ?_
 refine aR ?_
 refine iR 1 1 [(2, (.string ⟨List.toArray ([] : List UInt8)⟩))] ?_
 refine iF ?_
 refine aQ ?_
 refine aQ ?_
 refine At.join (fun ρ w => ∃ (v3 : Bool), V6 ρ [(0, (.int .i64 p1)), (8, (.bool v3))] ∧ SP [] w0 w [] ∧ Gb p1 v3 = some r) ?_ ?_
 ·refine aR ?_
  refine iR 3 3 [(3, (.int .i64 p1)), (4, (.bool (decide (p1 < 0)))), (5, (.bool (decide (p1 < 0))))] ?_
  refine In.guard (t := 5) (b := (decide (p1 < 0))) K (fun a => ?_) (fun a => ?_)
  ·have H := ct H a
   refine iR 3 6 [(6, undef), (7, undef), (8, (.bool true))] ?_
   refine iF ?_
   exact ⟨true, ⟨K, K, trivial⟩, SP.sel f [] rfl rfl, H⟩
  ·have H := cf H a
   refine iR 3 6 [(6, (.int .i64 p1)), (7, (.bool (decide (p1 > 1099511627776)))), (8, (.bool (decide (p1 > 1099511627776))))] ?_
   refine iF ?_
   exact ⟨(decide (p1 > 1099511627776)), ⟨K, K, trivial⟩, SP.sel f [] rfl rfl, H⟩
 ·rintro ρ w4 ⟨v3, hk, c, H⟩
  unfold Gb at H
  first | refine At.known [(0, (.int .i64 p1)), (8, (.bool v3))] hk ?_ | rw [← Qv (l := [(0, (.int .i64 p1)), (8, (.bool v3))]) hk]
  refine V1 K (o := (.tmp 8)) K (b := v3) K (fun d => ?_) (fun d => ?_)
  ·have H := ct H d
   refine aQ ?_
   refine aR ?_
   refine iR 1 1 [(2, (.string ⟨List.toArray ([] : List UInt8)⟩))] ?_
   refine iF ?_
   refine At.ret K ?_
   refine ⟨(.string ⟨List.toArray ([] : List UInt8)⟩), K, ?_⟩
   obtain rfl := Qe H
   exact ⟨rfl, SP.sel c [] rfl rfl⟩
  ·have H := cf H d
   refine At.skip K ?_
   refine aQ ?_
   refine aR ?_
   refine iR 1 1 [(9, (.int .i64 p1))] ?_
   obtain ⟨z7, h, H⟩ := Qb H
   refine iS 2 ?_
   refine cF 106 #[(.tmp 9), (.const (.int .i64 (10)))] #[2, 3] 10 Tryz.call106 (Bu  p1 10 w4 (Y9 hL (SP.keeps c)) z7 h) ?_
   rintro e w9 ⟨rfl, g⟩
   refine ⟨_, rfl, ?_⟩
   have i := SP.call c g
   clear g
   refine iR 1 3 [(2, (.string ⟨List.toArray z7⟩))] ?_
   refine iF ?_
   refine At.ret K ?_
   refine ⟨(.string ⟨List.toArray z7⟩), K, ?_⟩
   obtain rfl := Qe H
   exact ⟨rfl, SP.sel i [] rfl rfl⟩
end Go.Proofs.YtmgfanhcdfobhaaGreatDoor
namespace Go.Proofs.YtmgfanhcdfobhaaGreatDoor
open Go.RowKit
def Yt (a : Bool) : Option (Bool) :=
  (some (a))
def U3 (p1 : (List UInt8)) : Option (Bool) :=
  (cond (!(p1 == ([] : List UInt8))) (cond (decide (((List.length p1 : Nat) : Int) ≤ 20)) ((G9 p1 ([97, 98, 99, 100, 101, 102, 103, 104, 105, 106, 107, 108, 109, 110, 111, 112, 113, 114, 115, 116, 117, 118, 119, 120, 121, 122, 48, 49, 50, 51, 52, 53, 54, 55, 56, 57, 45] : List UInt8)).bind fun a => (cond (a == ([] : List UInt8)) ((idx p1 0).bind fun b => (cond (((b).toNat : Int) != 45) ((idx p1 (IntKind.wrap .i64 (((List.length p1 : Nat) : Int) - 1))).bind fun c => (Yt (((c).toNat : Int) != 45))) (Yt false))) (Yt false))) (Yt false)) (Yt false))
theorem Bg  (p1 : (List UInt8)) (w0 : World)  (r : (Bool)) (H : U3 p1 = some r) :
  Calls Tryz.prog 83 #[(.string ⟨List.toArray p1⟩)] w0 (fun e w' => e = .returned (.bool r) ∧ SP [] w0 w' []) := by
 unfold U3 at H
 refine Qs (n := 28) Tryz.func83 K K K ?_
 have i := Q0 [] w0
 refine aQ ?_
 refine aR ?_
 refine iR 1 1 [(2, (.bool false))] ?_
 refine iF ?_
 refine aQ ?_
 refine At.join (fun ρ w => ∃ (c : Bool), V6 ρ [(2, (.bool c))] ∧ SP [] w0 w [] ∧ Yt c = some r) ?_ ?_
 ·refine aR ?_
  refine iR 1 1 [(3, (.string ⟨List.toArray p1⟩))] ?_
  refine iS 2 ?_
  refine V0 (op := .neq) (T := 9) (T' := 9) (x := (.tmp 3)) (y := (.const (.string ⟨List.toArray ([] : List UInt8)⟩))) (a := p1) (b := ([] : List UInt8)) (r := (.bool (!(p1 == ([] : List UInt8))))) (d := (some 4)) (k := 1) K rfl K K rfl ?_
  refine iR 1 3 [(5, (.bool (!(p1 == ([] : List UInt8)))))] ?_
  refine In.guard (t := 5) (b := (!(p1 == ([] : List UInt8)))) K (fun j => ?_) (fun j => ?_)
  ·have H := ct H j
   refine iR 5 8 [(6, (.string ⟨List.toArray p1⟩)), (7, (.int .i64 ((List.length p1 : Nat) : Int))), (8, (.bool (decide (((List.length p1 : Nat) : Int) ≤ 20)))), (9, (.bool (decide (((List.length p1 : Nat) : Int) ≤ 20)))), (10, (.bool (decide (((List.length p1 : Nat) : Int) ≤ 20))))] ?_
   refine In.guard (t := 10) (b := (decide (((List.length p1 : Nat) : Int) ≤ 20))) K (fun m => ?_) (fun m => ?_)
   ·have H := ct H m
    refine iR 1 9 [(11, (.string ⟨List.toArray p1⟩))] ?_
    obtain ⟨f, v, H⟩ := Qb H
    refine iS 10 ?_
    refine cF 98 #[(.tmp 11), (.const (.string ⟨List.toArray ([97, 98, 99, 100, 101, 102, 103, 104, 105, 106, 107, 108, 109, 110, 111, 112, 113, 114, 115, 116, 117, 118, 119, 120, 121, 122, 48, 49, 50, 51, 52, 53, 54, 55, 56, 57, 45] : List UInt8)⟩))] #[9, 9] 12 Tryz.call98 (E6  p1 ([97, 98, 99, 100, 101, 102, 103, 104, 105, 106, 107, 108, 109, 110, 111, 112, 113, 114, 115, 116, 117, 118, 119, 120, 121, 122, 48, 49, 50, 51, 52, 53, 54, 55, 56, 57, 45] : List UInt8) w0  f v) ?_
    rintro e a4 ⟨rfl, s⟩
    refine ⟨_, rfl, ?_⟩
    have o := SP.call i s
    clear s
    refine iS 11 ?_
    refine V0 (op := .eql) (T := 9) (T' := 9) (x := (.tmp 12)) (y := (.const (.string ⟨List.toArray ([] : List UInt8)⟩))) (a := f) (b := ([] : List UInt8)) (r := (.bool (f == ([] : List UInt8)))) (d := (some 13)) (k := 10) K rfl K K rfl ?_
    refine iR 2 13 [(14, (.bool (f == ([] : List UInt8)))), (15, (.bool (f == ([] : List UInt8))))] ?_
    refine In.guard (t := 15) (b := (f == ([] : List UInt8))) K (fun p => ?_) (fun p => ?_)
    ·have H := ct H p
     refine iR 1 14 [(16, (.string ⟨List.toArray p1⟩))] ?_
     obtain ⟨g, z, a5, a0, H⟩ := Qo H
     refine iS 15 ?_
     refine Gr (a := p1) (u := g) (T := 9) (x := (.tmp 16)) (ix := (.const (.int .i64 (0)))) (ki := .i64) (iz := 0) (d := (some 17)) (k := 14) K rfl K K K z a0 ?_
     refine iR 3 18 [(18, (.bool (((g).toNat : Int) != 45))), (19, (.bool (((g).toNat : Int) != 45))), (20, (.bool (((g).toNat : Int) != 45)))] ?_
     refine In.guard (t := 20) (b := (((g).toNat : Int) != 45)) K (fun q => ?_) (fun q => ?_)
     ·have H := ct H q
      refine iR 4 22 [(21, (.string ⟨List.toArray p1⟩)), (22, (.string ⟨List.toArray p1⟩)), (23, (.int .i64 ((List.length p1 : Nat) : Int))), (24, (.int .i64 (IntKind.wrap .i64 (((List.length p1 : Nat) : Int) - 1))))] ?_
      obtain ⟨h, a1, a6, a2, H⟩ := Qo H
      refine iS 23 ?_
      refine Gr (a := p1) (u := h) (T := 9) (x := (.tmp 21)) (ix := (.tmp 24)) (ki := .i64) (iz := (IntKind.wrap .i64 (((List.length p1 : Nat) : Int) - 1))) (d := (some 25)) (k := 22) K rfl K K K a1 a2 ?_
      refine iR 3 26 [(26, (.bool (((h).toNat : Int) != 45))), (27, (.bool (((h).toNat : Int) != 45))), (2, (.bool (((h).toNat : Int) != 45)))] ?_
      refine iF ?_
      exact ⟨(((h).toNat : Int) != 45), ⟨K, trivial⟩, SP.sel o [] rfl rfl, H⟩
     ·have H := cf H q
      refine iR 8 26 [(21, undef), (22, undef), (23, undef), (24, undef), (25, undef), (26, undef), (27, (.bool false)), (2, (.bool false))] ?_
      refine iF ?_
      exact ⟨false, ⟨K, trivial⟩, SP.sel o [] rfl rfl, H⟩
    ·have H := cf H p
     refine iR 13 26 [(16, undef), (17, undef), (18, undef), (19, (.bool false)), (20, (.bool false)), (21, undef), (22, undef), (23, undef), (24, undef), (25, undef), (26, undef), (27, (.bool false)), (2, (.bool false))] ?_
     refine iF ?_
     exact ⟨false, ⟨K, trivial⟩, SP.sel o [] rfl rfl, H⟩
   ·have H := cf H m
    refine iR 18 26 [(11, undef), (12, undef), (13, undef), (14, (.bool false)), (15, (.bool false)), (16, undef), (17, undef), (18, undef), (19, (.bool false)), (20, (.bool false)), (21, undef), (22, undef), (23, undef), (24, undef), (25, undef), (26, undef), (27, (.bool false)), (2, (.bool false))] ?_
    refine iF ?_
    exact ⟨false, ⟨K, trivial⟩, SP.sel i [] rfl rfl, H⟩
  ·have H := cf H j
   refine iR 23 26 [(6, undef), (7, undef), (8, undef), (9, (.bool false)), (10, (.bool false)), (11, undef), (12, undef), (13, undef), (14, (.bool false)), (15, (.bool false)), (16, undef), (17, undef), (18, undef), (19, (.bool false)), (20, (.bool false)), (21, undef), (22, undef), (23, undef), (24, undef), (25, undef), (26, undef), (27, (.bool false)), (2, (.bool false))] ?_
   refine iF ?_
   exact ⟨false, ⟨K, trivial⟩, SP.sel i [] rfl rfl, H⟩
 ·rintro ρ a7 ⟨c, hk, a3, H⟩
  unfold Yt at H
  first | refine At.known [(2, (.bool c))] hk ?_ | rw [← Qv (l := [(2, (.bool c))]) hk]
  refine At.ret K ?_
  refine ⟨(.bool c), K, ?_⟩
  obtain rfl := Qe H
  exact ⟨rfl, SP.sel a3 [] rfl rfl⟩
def J5 (c : (List (List UInt8)) → Int → Option ((List UInt8))) (p1 : Int) (b : (List (List UInt8))) (a : Int) : Option ((List UInt8)) :=
  (cond (decide (a < 4)) ((chk (decide (0 ≤ (IntKind.wrap .i64 (24 - (IntKind.wrap .i64 (8 * a))))))).bind fun _ => ((Gy (IntKind.wrap .i64 (IntKind.wrap .u8 (Nm .u32 p1 (IntKind.wrap .i64 (24 - (IntKind.wrap .i64 (8 * a)))))))).bind fun d => ((app b ([d] : List (List UInt8))).bind fun e => (c e (IntKind.wrap .i64 (a + 1)))))) ((Dg b ([46] : List UInt8)).bind fun f => (some (f))))
def Jc (p1 : Int) : Nat → (List (List UInt8)) → Int → Option ((List UInt8))
  | 0, _, _ => none
  | f + 1, a, b => J5  (Jc p1 f) p1 a b
def Rw (p1 : Int) : Option ((List UInt8)) :=
  (Jc p1 Zj ([] : List (List UInt8)) 0)
theorem Fo  (p1 : Int) (w0 : World) (hL : Fn w0)  (r : ((List UInt8))) (H : Rw p1 = some r) :
  Calls Tryz.prog 96 #[(.int .u32 p1)] w0 (fun e w' => e = .returned (.string ⟨List.toArray r⟩) ∧ SP [] w0 w' []) := by
 unfold Rw at H
 refine Qs (n := 22) Tryz.func96 K K K ?_
 have a6 := Q0 [] w0
 refine aQ ?_
 refine aR ?_
 refine iR 1 1 [(2, (.string ⟨List.toArray ([] : List UInt8)⟩))] ?_
 refine iF ?_
 refine aQ ?_
 refine aR ?_
 refine iR 1 1 [(3, (.slice none (List.length ([] : List (List UInt8))) 0))] ?_
 refine iF ?_
 refine aQ ?_
 refine aQ ?_
 refine aR ?_
 refine iR 1 1 [(5, (.int .i64 0))] ?_
 refine iF ?_
 refine Z1 K (id := 0) K ?_
 refine Nl K (fun f1 ρ w => ∃ (g : (List (List UInt8))) (f : Int) (h : Option Addr) (j : Nat), V6 ρ [(0, (.int .u32 p1)), (3, (.slice h (List.length g) j)), (5, (.int .i64 f))] ∧ SP [] w0 w [Yc 9 Qx h j g] ∧ Jc p1 f1 g f = some r) (by rintro ρ w ⟨g, f, h, j, hk, hs, H⟩; cases H) ?_ Zj ?_
 ·rintro f1 ρ z ⟨g, f, h, j, hk, q, H⟩
  refine At.known [(0, (.int .u32 p1)), (3, (.slice h (List.length g) j)), (5, (.int .i64 f))] hk ?_
  replace H := (show J5 (Jc p1 f1) p1 g f = some r from H)
  unfold J5 at H
  refine aQ ?_
  refine aR ?_
  refine iR 1 1 [(6, (.bool (decide (f < 4))))] ?_
  refine iF ?_
  refine aQ ?_
  refine V1 K (o := (.tmp 6)) K (b := (decide (f < 4))) K (fun t => ?_) (fun t => ?_)
  ·have H := ct H t
   refine At.skip K ?_
   refine aQ ?_
   refine Z1 K (id := 1) K ?_
   refine aQ ?_
   refine aR ?_
   refine iR 2 2 [(7, (.int .i64 f)), (4, (.int .i64 f))] ?_
   refine iF ?_
   refine aR ?_
   refine iR 5 5 [(8, (.slice h (List.length g) j)), (9, (.int .u32 p1)), (10, (.int .i64 f)), (11, (.int .i64 (IntKind.wrap .i64 (8 * f)))), (12, (.int .i64 (IntKind.wrap .i64 (24 - (IntKind.wrap .i64 (8 * f))))))] ?_
   obtain ⟨hl63, H⟩ := V4 H
   refine iS 6 ?_
   refine Qi.shift (op := .shr) (T := 111) (T' := 3) (x := (.tmp 9)) (y := (.tmp 12)) (kx := .u32) (ky := .i64) (a := p1) (b := (IntKind.wrap .i64 (24 - (IntKind.wrap .i64 (8 * f))))) (v := (.int .u32 (Nm .u32 p1 (IntKind.wrap .i64 (24 - (IntKind.wrap .i64 (8 * f))))))) (d := (some 13)) (k := 5) K rfl K K (of_decide_eq_true hl63) rfl ?_
   refine iR 2 8 [(14, (.int .u8 (IntKind.wrap .u8 (Nm .u32 p1 (IntKind.wrap .i64 (24 - (IntKind.wrap .i64 (8 * f)))))))), (15, (.int .i64 (IntKind.wrap .i64 (IntKind.wrap .u8 (Nm .u32 p1 (IntKind.wrap .i64 (24 - (IntKind.wrap .i64 (8 * f)))))))))] ?_
   obtain ⟨p, a7, H⟩ := Qb H
   refine iS 9 ?_
   refine cF 97 #[(.tmp 15)] #[2] 16 Tryz.call97 (Bf  (IntKind.wrap .i64 (IntKind.wrap .u8 (Nm .u32 p1 (IntKind.wrap .i64 (24 - (IntKind.wrap .i64 (8 * f))))))) z (Y9 hL (SP.keeps q)) p a7) ?_
   rintro e b3 ⟨rfl, a0⟩
   refine ⟨_, rfl, ?_⟩
   have a8 := SP.call q a0
   clear a0
   refine iS 10 ?_
   refine Zv (e := Qx) (T := 53) (E := 9) (len := 1) (parts := #[(0, (.tmp 16))]) (cs := #[(.string ⟨List.toArray p⟩)]) ([p] : List (List UInt8)) (d := (some 17)) (k := 9) K rfl (fun _ => K) a8 rfl rfl rfl rfl ?_
   intro a9 b4 a1
   obtain ⟨hl74, H⟩ := Uh H
   obtain ⟨a2, hyl75⟩ : ∃ y, g ++ ([p] : List (List UInt8)) = y := ⟨_, rfl⟩
   rw [hyl75] at H
   refine iS 11 ?_
   refine Qi.append (e := Qx) (l := g) (m := ([p] : List (List UInt8))) (A := h) (c := j) (T := 53) (TX := 53) (E := 9) (b := 16) (s := (.tmp 8)) (x := (.tmp 17)) (i := 0) (vx := (.slice (some ⟨a9, 0, none⟩) (List.length ([p] : List (List UInt8))) (List.length ([p] : List (List UInt8))))) (d := (some 18)) (k := 10) K rfl K K K K rfl a1 rfl (Rk (E := 9) K (Vs (SP.get a1 (i := 1) rfl))) hl74 ?_
   rw [hyl75]
   intro a3 a4 b5 b0
   refine iR 1 12 [(3, (.slice a3 (List.length a2) a4))] ?_
   refine iF ?_
   refine aR ?_
   refine iR 2 2 [(19, (.int .i64 (IntKind.wrap .i64 (f + 1)))), (5, (.int .i64 (IntKind.wrap .i64 (f + 1))))] ?_
   refine iF ?_
   exact ⟨a2, (IntKind.wrap .i64 (f + 1)), a3, a4, ⟨K, K, K, trivial⟩, SP.sel b0 [0] rfl rfl, H⟩
  ·have H := cf H t
   refine At.exit K (id := 0) K ?_
   refine aQ ?_
   refine aR ?_
   refine iR 1 1 [(20, (.slice h (List.length g) j))] ?_
   obtain ⟨u, b1, H⟩ := Qb H
   refine iS 2 ?_
   refine cF 105 #[(.tmp 20), (.const (.string ⟨List.toArray ([46] : List UInt8)⟩))] #[53, 9] 21 Tryz.call105 (E5 h j g ([46] : List UInt8) z (Vs (SP.get q (i := 0) rfl)) u b1) ?_
   rintro e b6 ⟨rfl, a5⟩
   refine ⟨_, rfl, ?_⟩
   have b2 := SP.call q a5
   clear a5
   refine iR 1 3 [(2, (.string ⟨List.toArray u⟩))] ?_
   refine iF ?_
   refine At.ret K ?_
   refine ⟨(.string ⟨List.toArray u⟩), K, ?_⟩
   obtain rfl := Qe H
   exact ⟨rfl, SP.sel b2 [] rfl rfl⟩
 ·exact ⟨([] : List (List UInt8)), 0, none, 0, ⟨K, K, K, trivial⟩, SP.sel (D4 a6 9 Qx) [0] rfl rfl, H⟩
def Rx (p1 : Int) : Option (Int) :=
  ((chk (decide (0 ≤ (IntKind.wrap .i64 (32 - p1))))).bind fun _ => (some ((Ns .u32 4294967295 (IntKind.wrap .i64 (32 - p1))))))
theorem Fp  (p1 : Int) (w0 : World)  (r : (Int)) (H : Rx p1 = some r) :
  Calls Tryz.prog 104 #[(.int .i64 p1)] w0 (fun e w' => e = .returned (.int .u32 r) ∧ SP [] w0 w' []) := by
 unfold Rx at H
 refine Qs (n := 6) Tryz.func104 K K K ?_
 have c := Q0 [] w0
 refine aQ ?_
 refine aR ?_
 refine iR 1 1 [(2, (.int .u32 0))] ?_
 refine iF ?_
 refine aQ ?_
 refine aR ?_
 refine iR 2 2 [(3, (.int .i64 p1)), (4, (.int .i64 (IntKind.wrap .i64 (32 - p1))))] ?_
 obtain ⟨hl2, H⟩ := V4 H
 refine iS 3 ?_
 refine Qi.shift (op := .shl) (T := 111) (T' := 3) (x := (.const (.int .u32 (4294967295)))) (y := (.tmp 4)) (kx := .u32) (ky := .i64) (a := 4294967295) (b := (IntKind.wrap .i64 (32 - p1))) (v := (.int .u32 (Ns .u32 4294967295 (IntKind.wrap .i64 (32 - p1))))) (d := (some 5)) (k := 2) K rfl K K (of_decide_eq_true hl2) rfl ?_
 refine iR 1 4 [(2, (.int .u32 (Ns .u32 4294967295 (IntKind.wrap .i64 (32 - p1)))))] ?_
 refine iF ?_
 refine At.ret K ?_
 refine ⟨(.int .u32 (Ns .u32 4294967295 (IntKind.wrap .i64 (32 - p1)))), K, ?_⟩
 obtain rfl := Qe H
 exact ⟨rfl, SP.sel c [] rfl rfl⟩
def Uk (a : Bool) : Option (Bool) :=
  (some (a))
def Ra (b : Int) (a : Int) : Option (Bool) :=
  (cond (decide (a ≥ 0)) (cond (decide (a ≤ 32)) ((Rx a).bind fun c => (Uk ((R8 .u32 b c) == 0))) (Uk false)) (Uk false))
theorem E7  (f : Int) (a : Int) (w0 : World)  (r : (Bool)) (H : Ra f a = some r) :
  Calls Tryz.prog 95 #[(.agg #[(.int .u32 f), (.int .i64 a)])] w0 (fun e w' => e = .returned (.bool r) ∧ SP [] w0 w' []) := by
 unfold Ra at H
 refine Qs (n := 20) Tryz.func95 K K K ?_
 have z := Q0 [] w0
 refine aQ ?_
 refine aR ?_
 refine iS 1 ?_
 refine Vn (t := 113) (x := (.tmp 0)) (v := (.agg #[(.int .u32 f), (.int .i64 a)])) (d := (some 1)) (k := 0) K rfl K z ?_
 intro g3 w4 o
 refine iR 1 2 [(2, (.bool false))] ?_
 refine iF ?_
 refine aQ ?_
 refine At.join (fun ρ w => ∃ (m : Bool), V6 ρ [(2, (.bool m))] ∧ SP [] w0 w [] ∧ Uk m = some r) ?_ ?_
 ·rcases Bool.eq_false_or_eq_true (decide (a ≥ 0)) with h | h
  ·have H := ct H h
   rcases Bool.eq_false_or_eq_true (decide (a ≤ 32)) with c | c
   ·have H := ct H c
    obtain ⟨i, a0, H⟩ := Qb H
    refine aG [GEq (pt g3 1), GEq (.int .i64 a), GEq (.bool (decide (a ≥ 0))), GEq (.bool (decide (a ≥ 0))), GEq (pt g3 1), GEq (.int .i64 a), GEq (.bool (decide (a ≤ 32))), GEq (.bool (decide (a ≤ 32))), GEq (.bool (decide (a ≤ 32))), GEq (pt g3 0), GEq (.int .u32 f), GEq (pt g3 1), GEq (.int .i64 a), GEq (.int .u32 i), GEq (.int .u32 (R8 .u32 f i)), GEq (.bool ((R8 .u32 f i) == 0)), GEq (.bool ((R8 .u32 f i) == 0)), GEq (.bool ((R8 .u32 f i) == 0))] [13] (tG [] w0 [Qn g3 113 #[(.int .u32 f), (.int .i64 a)]] [([], []), ([13], [(.int .u32 i)])]) 18 1 ⟨trivial, SP.drew o⟩ ?_ ?_
    iterate 18 refine And.intro ?_ ?_
    exact trivial
    ·exact oV (hC (hS 1 (pt g3 0)) (h0)) (pt g3 1)
    ·refine oL 0 ?_
     ·rintro ρ' w' hs b ⟨b7, a1⟩
      refine kM (kc (kA b 0 3) k0) fun g => ?_
      refine sL 3 3 g3 1 0 (.int .i64 a) 4 a1 rfl ?_
      exact eK g
    ·exact oV (hC (hA 1 4) (h0)) (.bool (decide (a ≥ 0)))
    ·exact oV (hC (hA 2 5) (h0)) (.bool (decide (a ≥ 0)))
    ·exact oV (hC (hS 1 (pt g3 0)) (hC (hB 3 6 h) (h0))) (pt g3 1)
    ·refine oL 0 ?_
     ·rintro ρ' w' hs b ⟨b8, a2⟩
      have e7 := b 4 7 K
      have e6 := b 3 6 K
      refine kN [(7, (pt g3 1)), (6, (.bool true))] ⟨e7, (Eq.trans e6 (congrArg Value.bool h)), trivial⟩ fun g => ?_
      refine sL 3 7 g3 1 0 (.int .i64 a) 8 a2 rfl ?_
      exact eK g
    ·exact oV (hC (hA 5 8) (hC (hB 3 6 h) (h0))) (.bool (decide (a ≤ 32)))
    ·exact oV (hC (hB 3 6 h) (hC (hA 6 9) (h0))) (.bool (decide (a ≤ 32)))
    ·exact oV (hC (hA 7 10) (h0)) (.bool (decide (a ≤ 32)))
    ·exact oV (hC (hS 1 (pt g3 0)) (hC (hB 8 11 c) (h0))) (pt g3 0)
    ·refine Owe.light K [0, 1] K (Qf ?_ (Qf ?_ Q8))
     ·rintro ρ' w' hs b ⟨b9, a3⟩
      have p := b 9 12 K
      have j := b 8 11 K
      refine kN [(12, (pt g3 0)), (11, (.bool true))] ⟨p, (Eq.trans j (congrArg Value.bool c)), trivial⟩ fun g => ?_
      refine sL 111 12 g3 0 0 (.int .u32 f) 13 a3 rfl ?_
      exact eK g
     ·rintro ρ' w' hs b ⟨⟨c0, -⟩, a4⟩
      have p := b 9 12 K
      have j := b 8 11 K
      refine kN [(12, (pt g3 0)), (11, (.bool true))] ⟨p, (Eq.trans j (congrArg Value.bool c)), trivial⟩ fun g => ?_
      refine sL 111 12 g3 0 0 (.int .u32 f) 13 a4 rfl ?_
      exact eK g
    ·exact oV (hC (hS 1 (pt g3 0)) (hC (hB 8 11 c) (h0))) (pt g3 1)
    ·refine oL 0 ?_
     ·rintro ρ' w' hs b ⟨c1, a5⟩
      have a6 := b 11 14 K
      have j := b 8 11 K
      refine kN [(14, (pt g3 1)), (11, (.bool true))] ⟨a6, (Eq.trans j (congrArg Value.bool c)), trivial⟩ fun g => ?_
      refine sL 3 14 g3 1 0 (.int .i64 a) 15 a5 rfl ?_
      exact eK g
    ·refine oH 0 1 ?_
     ·rintro ρ' w' hs b ⟨c2, a7⟩
      have a8 := b 12 15 K
      have j := b 8 11 K
      refine kN [(15, (.int .i64 a)), (11, (.bool true))] ⟨a8, (Eq.trans j (congrArg Value.bool c)), trivial⟩ fun g => ?_
      refine cF 104 #[(.tmp 15)] #[3] 16 Tryz.call104 (Fp  a w'  i a0) ?_
      rintro e c3 ⟨rfl, q⟩
      refine ⟨_, rfl, ?_⟩
      have a9 := SP.call a7 q
      clear q
      refine ⟨_, Qa g, rfl, ?_⟩
      exact (And.intro (And.intro rfl (trivial)) (a9))
    ·exact oV (hC (hA 10 13) (hC (hA 13 16) (hC (hB 8 11 c) (h0)))) (.int .u32 (R8 .u32 f i))
    ·exact oV (hC (hA 14 17) (hC (hB 8 11 c) (h0))) (.bool ((R8 .u32 f i) == 0))
    ·exact oV (hC (hB 8 11 c) (hC (hA 15 18) (h0))) (.bool ((R8 .u32 f i) == 0))
    ·exact oV (hC (hA 16 19) (h0)) (.bool ((R8 .u32 f i) == 0))
    ·rintro ρ' w' hs hf ⟨⟨c4, -⟩, s⟩
     refine Q3 [(2, (.bool ((R8 .u32 f i) == 0)))] ⟨hf 17 2 K, trivial⟩ ?_
     obtain ⟨c5, b0⟩ : ∃ x, w' = x := ⟨_, rfl⟩
     rw [b0] at s ⊢
     exact ⟨((R8 .u32 f i) == 0), ⟨K, trivial⟩, SP.sel s [] rfl rfl, H⟩
   ·have H := cf H c
    refine aG [GEq (pt g3 1), GEq (.int .i64 a), GEq (.bool (decide (a ≥ 0))), GEq (.bool (decide (a ≥ 0))), GEq (pt g3 1), GEq (.int .i64 a), GEq (.bool (decide (a ≤ 32))), GEq (.bool (decide (a ≤ 32))), GEq (.bool (decide (a ≤ 32))), GEq undef, GEq undef, GEq undef, GEq undef, GEq undef, GEq undef, GEq undef, GEq (.bool false), GEq (.bool false)] [] (tG [] w0 [Qn g3 113 #[(.int .u32 f), (.int .i64 a)]] [([], [])]) 18 0 ⟨trivial, SP.drew o⟩ ?_ ?_
    iterate 18 refine And.intro ?_ ?_
    exact trivial
    ·exact oV (hC (hS 1 (pt g3 0)) (h0)) (pt g3 1)
    ·refine oL 0 ?_
     ·rintro ρ' w' hs b ⟨c6, b1⟩
      refine kM (kc (kA b 0 3) k0) fun g => ?_
      refine sL 3 3 g3 1 0 (.int .i64 a) 4 b1 rfl ?_
      exact eK g
    ·exact oV (hC (hA 1 4) (h0)) (.bool (decide (a ≥ 0)))
    ·exact oV (hC (hA 2 5) (h0)) (.bool (decide (a ≥ 0)))
    ·exact oV (hC (hS 1 (pt g3 0)) (hC (hB 3 6 h) (h0))) (pt g3 1)
    ·refine oL 0 ?_
     ·rintro ρ' w' hs b ⟨c7, b2⟩
      have e7 := b 4 7 K
      have e6 := b 3 6 K
      refine kN [(7, (pt g3 1)), (6, (.bool true))] ⟨e7, (Eq.trans e6 (congrArg Value.bool h)), trivial⟩ fun g => ?_
      refine sL 3 7 g3 1 0 (.int .i64 a) 8 b2 rfl ?_
      exact eK g
    ·exact oV (hC (hA 5 8) (hC (hB 3 6 h) (h0))) (.bool (decide (a ≤ 32)))
    ·exact oV (hC (hB 3 6 h) (hC (hA 6 9) (h0))) (.bool (decide (a ≤ 32)))
    ·exact oV (hC (hA 7 10) (h0)) (.bool (decide (a ≤ 32)))
    ·exact oW (hC (hB 8 11 c) (h0)) 12
    ·exact oW (hC (hB 8 11 c) (h0)) 13
    ·exact oW (hC (hB 8 11 c) (h0)) 14
    ·exact oW (hC (hB 8 11 c) (h0)) 15
    ·exact oW (hC (hB 8 11 c) (h0)) 16
    ·exact oW (hC (hB 8 11 c) (h0)) 17
    ·exact oW (hC (hB 8 11 c) (h0)) 18
    ·exact oV (hC (hB 8 11 c) (hC (hA 15 18) (h0))) (.bool false)
    ·exact oV (hC (hA 16 19) (h0)) (.bool false)
    ·rintro ρ' w' hs hf ⟨c8, u⟩
     refine Q3 [(2, (.bool false))] ⟨hf 17 2 K, trivial⟩ ?_
     obtain ⟨c9, b3⟩ : ∃ x, w' = x := ⟨_, rfl⟩
     rw [b3] at u ⊢
     exact ⟨false, ⟨K, trivial⟩, SP.sel u [] rfl rfl, H⟩
  ·have H := cf H h
   refine aG [GEq (pt g3 1), GEq (.int .i64 a), GEq (.bool (decide (a ≥ 0))), GEq (.bool (decide (a ≥ 0))), GEq undef, GEq undef, GEq undef, GEq (.bool false), GEq (.bool false), GEq undef, GEq undef, GEq undef, GEq undef, GEq undef, GEq undef, GEq undef, GEq (.bool false), GEq (.bool false)] [] (tG [] w0 [Qn g3 113 #[(.int .u32 f), (.int .i64 a)]] [([], [])]) 18 0 ⟨trivial, SP.drew o⟩ ?_ ?_
   iterate 18 refine And.intro ?_ ?_
   exact trivial
   ·exact oV (hC (hS 1 (pt g3 0)) (h0)) (pt g3 1)
   ·refine oL 0 ?_
    ·rintro ρ' w' hs b ⟨d0, b4⟩
     refine kM (kc (kA b 0 3) k0) fun g => ?_
     refine sL 3 3 g3 1 0 (.int .i64 a) 4 b4 rfl ?_
     exact eK g
   ·exact oV (hC (hA 1 4) (h0)) (.bool (decide (a ≥ 0)))
   ·exact oV (hC (hA 2 5) (h0)) (.bool (decide (a ≥ 0)))
   ·exact oW (hC (hB 3 6 h) (h0)) 7
   ·exact oW (hC (hB 3 6 h) (h0)) 8
   ·exact oW (hC (hB 3 6 h) (h0)) 9
   ·exact oV (hC (hB 3 6 h) (hC (hA 6 9) (h0))) (.bool false)
   ·exact oV (hC (hA 7 10) (h0)) (.bool false)
   ·exact oW (hC (hA 8 11) (h0)) 12
   ·exact oW (hC (hA 8 11) (h0)) 13
   ·exact oW (hC (hA 8 11) (h0)) 14
   ·exact oW (hC (hA 8 11) (h0)) 15
   ·exact oW (hC (hA 8 11) (h0)) 16
   ·exact oW (hC (hA 8 11) (h0)) 17
   ·exact oW (hC (hA 8 11) (h0)) 18
   ·exact oV (hC (hA 8 11) (hC (hA 15 18) (h0))) (.bool false)
   ·exact oV (hC (hA 16 19) (h0)) (.bool false)
   ·rintro ρ' w' hs hf ⟨d1, y⟩
    refine Q3 [(2, (.bool false))] ⟨hf 17 2 K, trivial⟩ ?_
    obtain ⟨d2, b5⟩ : ∃ x, w' = x := ⟨_, rfl⟩
    rw [b5] at y ⊢
    exact ⟨false, ⟨K, trivial⟩, SP.sel y [] rfl rfl, H⟩
 ·rintro ρ d3 ⟨m, hk, b6, H⟩
  unfold Uk at H
  first | refine At.known [(2, (.bool m))] hk ?_ | rw [← Qv (l := [(2, (.bool m))]) hk]
  refine At.ret K ?_
  refine ⟨(.bool m), K, ?_⟩
  obtain rfl := Qe H
  exact ⟨rfl, SP.sel b6 [] rfl rfl⟩
def Rb (a : Int) (b : Int) : Option ((List UInt8)) :=
  ((Ra a b).bind fun z7 => (cond (!z7) (some (([] : List UInt8))) ((Rw a).bind fun c => ((app c ([47] : List UInt8)).bind fun d => ((Gy b).bind fun e => ((app d e).bind fun f => (some (f))))))))
theorem E8  (i : Int) (g : Int) (w0 : World) (hL : Fn w0)  (r : ((List UInt8))) (H : Rb i g = some r) :
  Calls Tryz.prog 79 #[(.agg #[(.int .u32 i), (.int .i64 g)])] w0 (fun e w' => e = .returned (.string ⟨List.toArray r⟩) ∧ SP [] w0 w' []) := by
 unfold Rb at H
 refine Qs (n := 14) Tryz.func79 K K K ?_
 have a4 := Q0 [] w0
 refine aQ ?_
 refine aR ?_
 refine iS 1 ?_
 refine Vn (t := 113) (x := (.tmp 0)) (v := (.agg #[(.int .u32 i), (.int .i64 g)])) (d := (some 1)) (k := 0) K rfl K a4 ?_
 intro g3 w4 s
 refine iR 1 2 [(2, (.string ⟨List.toArray ([] : List UInt8)⟩))] ?_
 refine iF ?_
 refine aQ ?_
 refine aQ ?_
 refine aR ?_
 refine iS 1 ?_
 refine sL 113 1 g3 0 0 (.agg #[(.int .u32 i), (.int .i64 g)]) 3 s rfl ?_
 obtain ⟨z7, a5, H⟩ := Qb H
 refine iS 2 ?_
 refine cF 95 #[(.tmp 3)] #[113] 4 Tryz.call95 (E7  i g w4  z7 a5) ?_
 rintro e w9 ⟨rfl, u⟩
 refine ⟨_, rfl, ?_⟩
 have w := SP.call s u
 clear u
 refine iR 1 3 [(5, (.bool (!z7)))] ?_
 refine iF ?_
 refine V1 K (o := (.tmp 5)) K (b := (!z7)) K (fun q => ?_) (fun q => ?_)
 ·have H := ct H q
  refine aQ ?_
  refine aR ?_
  refine iR 1 1 [(2, (.string ⟨List.toArray ([] : List UInt8)⟩))] ?_
  refine iF ?_
  refine At.ret K ?_
  refine ⟨(.string ⟨List.toArray ([] : List UInt8)⟩), K, ?_⟩
  obtain rfl := Qe H
  exact ⟨rfl, SP.sel w [] rfl rfl⟩
 ·have H := cf H q
  refine At.skip K ?_
  refine aQ ?_
  obtain ⟨j, a6, H⟩ := Qb H
  obtain ⟨hl21, H⟩ := Uh H
  obtain ⟨p, hyl20⟩ : ∃ y, j ++ ([47] : List UInt8) = y := ⟨_, rfl⟩
  rw [hyl20] at H
  obtain ⟨l, a7, H⟩ := Qb H
  obtain ⟨hl29, H⟩ := Uh H
  obtain ⟨m, hyl28⟩ : ∃ y, p ++ l = y := ⟨_, rfl⟩
  rw [hyl28] at H
  refine aG [GEq (pt g3 0), GEq (.int .u32 i), GEq (.string ⟨List.toArray j⟩), GEq (.string ⟨List.toArray p⟩), GEq (pt g3 1), GEq (.int .i64 g), GEq (.string ⟨List.toArray l⟩), GEq (.string ⟨List.toArray m⟩), GEq (.string ⟨List.toArray m⟩)] [2, 6] (tG [] w0 [Qn g3 113 #[(.int .u32 i), (.int .i64 g)]] [([], []), ([2], [(.string ⟨List.toArray j⟩)]), ([2, 6], [(.string ⟨List.toArray j⟩), (.string ⟨List.toArray l⟩)])]) 9 2 ⟨trivial, SP.drew w⟩ ?_ ?_
  iterate 9 refine And.intro ?_ ?_
  exact trivial
  ·exact oV (hC (hS 1 (pt g3 0)) (h0)) (pt g3 0)
  ·refine oL 0 ?_
   ·rintro ρ' w' hs f ⟨b8, a8⟩
    refine kM (kc (kA f 0 6) k0) fun c => ?_
    refine sL 111 6 g3 0 0 (.int .u32 i) 7 a8 rfl ?_
    exact eK c
  ·refine oH 0 1 ?_
   ·rintro ρ' w' hs f ⟨b9, z⟩
    refine kM (kc (kA f 1 7) k0) fun c => ?_
    refine cF 96 #[(.tmp 7)] #[111] 8 Tryz.call96 (Fo  i w' (Y9 hL (SP.keeps z)) j a6) ?_
    rintro e c0 ⟨rfl, a0⟩
    refine ⟨_, rfl, ?_⟩
    have a9 := SP.call z a0
    clear a0
    refine ⟨_, Qa c, rfl, ?_⟩
    exact (And.intro (And.intro rfl (trivial)) (a9))
  ·refine Owe.light K [1, 2] K (Qf ?_ (Qf ?_ Q8))
   ·rintro ρ' w' hs f ⟨⟨b0, -⟩, c1⟩
    refine kN [(8, (.string ⟨List.toArray j⟩))] ⟨(Jd (h := 2) K).symm.trans b0, trivial⟩ fun c => ?_
    refine E3 (T := 9) (T' := 9) (x := (.tmp 8)) (y := (.const (.string ⟨List.toArray ([47] : List UInt8)⟩))) (a := j) (b := ([47] : List UInt8)) (d := (some 9)) (k := 3) K rfl K K hl21 ?_
    rw [hyl20]
    exact eK c
   ·rintro ρ' w' hs f ⟨⟨b1, c2, -⟩, c3⟩
    refine kN [(8, (.string ⟨List.toArray j⟩))] ⟨(Jd (h := 2) K).symm.trans b1, trivial⟩ fun c => ?_
    refine E3 (T := 9) (T' := 9) (x := (.tmp 8)) (y := (.const (.string ⟨List.toArray ([47] : List UInt8)⟩))) (a := j) (b := ([47] : List UInt8)) (d := (some 9)) (k := 3) K rfl K K hl21 ?_
    rw [hyl20]
    exact eK c
  ·exact oV (hC (hS 1 (pt g3 0)) (h0)) (pt g3 1)
  ·refine Owe.light K [0, 1] K (Qf ?_ (Qf ?_ Q8))
   ·rintro ρ' w' hs f ⟨c4, b2⟩
    refine kM (kc (kA f 4 10) k0) fun c => ?_
    refine sL 3 10 g3 1 0 (.int .i64 g) 11 b2 rfl ?_
    exact eK c
   ·rintro ρ' w' hs f ⟨⟨c5, -⟩, b3⟩
    refine kM (kc (kA f 4 10) k0) fun c => ?_
    refine sL 3 10 g3 1 0 (.int .i64 g) 11 b3 rfl ?_
    exact eK c
  ·refine oH 1 2 ?_
   ·rintro ρ' w' hs f ⟨⟨b4, -⟩, a1⟩
    refine kM (kc (kA f 5 11) k0) fun c => ?_
    refine cF 97 #[(.tmp 11)] #[2] 12 Tryz.call97 (Bf  g w' (Y9 hL (SP.keeps a1)) l a7) ?_
    rintro e c6 ⟨rfl, a2⟩
    refine ⟨_, rfl, ?_⟩
    have b5 := SP.call a1 a2
    clear a2
    refine ⟨_, Qa c, rfl, ?_⟩
    exact (And.intro (And.intro b4 (And.intro rfl (trivial))) (b5))
  ·refine oL 2 ?_
   ·rintro ρ' w' hs f ⟨⟨c7, b6, -⟩, c8⟩
    refine kN [(9, (.string ⟨List.toArray p⟩)), (12, (.string ⟨List.toArray l⟩))] ⟨f 3 9 K, (Jd (h := 6) K).symm.trans b6, trivial⟩ fun c => ?_
    refine E3 (T := 9) (T' := 9) (x := (.tmp 9)) (y := (.tmp 12)) (a := p) (b := l) (d := (some 13)) (k := 7) K rfl K K hl29 ?_
    rw [hyl28]
    exact eK c
  ·exact oV (hC (hA 7 13) (h0)) (.string ⟨List.toArray m⟩)
  ·rintro ρ' w' hs hf ⟨⟨c9, d0, -⟩, a3⟩
   refine Q3 [(2, (.string ⟨List.toArray m⟩))] ⟨hf 8 2 K, trivial⟩ ?_
   obtain ⟨d1, b7⟩ : ∃ x, w' = x := ⟨_, rfl⟩
   rw [b7] at a3 ⊢
   refine At.ret K ?_
   refine ⟨(.string ⟨List.toArray m⟩), K, ?_⟩
   obtain rfl := Qe H
   exact ⟨rfl, SP.sel a3 [] rfl rfl⟩
end Go.Proofs.YtmgfanhcdfobhaaGreatDoor
namespace Go.Proofs.YtmgfanhcdfobhaaGreatDoor
open Go.RowKit
def Zw (a : Int → Option (Bool)) (b : Int) (c : Bool) : Option (Bool) :=
  (cond c (some (false)) (a (IntKind.wrap .i64 (b + 1))))
def Zl (a : Int → Option (Bool)) (b : Int) (c : UInt8) (d : Bool) : Option (Bool) :=
  (cond (!d) (cond (decide (((c).toNat : Int) < 97)) (cond (decide (((c).toNat : Int) < 48)) (Zw a b true) (Zw a b (decide (((c).toNat : Int) > 57)))) (cond (decide (((c).toNat : Int) > 122)) (cond (decide (((c).toNat : Int) < 48)) (Zw a b true) (Zw a b (decide (((c).toNat : Int) > 57)))) (Zw a b false))) (Zw a b false))
def Je (b : Int → Option (Bool)) (a : Bool) : Option (Bool) :=
  (some (a))
def Xw (b : Int → Option (Bool)) (p1 : (List UInt8)) (a : Int) : Option (Bool) :=
  (cond (decide (a < ((List.length p1 : Nat) : Int))) ((idx p1 a).bind fun c => (cond (((c).toNat : Int) == 45) (cond (decide (a > 0)) (Zl b a c (decide (a < (IntKind.wrap .i64 (((List.length p1 : Nat) : Int) - 1))))) (Zl b a c false)) (Zl b a c false))) (cond (decide (((List.length p1 : Nat) : Int) ≥ 1)) (Je b (decide (((List.length p1 : Nat) : Int) ≤ 20))) (Je b false)))
def Q9 (p1 : (List UInt8)) : Nat → Int → Option (Bool)
  | 0, _ => none
  | f + 1, a => Xw  (Q9 p1 f) p1 a
def Jx (p1 : (List UInt8)) : Option (Bool) :=
  (Q9 p1 Zj 0)
theorem Vo  (p1 : (List UInt8)) (w0 : World)  (r : (Bool)) (H : Jx p1 = some r) :
  Calls Tryz.prog 86 #[(.string ⟨List.toArray p1⟩)] w0 (fun e w' => e = .returned (.bool r) ∧ SP [] w0 w' []) := by
 unfold Jx at H
 refine Qs (n := 54) Tryz.func86 K K K ?_
 have a5 := Q0 [] w0
 refine aQ ?_
 refine aR ?_
 refine iR 1 1 [(2, (.bool false))] ?_
 refine iF ?_
 refine aQ ?_
 refine aQ ?_
 refine aR ?_
 refine iR 1 1 [(3, (.int .i64 0))] ?_
 refine iF ?_
 refine Z1 K (id := 0) K ?_
 refine Nl K (fun f7 ρ w => ∃ (f : Int), V6 ρ [(0, (.string ⟨List.toArray p1⟩)), (3, (.int .i64 f))] ∧ SP [] w0 w [] ∧ Q9 p1 f7 f = some r) (by rintro ρ w ⟨f, hk, hs, H⟩; cases H) ?_ Zj ?_
 ·rintro f7 ρ a9 ⟨f, hk, m, H⟩
  refine At.known [(0, (.string ⟨List.toArray p1⟩)), (3, (.int .i64 f))] hk ?_
  replace H := (show Xw (Q9 p1 f7) p1 f = some r from H)
  unfold Xw at H
  refine aQ ?_
  refine aQ ?_
  refine aR ?_
  refine iR 4 4 [(6, (.int .i64 f)), (7, (.string ⟨List.toArray p1⟩)), (8, (.int .i64 ((List.length p1 : Nat) : Int))), (9, (.bool (decide (f < ((List.length p1 : Nat) : Int)))))] ?_
  refine iF ?_
  refine V1 K (o := (.tmp 9)) K (b := (decide (f < ((List.length p1 : Nat) : Int)))) K (fun p => ?_) (fun p => ?_)
  ·have H := ct H p
   refine At.skip K ?_
   refine aQ ?_
   refine Z1 K (id := 1) K ?_
   refine aQ ?_
   refine aR ?_
   refine iR 2 2 [(12, (.string ⟨List.toArray p1⟩)), (13, (.int .i64 f))] ?_
   obtain ⟨c, a6, b0, a7, H⟩ := Qo H
   refine iS 3 ?_
   refine Gr (a := p1) (u := c) (T := 9) (x := (.tmp 12)) (ix := (.tmp 13)) (ki := .i64) (iz := f) (d := (some 14)) (k := 2) K rfl K K K a6 a7 ?_
   refine iR 1 4 [(4, (.int .u8 ((c).toNat : Int)))] ?_
   refine iF ?_
   refine aQ ?_
   refine At.join (fun ρ w => ∃ (g : Bool), V6 ρ [(0, (.string ⟨List.toArray p1⟩)), (3, (.int .i64 f)), (4, (.int .u8 ((c).toNat : Int))), (5, (.bool g))] ∧ SP [] w0 w [] ∧ Zl (Q9 p1 f7) f c g = some r) ?_ ?_
   ·refine aR ?_
    refine iR 3 3 [(15, (.int .u8 ((c).toNat : Int))), (16, (.bool (((c).toNat : Int) == 45))), (17, (.bool (((c).toNat : Int) == 45)))] ?_
    refine In.guard (t := 17) (b := (((c).toNat : Int) == 45)) K (fun q => ?_) (fun q => ?_)
    ·have H := ct H q
     refine iR 4 7 [(18, (.int .i64 f)), (19, (.bool (decide (f > 0)))), (20, (.bool (decide (f > 0)))), (21, (.bool (decide (f > 0))))] ?_
     refine In.guard (t := 21) (b := (decide (f > 0))) K (fun s => ?_) (fun s => ?_)
     ·have H := ct H s
      refine iR 7 14 [(22, (.int .i64 f)), (23, (.string ⟨List.toArray p1⟩)), (24, (.int .i64 ((List.length p1 : Nat) : Int))), (25, (.int .i64 (IntKind.wrap .i64 (((List.length p1 : Nat) : Int) - 1)))), (26, (.bool (decide (f < (IntKind.wrap .i64 (((List.length p1 : Nat) : Int) - 1)))))), (27, (.bool (decide (f < (IntKind.wrap .i64 (((List.length p1 : Nat) : Int) - 1)))))), (5, (.bool (decide (f < (IntKind.wrap .i64 (((List.length p1 : Nat) : Int) - 1))))))] ?_
      refine iF ?_
      exact ⟨(decide (f < (IntKind.wrap .i64 (((List.length p1 : Nat) : Int) - 1)))), ⟨K, K, K, K, trivial⟩, SP.sel m [] rfl rfl, H⟩
     ·have H := cf H s
      refine iR 7 14 [(22, undef), (23, undef), (24, undef), (25, undef), (26, undef), (27, (.bool false)), (5, (.bool false))] ?_
      refine iF ?_
      exact ⟨false, ⟨K, K, K, K, trivial⟩, SP.sel m [] rfl rfl, H⟩
    ·have H := cf H q
     refine iR 11 14 [(18, undef), (19, undef), (20, (.bool false)), (21, (.bool false)), (22, undef), (23, undef), (24, undef), (25, undef), (26, undef), (27, (.bool false)), (5, (.bool false))] ?_
     refine iF ?_
     exact ⟨false, ⟨K, K, K, K, trivial⟩, SP.sel m [] rfl rfl, H⟩
   ·rintro ρ b1 ⟨g, hk, h, H⟩
    unfold Zl at H
    first | refine At.known [(0, (.string ⟨List.toArray p1⟩)), (3, (.int .i64 f)), (4, (.int .u8 ((c).toNat : Int))), (5, (.bool g))] hk ?_ | rw [← Qv (l := [(0, (.string ⟨List.toArray p1⟩)), (3, (.int .i64 f)), (4, (.int .u8 ((c).toNat : Int))), (5, (.bool g))]) hk]
    refine aQ ?_
    refine At.join (fun ρ w => ∃ (i : Bool), V6 ρ [(0, (.string ⟨List.toArray p1⟩)), (3, (.int .i64 f)), (45, (.bool i))] ∧ SP [] w0 w [] ∧ Zw (Q9 p1 f7) f i = some r) ?_ ?_
    ·refine aR ?_
     refine iR 3 3 [(28, (.bool g)), (29, (.bool (!g))), (30, (.bool (!g)))] ?_
     refine In.guard (t := 30) (b := (!g)) K (fun v => ?_) (fun v => ?_)
     ·have H := ct H v
      refine iR 3 6 [(31, (.int .u8 ((c).toNat : Int))), (32, (.bool (decide (((c).toNat : Int) < 97)))), (33, (.bool (decide (((c).toNat : Int) < 97))))] ?_
      refine In.guard (t := 33) (b := (decide (((c).toNat : Int) < 97))) K (fun y => ?_) (fun y => ?_)
      ·have H := ct H y
       refine iR 8 14 [(34, undef), (35, undef), (36, (.bool true)), (37, (.bool true)), (38, (.bool true)), (39, (.int .u8 ((c).toNat : Int))), (40, (.bool (decide (((c).toNat : Int) < 48)))), (41, (.bool (decide (((c).toNat : Int) < 48))))] ?_
       refine In.guard (t := 41) (b := (decide (((c).toNat : Int) < 48))) K (fun z => ?_) (fun z => ?_)
       ·have H := ct H z
        refine iR 4 18 [(42, undef), (43, undef), (44, (.bool true)), (45, (.bool true))] ?_
        refine iF ?_
        exact ⟨true, ⟨K, K, K, trivial⟩, SP.sel h [] rfl rfl, H⟩
       ·have H := cf H z
        refine iR 4 18 [(42, (.int .u8 ((c).toNat : Int))), (43, (.bool (decide (((c).toNat : Int) > 57)))), (44, (.bool (decide (((c).toNat : Int) > 57)))), (45, (.bool (decide (((c).toNat : Int) > 57))))] ?_
        refine iF ?_
        exact ⟨(decide (((c).toNat : Int) > 57)), ⟨K, K, K, trivial⟩, SP.sel h [] rfl rfl, H⟩
      ·have H := cf H y
       refine iR 5 11 [(34, (.int .u8 ((c).toNat : Int))), (35, (.bool (decide (((c).toNat : Int) > 122)))), (36, (.bool (decide (((c).toNat : Int) > 122)))), (37, (.bool (decide (((c).toNat : Int) > 122)))), (38, (.bool (decide (((c).toNat : Int) > 122))))] ?_
       refine In.guard (t := 38) (b := (decide (((c).toNat : Int) > 122))) K (fun a0 => ?_) (fun a0 => ?_)
       ·have H := ct H a0
        refine iR 3 14 [(39, (.int .u8 ((c).toNat : Int))), (40, (.bool (decide (((c).toNat : Int) < 48)))), (41, (.bool (decide (((c).toNat : Int) < 48))))] ?_
        refine In.guard (t := 41) (b := (decide (((c).toNat : Int) < 48))) K (fun a1 => ?_) (fun a1 => ?_)
        ·have H := ct H a1
         refine iR 4 18 [(42, undef), (43, undef), (44, (.bool true)), (45, (.bool true))] ?_
         refine iF ?_
         exact ⟨true, ⟨K, K, K, trivial⟩, SP.sel h [] rfl rfl, H⟩
        ·have H := cf H a1
         refine iR 4 18 [(42, (.int .u8 ((c).toNat : Int))), (43, (.bool (decide (((c).toNat : Int) > 57)))), (44, (.bool (decide (((c).toNat : Int) > 57)))), (45, (.bool (decide (((c).toNat : Int) > 57))))] ?_
         refine iF ?_
         exact ⟨(decide (((c).toNat : Int) > 57)), ⟨K, K, K, trivial⟩, SP.sel h [] rfl rfl, H⟩
       ·have H := cf H a0
        refine iR 7 18 [(39, undef), (40, undef), (41, undef), (42, undef), (43, undef), (44, undef), (45, (.bool false))] ?_
        refine iF ?_
        exact ⟨false, ⟨K, K, K, trivial⟩, SP.sel h [] rfl rfl, H⟩
     ·have H := cf H v
      refine iR 15 18 [(31, undef), (32, undef), (33, undef), (34, undef), (35, undef), (36, undef), (37, (.bool false)), (38, (.bool false)), (39, undef), (40, undef), (41, undef), (42, undef), (43, undef), (44, undef), (45, (.bool false))] ?_
      refine iF ?_
      exact ⟨false, ⟨K, K, K, trivial⟩, SP.sel h [] rfl rfl, H⟩
    ·rintro ρ b2 ⟨i, hk, a4, H⟩
     unfold Zw at H
     first | refine At.known [(0, (.string ⟨List.toArray p1⟩)), (3, (.int .i64 f)), (45, (.bool i))] hk ?_ | rw [← Qv (l := [(0, (.string ⟨List.toArray p1⟩)), (3, (.int .i64 f)), (45, (.bool i))]) hk]
     refine V1 K (o := (.tmp 45)) K (b := i) K (fun a2 => ?_) (fun a2 => ?_)
     ·have H := ct H a2
      refine aQ ?_
      refine aR ?_
      refine iR 1 1 [(2, (.bool false))] ?_
      refine iF ?_
      refine At.ret K ?_
      refine ⟨(.bool false), K, ?_⟩
      obtain rfl := Qe H
      exact ⟨rfl, SP.sel a4 [] rfl rfl⟩
     ·have H := cf H a2
      refine At.skip K ?_
      refine aR ?_
      refine iR 3 3 [(10, (.int .i64 f)), (11, (.int .i64 (IntKind.wrap .i64 (f + 1)))), (3, (.int .i64 (IntKind.wrap .i64 (f + 1))))] ?_
      refine iF ?_
      exact ⟨(IntKind.wrap .i64 (f + 1)), ⟨K, K, trivial⟩, SP.sel a4 [] rfl rfl, H⟩
  ·have H := cf H p
   refine At.exit K (id := 0) K ?_
   refine aQ ?_
   refine At.join (fun ρ w => ∃ (j : Bool), V6 ρ [(2, (.bool j))] ∧ SP [] w0 w [] ∧ Je (Q9 p1 f7) j = some r) ?_ ?_
   ·refine aR ?_
    refine iR 4 4 [(46, (.string ⟨List.toArray p1⟩)), (47, (.int .i64 ((List.length p1 : Nat) : Int))), (48, (.bool (decide (((List.length p1 : Nat) : Int) ≥ 1)))), (49, (.bool (decide (((List.length p1 : Nat) : Int) ≥ 1))))] ?_
    refine In.guard (t := 49) (b := (decide (((List.length p1 : Nat) : Int) ≥ 1))) K (fun a3 => ?_) (fun a3 => ?_)
    ·have H := ct H a3
     refine iR 5 9 [(50, (.string ⟨List.toArray p1⟩)), (51, (.int .i64 ((List.length p1 : Nat) : Int))), (52, (.bool (decide (((List.length p1 : Nat) : Int) ≤ 20)))), (53, (.bool (decide (((List.length p1 : Nat) : Int) ≤ 20)))), (2, (.bool (decide (((List.length p1 : Nat) : Int) ≤ 20))))] ?_
     refine iF ?_
     exact ⟨(decide (((List.length p1 : Nat) : Int) ≤ 20)), ⟨K, trivial⟩, SP.sel m [] rfl rfl, H⟩
    ·have H := cf H a3
     refine iR 5 9 [(50, undef), (51, undef), (52, undef), (53, (.bool false)), (2, (.bool false))] ?_
     refine iF ?_
     exact ⟨false, ⟨K, trivial⟩, SP.sel m [] rfl rfl, H⟩
   ·rintro ρ b3 ⟨j, hk, a8, H⟩
    unfold Je at H
    first | refine At.known [(2, (.bool j))] hk ?_ | rw [← Qv (l := [(2, (.bool j))]) hk]
    refine At.ret K ?_
    refine ⟨(.bool j), K, ?_⟩
    obtain rfl := Qe H
    exact ⟨rfl, SP.sel a8 [] rfl rfl⟩
 ·exact ⟨0, ⟨K, K, trivial⟩, SP.sel a5 [] rfl rfl, H⟩
def U4 (p1 : Int) (p2 : Int) : Option (Int) :=
  (cond (p2 == 0) (some (0)) ((chk (decide (0 ≤ (IntKind.wrap .i64 (32 - p2))))).bind fun _ => ((chk (decide (0 ≤ (IntKind.wrap .i64 (32 - p2))))).bind fun _ => (some ((Ns .u32 (Nm .u32 p1 (IntKind.wrap .i64 (32 - p2))) (IntKind.wrap .i64 (32 - p2))))))))
theorem Ck  (p1 : Int) (p2 : Int) (w0 : World)  (r : (Int)) (H : U4 p1 p2 = some r) :
  Calls Tryz.prog 99 #[(.int .u32 p1), (.int .i64 p2)] w0 (fun e w' => e = .returned (.int .u32 r) ∧ SP [] w0 w' []) := by
 unfold U4 at H
 refine Qs (n := 14) Tryz.func99 K K K ?_
 have f := Q0 [] w0
 refine aQ ?_
 refine aR ?_
 refine iR 1 1 [(4, (.int .u32 0))] ?_
 refine iF ?_
 refine aQ ?_
 refine aQ ?_
 refine aR ?_
 refine iR 2 2 [(5, (.int .i64 p2)), (6, (.bool (p2 == 0)))] ?_
 refine iF ?_
 refine V1 K (o := (.tmp 6)) K (b := (p2 == 0)) K (fun c => ?_) (fun c => ?_)
 ·have H := ct H c
  refine aQ ?_
  refine aR ?_
  refine iR 1 1 [(4, (.int .u32 0))] ?_
  refine iF ?_
  refine At.ret K ?_
  refine ⟨(.int .u32 0), K, ?_⟩
  obtain rfl := Qe H
  exact ⟨rfl, SP.sel f [] rfl rfl⟩
 ·have H := cf H c
  refine At.skip K ?_
  refine aQ ?_
  refine aR ?_
  refine iR 3 3 [(7, (.int .u32 p1)), (8, (.int .i64 p2)), (9, (.int .i64 (IntKind.wrap .i64 (32 - p2))))] ?_
  obtain ⟨hl4, H⟩ := V4 H
  refine iS 4 ?_
  refine Qi.shift (op := .shr) (T := 111) (T' := 3) (x := (.tmp 7)) (y := (.tmp 9)) (kx := .u32) (ky := .i64) (a := p1) (b := (IntKind.wrap .i64 (32 - p2))) (v := (.int .u32 (Nm .u32 p1 (IntKind.wrap .i64 (32 - p2))))) (d := (some 10)) (k := 3) K rfl K K (of_decide_eq_true hl4) rfl ?_
  refine iR 2 6 [(11, (.int .i64 p2)), (12, (.int .i64 (IntKind.wrap .i64 (32 - p2))))] ?_
  obtain ⟨hl5, H⟩ := V4 H
  refine iS 7 ?_
  refine Qi.shift (op := .shl) (T := 111) (T' := 3) (x := (.tmp 10)) (y := (.tmp 12)) (kx := .u32) (ky := .i64) (a := (Nm .u32 p1 (IntKind.wrap .i64 (32 - p2)))) (b := (IntKind.wrap .i64 (32 - p2))) (v := (.int .u32 (Ns .u32 (Nm .u32 p1 (IntKind.wrap .i64 (32 - p2))) (IntKind.wrap .i64 (32 - p2))))) (d := (some 13)) (k := 6) K rfl K K (of_decide_eq_true hl5) rfl ?_
  refine iR 1 8 [(4, (.int .u32 (Ns .u32 (Nm .u32 p1 (IntKind.wrap .i64 (32 - p2))) (IntKind.wrap .i64 (32 - p2)))))] ?_
  refine iF ?_
  refine At.ret K ?_
  refine ⟨(.int .u32 (Ns .u32 (Nm .u32 p1 (IntKind.wrap .i64 (32 - p2))) (IntKind.wrap .i64 (32 - p2)))), K, ?_⟩
  obtain rfl := Qe H
  exact ⟨rfl, SP.sel f [] rfl rfl⟩
def Yk (a : Bool) : Option (Bool) :=
  (some (a))
def Uq (b : Int) (a : Int) : Option (Bool) :=
  (cond (decide (a ≥ 0)) (cond (decide (a ≤ 32)) ((U4 b a).bind fun c => (Yk (c == b))) (Yk false)) (Yk false))
theorem Bv  (f : Int) (a : Int) (w0 : World)  (r : (Bool)) (H : Uq f a = some r) :
  Calls Tryz.prog 87 #[(.agg #[(.int .u32 f), (.int .i64 a)])] w0 (fun e w' => e = .returned (.bool r) ∧ SP [] w0 w' []) := by
 unfold Uq at H
 refine Qs (n := 21) Tryz.func87 K K K ?_
 have z := Q0 [] w0
 refine aQ ?_
 refine aR ?_
 refine iS 1 ?_
 refine Vn (t := 113) (x := (.tmp 0)) (v := (.agg #[(.int .u32 f), (.int .i64 a)])) (d := (some 1)) (k := 0) K rfl K z ?_
 intro g3 w4 o
 refine iR 1 2 [(2, (.bool false))] ?_
 refine iF ?_
 refine aQ ?_
 refine At.join (fun ρ w => ∃ (m : Bool), V6 ρ [(2, (.bool m))] ∧ SP [] w0 w [] ∧ Yk m = some r) ?_ ?_
 ·rcases Bool.eq_false_or_eq_true (decide (a ≥ 0)) with h | h
  ·have H := ct H h
   rcases Bool.eq_false_or_eq_true (decide (a ≤ 32)) with c | c
   ·have H := ct H c
    obtain ⟨i, a0, H⟩ := Qb H
    refine aG [GEq (pt g3 1), GEq (.int .i64 a), GEq (.bool (decide (a ≥ 0))), GEq (.bool (decide (a ≥ 0))), GEq (pt g3 1), GEq (.int .i64 a), GEq (.bool (decide (a ≤ 32))), GEq (.bool (decide (a ≤ 32))), GEq (.bool (decide (a ≤ 32))), GEq (pt g3 0), GEq (.int .u32 f), GEq (pt g3 1), GEq (.int .i64 a), GEq (.int .u32 i), GEq (pt g3 0), GEq (.int .u32 f), GEq (.bool (i == f)), GEq (.bool (i == f)), GEq (.bool (i == f))] [13] (tG [] w0 [Qn g3 113 #[(.int .u32 f), (.int .i64 a)]] [([], []), ([13], [(.int .u32 i)])]) 19 1 ⟨trivial, SP.drew o⟩ ?_ ?_
    iterate 19 refine And.intro ?_ ?_
    exact trivial
    ·exact oV (hC (hS 1 (pt g3 0)) (h0)) (pt g3 1)
    ·refine oL 0 ?_
     ·rintro ρ' w' hs b ⟨c0, a1⟩
      refine kM (kc (kA b 0 3) k0) fun g => ?_
      refine sL 3 3 g3 1 0 (.int .i64 a) 4 a1 rfl ?_
      exact eK g
    ·exact oV (hC (hA 1 4) (h0)) (.bool (decide (a ≥ 0)))
    ·exact oV (hC (hA 2 5) (h0)) (.bool (decide (a ≥ 0)))
    ·exact oV (hC (hS 1 (pt g3 0)) (hC (hB 3 6 h) (h0))) (pt g3 1)
    ·refine oL 0 ?_
     ·rintro ρ' w' hs b ⟨c1, a2⟩
      have e7 := b 4 7 K
      have e6 := b 3 6 K
      refine kN [(7, (pt g3 1)), (6, (.bool true))] ⟨e7, (Eq.trans e6 (congrArg Value.bool h)), trivial⟩ fun g => ?_
      refine sL 3 7 g3 1 0 (.int .i64 a) 8 a2 rfl ?_
      exact eK g
    ·exact oV (hC (hA 5 8) (hC (hB 3 6 h) (h0))) (.bool (decide (a ≤ 32)))
    ·exact oV (hC (hB 3 6 h) (hC (hA 6 9) (h0))) (.bool (decide (a ≤ 32)))
    ·exact oV (hC (hA 7 10) (h0)) (.bool (decide (a ≤ 32)))
    ·exact oV (hC (hS 1 (pt g3 0)) (hC (hB 8 11 c) (h0))) (pt g3 0)
    ·refine oL 0 ?_
     ·rintro ρ' w' hs b ⟨c2, a3⟩
      have a4 := b 9 12 K
      have j := b 8 11 K
      refine kN [(12, (pt g3 0)), (11, (.bool true))] ⟨a4, (Eq.trans j (congrArg Value.bool c)), trivial⟩ fun g => ?_
      refine sL 111 12 g3 0 0 (.int .u32 f) 13 a3 rfl ?_
      exact eK g
    ·exact oV (hC (hS 1 (pt g3 0)) (hC (hB 8 11 c) (h0))) (pt g3 1)
    ·refine oL 0 ?_
     ·rintro ρ' w' hs b ⟨c3, a5⟩
      have a6 := b 11 14 K
      have j := b 8 11 K
      refine kN [(14, (pt g3 1)), (11, (.bool true))] ⟨a6, (Eq.trans j (congrArg Value.bool c)), trivial⟩ fun g => ?_
      refine sL 3 14 g3 1 0 (.int .i64 a) 15 a5 rfl ?_
      exact eK g
    ·refine oH 0 1 ?_
     ·rintro ρ' w' hs b ⟨c4, a7⟩
      have a8 := b 10 13 K
      have a9 := b 12 15 K
      have j := b 8 11 K
      refine kN [(13, (.int .u32 f)), (15, (.int .i64 a)), (11, (.bool true))] ⟨a8, a9, (Eq.trans j (congrArg Value.bool c)), trivial⟩ fun g => ?_
      refine cF 99 #[(.tmp 13), (.tmp 15)] #[111, 3] 16 Tryz.call99 (Ck  f a w'  i a0) ?_
      rintro e c5 ⟨rfl, q⟩
      refine ⟨_, rfl, ?_⟩
      have b0 := SP.call a7 q
      clear q
      refine ⟨_, Qa g, rfl, ?_⟩
      exact (And.intro (And.intro rfl (trivial)) (b0))
    ·exact oV (hC (hS 1 (pt g3 0)) (hC (hB 8 11 c) (h0))) (pt g3 0)
    ·refine Owe.light K [0, 1] K (Qf ?_ (Qf ?_ Q8))
     ·rintro ρ' w' hs b ⟨c6, b1⟩
      have p := b 14 17 K
      have j := b 8 11 K
      refine kN [(17, (pt g3 0)), (11, (.bool true))] ⟨p, (Eq.trans j (congrArg Value.bool c)), trivial⟩ fun g => ?_
      refine sL 111 17 g3 0 0 (.int .u32 f) 18 b1 rfl ?_
      exact eK g
     ·rintro ρ' w' hs b ⟨⟨c7, -⟩, b2⟩
      have p := b 14 17 K
      have j := b 8 11 K
      refine kN [(17, (pt g3 0)), (11, (.bool true))] ⟨p, (Eq.trans j (congrArg Value.bool c)), trivial⟩ fun g => ?_
      refine sL 111 17 g3 0 0 (.int .u32 f) 18 b2 rfl ?_
      exact eK g
    ·exact oV (hC (hA 13 16) (hC (hA 15 18) (hC (hB 8 11 c) (h0)))) (.bool (i == f))
    ·exact oV (hC (hB 8 11 c) (hC (hA 16 19) (h0))) (.bool (i == f))
    ·exact oV (hC (hA 17 20) (h0)) (.bool (i == f))
    ·rintro ρ' w' hs hf ⟨⟨c8, -⟩, s⟩
     refine Q3 [(2, (.bool (i == f)))] ⟨hf 18 2 K, trivial⟩ ?_
     obtain ⟨c9, b3⟩ : ∃ x, w' = x := ⟨_, rfl⟩
     rw [b3] at s ⊢
     exact ⟨(i == f), ⟨K, trivial⟩, SP.sel s [] rfl rfl, H⟩
   ·have H := cf H c
    refine aG [GEq (pt g3 1), GEq (.int .i64 a), GEq (.bool (decide (a ≥ 0))), GEq (.bool (decide (a ≥ 0))), GEq (pt g3 1), GEq (.int .i64 a), GEq (.bool (decide (a ≤ 32))), GEq (.bool (decide (a ≤ 32))), GEq (.bool (decide (a ≤ 32))), GEq undef, GEq undef, GEq undef, GEq undef, GEq undef, GEq undef, GEq undef, GEq undef, GEq (.bool false), GEq (.bool false)] [] (tG [] w0 [Qn g3 113 #[(.int .u32 f), (.int .i64 a)]] [([], [])]) 19 0 ⟨trivial, SP.drew o⟩ ?_ ?_
    iterate 19 refine And.intro ?_ ?_
    exact trivial
    ·exact oV (hC (hS 1 (pt g3 0)) (h0)) (pt g3 1)
    ·refine oL 0 ?_
     ·rintro ρ' w' hs b ⟨d0, b4⟩
      refine kM (kc (kA b 0 3) k0) fun g => ?_
      refine sL 3 3 g3 1 0 (.int .i64 a) 4 b4 rfl ?_
      exact eK g
    ·exact oV (hC (hA 1 4) (h0)) (.bool (decide (a ≥ 0)))
    ·exact oV (hC (hA 2 5) (h0)) (.bool (decide (a ≥ 0)))
    ·exact oV (hC (hS 1 (pt g3 0)) (hC (hB 3 6 h) (h0))) (pt g3 1)
    ·refine oL 0 ?_
     ·rintro ρ' w' hs b ⟨d1, b5⟩
      have e7 := b 4 7 K
      have e6 := b 3 6 K
      refine kN [(7, (pt g3 1)), (6, (.bool true))] ⟨e7, (Eq.trans e6 (congrArg Value.bool h)), trivial⟩ fun g => ?_
      refine sL 3 7 g3 1 0 (.int .i64 a) 8 b5 rfl ?_
      exact eK g
    ·exact oV (hC (hA 5 8) (hC (hB 3 6 h) (h0))) (.bool (decide (a ≤ 32)))
    ·exact oV (hC (hB 3 6 h) (hC (hA 6 9) (h0))) (.bool (decide (a ≤ 32)))
    ·exact oV (hC (hA 7 10) (h0)) (.bool (decide (a ≤ 32)))
    ·exact oW (hC (hB 8 11 c) (h0)) 12
    ·exact oW (hC (hB 8 11 c) (h0)) 13
    ·exact oW (hC (hB 8 11 c) (h0)) 14
    ·exact oW (hC (hB 8 11 c) (h0)) 15
    ·exact oW (hC (hB 8 11 c) (h0)) 16
    ·exact oW (hC (hB 8 11 c) (h0)) 17
    ·exact oW (hC (hB 8 11 c) (h0)) 18
    ·exact oW (hC (hB 8 11 c) (h0)) 19
    ·exact oV (hC (hB 8 11 c) (hC (hA 16 19) (h0))) (.bool false)
    ·exact oV (hC (hA 17 20) (h0)) (.bool false)
    ·rintro ρ' w' hs hf ⟨d2, u⟩
     refine Q3 [(2, (.bool false))] ⟨hf 18 2 K, trivial⟩ ?_
     obtain ⟨d3, b6⟩ : ∃ x, w' = x := ⟨_, rfl⟩
     rw [b6] at u ⊢
     exact ⟨false, ⟨K, trivial⟩, SP.sel u [] rfl rfl, H⟩
  ·have H := cf H h
   refine aG [GEq (pt g3 1), GEq (.int .i64 a), GEq (.bool (decide (a ≥ 0))), GEq (.bool (decide (a ≥ 0))), GEq undef, GEq undef, GEq undef, GEq (.bool false), GEq (.bool false), GEq undef, GEq undef, GEq undef, GEq undef, GEq undef, GEq undef, GEq undef, GEq undef, GEq (.bool false), GEq (.bool false)] [] (tG [] w0 [Qn g3 113 #[(.int .u32 f), (.int .i64 a)]] [([], [])]) 19 0 ⟨trivial, SP.drew o⟩ ?_ ?_
   iterate 19 refine And.intro ?_ ?_
   exact trivial
   ·exact oV (hC (hS 1 (pt g3 0)) (h0)) (pt g3 1)
   ·refine oL 0 ?_
    ·rintro ρ' w' hs b ⟨d4, b7⟩
     refine kM (kc (kA b 0 3) k0) fun g => ?_
     refine sL 3 3 g3 1 0 (.int .i64 a) 4 b7 rfl ?_
     exact eK g
   ·exact oV (hC (hA 1 4) (h0)) (.bool (decide (a ≥ 0)))
   ·exact oV (hC (hA 2 5) (h0)) (.bool (decide (a ≥ 0)))
   ·exact oW (hC (hB 3 6 h) (h0)) 7
   ·exact oW (hC (hB 3 6 h) (h0)) 8
   ·exact oW (hC (hB 3 6 h) (h0)) 9
   ·exact oV (hC (hB 3 6 h) (hC (hA 6 9) (h0))) (.bool false)
   ·exact oV (hC (hA 7 10) (h0)) (.bool false)
   ·exact oW (hC (hA 8 11) (h0)) 12
   ·exact oW (hC (hA 8 11) (h0)) 13
   ·exact oW (hC (hA 8 11) (h0)) 14
   ·exact oW (hC (hA 8 11) (h0)) 15
   ·exact oW (hC (hA 8 11) (h0)) 16
   ·exact oW (hC (hA 8 11) (h0)) 17
   ·exact oW (hC (hA 8 11) (h0)) 18
   ·exact oW (hC (hA 8 11) (h0)) 19
   ·exact oV (hC (hA 8 11) (hC (hA 16 19) (h0))) (.bool false)
   ·exact oV (hC (hA 17 20) (h0)) (.bool false)
   ·rintro ρ' w' hs hf ⟨d5, y⟩
    refine Q3 [(2, (.bool false))] ⟨hf 18 2 K, trivial⟩ ?_
    obtain ⟨d6, b8⟩ : ∃ x, w' = x := ⟨_, rfl⟩
    rw [b8] at y ⊢
    exact ⟨false, ⟨K, trivial⟩, SP.sel y [] rfl rfl, H⟩
 ·rintro ρ d7 ⟨m, hk, b9, H⟩
  unfold Yk at H
  first | refine At.known [(2, (.bool m))] hk ?_ | rw [← Qv (l := [(2, (.bool m))]) hk]
  refine At.ret K ?_
  refine ⟨(.bool m), K, ?_⟩
  obtain rfl := Qe H
  exact ⟨rfl, SP.sel b9 [] rfl rfl⟩
end Go.Proofs.YtmgfanhcdfobhaaGreatDoor
namespace Go.Proofs.YtmgfanhcdfobhaaGreatDoor
theorem Bh {x : Int} (h : -9223372036854775808 ≤ x ∧ x < 9223372036854775808) : IntKind.wrap .i64 x = x := IntWalk.i64_in _ (by omega)
theorem O3 (x : Int) : IntKind.wrap .u8 x = x % 256 := by
  unfold IntKind.wrap
  simp only [IntKind.bits, IntKind.signed]
  simp
theorem Oc (n : Nat) : Bc (n : Int) = UInt8.ofNat n := by simp [Bc]
theorem Fq (n : Nat) : Bc (IntKind.wrap .u8 (n : Int)) = UInt8.ofNat n := by
  rw [O3, show ((n : Int) % 256) = ((n % 256 : Nat) : Int) by omega, Oc]
  apply UInt8.toNat_inj.1
  simp [UInt8.toNat_ofNat']
theorem Fs (a b : Nat) : Int.tdiv (a : Int) (b : Int) = ((a / b : Nat) : Int) := by
  rw [Int.tdiv_eq_ediv_of_nonneg (by omega)]; rfl
theorem Hy (a b : Nat) : Int.tmod (a : Int) (b : Int) = ((a % b : Nat) : Int) := by
  rw [Int.tmod_eq_emod_of_nonneg (by omega)]; rfl
theorem Ib {α : Type} (l : List α) (i : Nat) : idx l (i : Int) = l[i]? := by unfold idx; rw [if_pos (by omega)]; simp
theorem Jt {α : Type} {l : List α} {i : Nat} (h : i < l.length) : idx l (i : Int) = some l[i] := by rw [Ib, List.getElem?_eq_getElem h]
theorem Ic {α : Type} (l : List α) {i j : Nat} (h : i ≤ j) (hj : j ≤ l.length) : sub l (i : Int) (j : Int) = some ((l.take j).drop i) := by
  unfold sub
  rw [if_pos ⟨by omega, by omega, by omega⟩]
  simp
theorem Ry {α : Type} {l m : List α} (h : l.length + m.length ≤ 2147483648) : app l m = some (l ++ m) := by unfold app; rw [if_pos h]
theorem fuel_eq : Zj = 18446744073709551616 := rfl
theorem Xh {n : Nat} (h : n < 4611686018427387904) : IntKind.wrap .i64 (n : Int) = (n : Int) := Bh (by omega)
end Go.Proofs.YtmgfanhcdfobhaaGreatDoor
namespace Go.Proofs.YtmgfanhcdfobhaaGreatDoor
def hi (d : Nat) : UInt8 := UInt8.ofNat (d + 128)
def val (l : List UInt8) : Nat := l.foldl (fun a c => 128 * a + c.toNat % 128) 0
end Go.Proofs.YtmgfanhcdfobhaaGreatDoor
namespace Go.Proofs.YtmgfanhcdfobhaaGreatDoor
open Go.Lib (decDigits)
def decL (n : Int) : List UInt8 := if 0 ≤ n ∧ n ≤ 1099511627776 then decDigits n.toNat else []
theorem dec_small {u : Nat} (h : u < 10) : decDigits u = [UInt8.ofNat (48 + u)] := by rw [decDigits, dif_pos h]
theorem dec_big {u : Nat} (h : ¬ u < 10) : decDigits u = decDigits (u / 10) ++ [UInt8.ofNat (48 + u % 10)] := by rw [decDigits, dif_neg h]
theorem dec_len {n k : Nat} (hk : 1 ≤ k) (h : n < 10 ^ k) : (decDigits n).length ≤ k := by
  induction k generalizing n with
  | zero => omega
  | succ k ih =>
    by_cases hs : n < 10
    · rw [dec_small hs]; simp
    · rw [dec_big hs, List.length_append, List.length_singleton]
      have hk1 : 1 ≤ k := by
        rcases Nat.eq_zero_or_pos k with rfl | h1
        · exact absurd (by simpa using h) hs
        · exact h1
      have := ih hk1 (n := n / 10) (by rw [Nat.pow_succ] at h; omega)
      omega
end Go.Proofs.YtmgfanhcdfobhaaGreatDoor
namespace Go.Proofs.YtmgfanhcdfobhaaGreatDoor
open Go.Lib (decDigits)
theorem Od (n : Int) : Gy n = some (decL n) := by
  unfold Gy decL
  by_cases h : 0 ≤ n ∧ n ≤ 1099511627776
  · rw [if_pos h, show decide (n < 0) = false by simp; omega, show decide (n > 1099511627776) = false by simp; omega]
    obtain ⟨m, rfl⟩ := Int.eq_ofNat_of_zero_le h.1
    simp only [cond_false, Gb, Nu]
    rw [show (((10 : Int) == 10) && (decide (-9223372036854775808 ≤ (m : Int)) && decide ((m : Int) ≤ 9223372036854775807))) = true by simp; omega]
    simp only [cond_true, Option.bind_some, Go.Lib.itoa_nonneg]
    rfl
  · rw [if_neg h]
    by_cases h0 : n < 0
    · rw [show decide (n < 0) = true by simp; omega]
      rfl
    · rw [show decide (n < 0) = false by simp; omega, show decide (n > 1099511627776) = true by simp; omega]
      rfl
end Go.Proofs.YtmgfanhcdfobhaaGreatDoor
namespace Go.Proofs.YtmgfanhcdfobhaaGreatDoor
theorem wrap32u (x : Int) : IntKind.wrap .u32 x = x % 4294967296 := by
  unfold IntKind.wrap
  simp only [IntKind.bits, IntKind.signed]
  simp
theorem bShr32 (a k : Nat) (hk : k ≤ 32) : Nm .u32 (a : Int) (k : Int) = ((a / 2 ^ k : Nat) : Int) := by
  unfold Nm
  have : min ((k : Int).toNat) (IntKind.bits .u32) = k := by simp only [Int.toNat_natCast, IntKind.bits]; omega
  rw [this, Int.fdiv_eq_ediv_of_nonneg _ (by exact_mod_cast Nat.zero_le (2 ^ k))]
  push_cast
  rfl
theorem bShl32 (a k : Nat) (hk : k ≤ 32) : Ns .u32 (a : Int) (k : Int) = ((a * 2 ^ k % 4294967296 : Nat) : Int) := by
  unfold Ns
  have : min ((k : Int).toNat) (IntKind.bits .u32) = k := by simp only [Int.toNat_natCast, IntKind.bits]; omega
  have e : ((a : Int) * 2 ^ k) = ((a * 2 ^ k : Nat) : Int) := by push_cast; rfl
  rw [this, wrap32u, e]
  generalize a * 2 ^ k = q
  omega
theorem ofInt32 (a : Nat) (h : a < 4294967296) : (BitVec.ofInt (IntKind.bits .u32) (a : Int)).toNat = a := by
  show (BitVec.ofInt 32 (a : Int)).toNat = a
  rw [BitVec.ofInt_natCast, BitVec.toNat_ofNat]
  exact Nat.mod_eq_of_lt (by omega)
theorem mask_eq (k : Nat) (hk : k ≤ 32) : 4294967295 * 2 ^ k % 4294967296 = 4294967296 - 2 ^ k := by
  have h : ∀ k : Fin 33, 4294967295 * 2 ^ k.val % 4294967296 = 4294967296 - 2 ^ k.val := by decide
  exact h ⟨k, by omega⟩
theorem Ma (x k : Nat) (hk : k ≤ 32) (hx : x < 4294967296) : R8 .u32 (x : Int) ((4294967296 - 2 ^ k : Nat) : Int) = ((x % 2 ^ k : Nat) : Int) := by
  have hp : 2 ^ k ≤ 4294967296 := by
    have := Nat.pow_le_pow_right (show 0 < 2 by omega) hk
    simpa using this
  have hp1 : 1 ≤ 2 ^ k := Nat.one_le_two_pow
  unfold R8
  rw [BitVec.toNat_and, BitVec.toNat_not, ofInt32 x hx, ofInt32 _ (by omega), wrap32u]
  have e : 2 ^ (IntKind.bits .u32) - 1 - (4294967296 - 2 ^ k) = 2 ^ k - 1 := by
    show 4294967296 - 1 - (4294967296 - 2 ^ k) = 2 ^ k - 1
    omega
  rw [e, Nat.and_two_pow_sub_one_eq_mod]
  have := Nat.mod_le x (2 ^ k)
  omega
end Go.Proofs.YtmgfanhcdfobhaaGreatDoor
namespace Go.Proofs.YtmgfanhcdfobhaaGreatDoor
open Go.Lib (decDigits)
def isLet (c : UInt8) : Bool := (decide (97 ≤ c.toNat) && decide (c.toNat ≤ 122)) || (decide (48 ≤ c.toNat) && decide (c.toNat ≤ 57))
def isNm (c : UInt8) : Bool := isLet c || c == 45
def Ef (s : List UInt8) : Bool := decide (1 ≤ s.length) && decide (s.length ≤ 20) && s.all isNm && !(s.headD 0 == 45) && !(s.getLastD 0 == 45)
def Rz : List UInt8 := [97, 98, 99, 100, 101, 102, 103, 104, 105, 106, 107, 108, 109, 110, 111, 112, 113, 114, 115, 116, 117, 118, 119, 120, 121, 122, 48, 49, 50, 51, 52, 53, 54, 55, 56, 57, 45]
theorem Ka (c : UInt8) : Rz.contains c = isNm c := by
  have h : ∀ n : Fin 256, Rz.contains (UInt8.ofNat n.val) = isNm (UInt8.ofNat n.val) := by decide +kernel
  have e := h ⟨c.toNat, c.toNat_lt⟩
  have : UInt8.ofNat c.toNat = c := by simp
  rw [this] at e
  exact e
theorem Cl {α : Type} (p : α → Bool) : ∀ l : List α, l.dropWhile p = [] ↔ ∀ x ∈ l, p x = true
  | [] => by simp
  | x :: l => by
    rw [List.dropWhile_cons]
    by_cases h : p x = true
    · rw [if_pos h, Cl p l]; simp [h]
    · rw [if_neg h]; simp [h]
theorem Ez {α : Type} (p : α → Bool) : ∀ (l : List α) (x : α) (r : List α), l.dropWhile p = x :: r → p x = false
  | [], x, r, h => by simp at h
  | y :: l, x, r, h => by
    rw [List.dropWhile_cons] at h
    by_cases hy : p y = true
    · rw [if_pos hy] at h; exact Ez p l x r h
    · rw [if_neg hy] at h; injection h with h1 _; subst h1; simpa using hy
theorem trimS_nil (l cs : List UInt8) : Lib.trimS l cs = [] ↔ ∀ x ∈ l, cs.contains x = true := by
  unfold Lib.trimS Lib.trimLeftS Lib.trimRightS
  rw [Cl]
  constructor
  · intro h
    cases hd : l.reverse.dropWhile (cs.contains ·) with
    | nil =>
      have := (Cl _ _).1 hd
      intro x hx
      exact this x (by simpa using hx)
    | cons y r =>
      have h1 := Ez _ _ _ _ hd
      have h2 := h y (by rw [hd]; simp)
      rw [h2] at h1
      cases h1
  · intro h x hx
    refine h x ?_
    have : x ∈ l.reverse.dropWhile (cs.contains ·) := by simpa using hx
    have := List.IsSuffix.subset (List.dropWhile_suffix _) this
    simpa using this
theorem lTrim (s : List UInt8) (h : s.length ≤ 9000) : G9 s Rz = some (Lib.trimS s Rz) := by
  unfold G9
  rw [show (Nat.ble s.length 9223372036854775807 && (Nat.ble Rz.length 4294967280 && Rz.all (fun b => Nat.ble b.toNat 127))) = true by
    rw [Nat.ble_eq_true_of_le (by omega)]
    decide]
  rfl
theorem headD_idx {s : List UInt8} (h : 1 ≤ s.length) : idx s 0 = some (s.headD 0) := by
  cases s with
  | nil => simp at h
  | cons c r => rfl
theorem last_idx {s : List UInt8} (h : 1 ≤ s.length) (h2 : s.length ≤ 9000) : idx s (IntKind.wrap .i64 (((List.length s : Nat) : Int) - 1)) = some (s.getLastD 0) := by
  rw [Bh (by omega), show (((List.length s : Nat) : Int) - 1) = ((s.length - 1 : Nat) : Int) by omega, Ib]
  cases s with
  | nil => simp at h
  | cons c r => rw [List.getLastD_cons, List.getLastD_eq_getLast?, ← List.getLast?_eq_getElem?]; cases r <;> simp [List.getLast?_cons]
theorem byte45 (c : UInt8) : (((c.toNat : Nat) : Int) != 45) = !(c == 45) := by
  by_cases h : c = 45
  · subst h; rfl
  · rw [show (c == 45) = false by simpa using h]
    rw [Bool.not_false, bne_iff_ne]
    intro e
    exact h (UInt8.toNat_inj.1 (show c.toNat = (45 : UInt8).toNat from by have h9 : (45 : UInt8).toNat = 45 := rfl; omega))
theorem byteEq45 (c : UInt8) : (((c.toNat : Nat) : Int) == 45) = (c == 45) := by
  have := byte45 c
  rw [bne, Bool.not_inj_iff] at this
  exact this
theorem lName (s : List UInt8) (h : s.length ≤ 9000) : U3 s = some (Ef s) := by
  unfold U3 Ef Yt
  by_cases h1 : 1 ≤ s.length
  · have hne : (s == ([] : List UInt8)) = false := by cases s with | nil => simp at h1 | cons c r => rfl
    rw [hne, decide_eq_true h1]
    simp only [Bool.not_false, cond_true]
    by_cases h2 : s.length ≤ 20
    · rw [show decide (((List.length s : Nat) : Int) ≤ 20) = true by simp; omega, decide_eq_true h2]
      have ht := lTrim s h
      unfold Rz at ht
      rw [ht]
      simp only [cond_true, Option.bind_some]
      have hall : (Lib.trimS s Rz == ([] : List UInt8)) = s.all isNm := by
        rw [Bool.eq_iff_iff, beq_iff_eq, trimS_nil, List.all_eq_true]
        exact ⟨fun h x hx => by rw [← Ka]; exact h x hx, fun h x hx => by rw [Ka]; exact h x hx⟩
      unfold Rz at hall
      rw [hall]
      cases s.all isNm with
      | false => rfl
      | true =>
        simp only [cond_true, headD_idx h1, Option.bind_some, byte45, last_idx h1 h]
        cases s.headD 0 == 45 <;> simp
    · rw [show decide (((List.length s : Nat) : Int) ≤ 20) = false by simp; omega, decide_eq_false h2]
      rfl
  · have : s = [] := List.length_eq_zero_iff.1 (by omega)
    subst this
    rfl
def Pq (s : List UInt8) (i : Nat) : Bool := ((s.getD i 0 == 45) && (decide (0 < i) && decide (i + 1 < s.length))) || isLet (s.getD i 0)
def Mb (s : List UInt8) : Bool := (List.range s.length).all (Pq s) && decide (1 ≤ s.length) && decide (s.length ≤ 20)
theorem O4 (s : List UInt8) (hs : s.length ≤ 9000) : ∀ (d k f : Nat), d = s.length - k → k ≤ s.length → d < f → (∀ j, j < k → Pq s j = true) → Q9 s f ((k : Nat) : Int) = some (Mb s) := by
  intro d
  induction d with
  | zero =>
    intro k f hd hk hf hall
    obtain ⟨f, rfl⟩ : ∃ g, f = g + 1 := ⟨f - 1, by omega⟩
    show Xw (Q9 s f) s _ = _
    unfold Xw Je Mb
    have ha : (List.range s.length).all (Pq s) = true := by rw [List.all_eq_true]; intro j hj; exact hall j (by have := List.mem_range.1 hj; omega)
    rw [show decide (((k : Nat) : Int) < ((List.length s : Nat) : Int)) = false by simp; omega, ha]
    simp only [cond_false, Bool.true_and]
    by_cases h1 : 1 ≤ s.length
    · rw [show decide (((List.length s : Nat) : Int) ≥ 1) = true by simp; omega, decide_eq_true h1]
      simp only [cond_true, Bool.true_and]
      congr 1
      rw [decide_eq_decide]
      omega
    · rw [show decide (((List.length s : Nat) : Int) ≥ 1) = false by simp; omega, decide_eq_false h1]
      rfl
  | succ d ih =>
    intro k f hd hk hf hall
    obtain ⟨f, rfl⟩ : ∃ g, f = g + 1 := ⟨f - 1, by omega⟩
    have hlt : k < s.length := by omega
    show Xw (Q9 s f) s _ = _
    unfold Xw
    have hgd : s.getD k 0 = s[k] := by simp [List.getD, List.getElem?_eq_getElem hlt]
    have w1 : IntKind.wrap .i64 (((List.length s : Nat) : Int) - 1) = ((s.length - 1 : Nat) : Int) := by rw [Bh (by omega)]; omega
    have w4 : IntKind.wrap .i64 ((k : Int) + 1) = ((k + 1 : Nat) : Int) := by rw [Bh (by omega)]; omega
    rw [show decide (((k : Nat) : Int) < ((List.length s : Nat) : Int)) = true by simp; omega, show idx s ((k : Nat) : Int) = some s[k] from Jt hlt]
    simp only [cond_true, Option.bind_some, byteEq45, w1]
    have d0 : decide (((k : Nat) : Int) > 0) = decide (0 < k) := by rw [decide_eq_decide]; omega
    have d1 : decide (((k : Nat) : Int) < ((s.length - 1 : Nat) : Int)) = decide (k + 1 < s.length) := by rw [decide_eq_decide]; omega
    rw [d0, d1]
    have yes : Pq s k = true → Q9 s f ((k + 1 : Nat) : Int) = some (Mb s) := fun hok => ih (k + 1) f (by omega) (by omega) (by omega) fun j hj => by
      by_cases hjk : j = k
      · subst hjk; exact hok
      · exact hall j (by omega)
    have no : Pq s k = false → some false = some (Mb s) := fun hno => by
      congr 1
      unfold Mb
      have : (List.range s.length).all (Pq s) = false := by
        rw [Bool.eq_false_iff]
        intro h
        rw [List.all_eq_true] at h
        have := h k (List.mem_range.2 hlt)
        rw [hno] at this
        cases this
      rw [this]
      rfl
    have key : (cond (s[k] == 45) (cond (decide (0 < k)) (Zl (Q9 s f) ((k : Nat) : Int) s[k] (decide (k + 1 < s.length))) (Zl (Q9 s f) ((k : Nat) : Int) s[k] false)) (Zl (Q9 s f) ((k : Nat) : Int) s[k] false)) =
        Zl (Q9 s f) ((k : Nat) : Int) s[k] ((s[k] == 45) && (decide (0 < k) && decide (k + 1 < s.length))) := by
      cases s[k] == 45 <;> cases decide (0 < k) <;> simp
    rw [key]
    have hok : Pq s k = (((s[k] == 45) && (decide (0 < k) && decide (k + 1 < s.length))) || isLet s[k]) := by unfold Pq; rw [hgd]
    rw [hok] at yes no
    generalize ((s[k] == 45) && (decide (0 < k) && decide (k + 1 < s.length))) = line at yes no ⊢
    unfold Zl Zw
    simp only [w4]
    cases line with
    | true => exact yes rfl
    | false =>
      simp only [Bool.false_or] at yes no
      unfold isLet at yes no
      generalize s[k].toNat = x at yes no ⊢
      simp only [Bool.not_false, cond_true]
      by_cases h1 : x < 97
      · rw [show decide (((x : Nat) : Int) < 97) = true by simp; omega]
        by_cases h2 : x < 48
        · rw [show decide (((x : Nat) : Int) < 48) = true by simp; omega]
          exact no (by simp; omega)
        · rw [show decide (((x : Nat) : Int) < 48) = false by simp; omega]
          by_cases h3 : 57 < x
          · rw [show decide (((x : Nat) : Int) > 57) = true by simp; omega]
            exact no (by simp; omega)
          · rw [show decide (((x : Nat) : Int) > 57) = false by simp; omega]
            exact yes (by simp; omega)
      · rw [show decide (((x : Nat) : Int) < 97) = false by simp; omega]
        by_cases h2 : 122 < x
        · rw [show decide (((x : Nat) : Int) > 122) = true by simp; omega, show decide (((x : Nat) : Int) < 48) = false by simp; omega, show decide (((x : Nat) : Int) > 57) = true by simp; omega]
          exact no (by simp; omega)
        · rw [show decide (((x : Nat) : Int) > 122) = false by simp; omega]
          exact yes (by simp; omega)
theorem let45 : isLet 45 = false := by decide
theorem nameR_eq (s : List UInt8) : Mb s = Ef s := by
  rw [Bool.eq_iff_iff]
  unfold Mb Ef
  simp only [Bool.and_eq_true, List.all_eq_true, List.mem_range, decide_eq_true_eq, Bool.not_eq_true']
  have hget : ∀ i (hi : i < s.length), s.getD i 0 = s[i] := fun i hi => by simp [List.getD, List.getElem?_eq_getElem hi]
  have hhead : ∀ h : 0 < s.length, s.headD 0 = s[0] := fun h => by cases s with | nil => simp at h | cons c r => rfl
  have hlast : ∀ h : 0 < s.length, s.getLastD 0 = s[s.length - 1] := fun h => by
    have h2 := List.getLast_eq_getElem (l := s) (by intro e; subst e; simp at h)
    rw [← h2, List.getLastD_eq_getLast?, List.getLast?_eq_some_getLast (by intro e; subst e; simp at h)]
    rfl
  constructor
  · rintro ⟨⟨h1, h2⟩, h3⟩
    refine ⟨⟨⟨⟨h2, h3⟩, fun x hx => ?_⟩, ?_⟩, ?_⟩
    · obtain ⟨i, hi, rfl⟩ := List.mem_iff_getElem.1 hx
      have := h1 i hi
      unfold Pq at this
      rw [hget i hi, Bool.or_eq_true, Bool.and_eq_true] at this
      unfold isNm
      rcases this with h | h
      · rw [h.1]; simp
      · rw [h]; rfl
    · have := h1 0 (by omega)
      unfold Pq at this
      rw [hget 0 (by omega)] at this
      rw [hhead (by omega)]
      simp only [Nat.lt_irrefl, decide_false, Bool.false_and, Bool.and_false, Bool.false_or] at this
      rw [Bool.eq_false_iff]
      intro e
      rw [beq_iff_eq.1 e, let45] at this
      cases this
    · have := h1 (s.length - 1) (by omega)
      unfold Pq at this
      rw [hget _ (by omega), show decide (s.length - 1 + 1 < s.length) = false by simp; omega] at this
      rw [hlast (by omega)]
      simp only [Bool.and_false, Bool.false_or] at this
      rw [Bool.eq_false_iff]
      intro e
      rw [beq_iff_eq.1 e, let45] at this
      cases this
  · rintro ⟨⟨⟨⟨h2, h3⟩, h4⟩, h5⟩, h6⟩
    refine ⟨⟨fun i hi => ?_, h2⟩, h3⟩
    have hm := h4 s[i] (List.getElem_mem hi)
    unfold Pq
    rw [hget i hi]
    unfold isNm at hm
    rw [Bool.or_eq_true] at hm ⊢
    rcases hm with hm | hm
    · exact .inr hm
    · refine .inl ?_
      have e45 := beq_iff_eq.1 hm
      rw [hm]
      have i0 : 0 < i := by
        rcases Nat.eq_zero_or_pos i with rfl | h
        · rw [hhead (by omega), hm] at h5; cases h5
        · exact h
      have i1 : i + 1 < s.length := by
        rcases Nat.lt_or_ge (i + 1) s.length with h | h
        · exact h
        · have : i = s.length - 1 := by omega
          subst this
          rw [hlast (by omega), hm] at h6; cases h6
      simp [i0, i1]
theorem rName (s : List UInt8) (h : s.length ≤ 9000) : Jx s = some (Ef s) := by
  unfold Jx
  rw [← nameR_eq]
  exact O4 s h s.length 0 Zj (by omega) (by omega) (by rw [fuel_eq]; omega) (fun j hj => absurd hj (by omega))
def Mc (a : Nat) : List UInt8 := decDigits (a / 16777216 % 256) ++ 46 :: (decDigits (a / 65536 % 256) ++ 46 :: (decDigits (a / 256 % 256) ++ 46 :: decDigits (a % 256)))
theorem decL_nat {n : Nat} (h : n ≤ 1099511627776) : decL (n : Int) = decDigits n := by unfold decL; rw [if_pos (by omega), Int.toNat_natCast]
theorem Ft {n : Nat} (h : n < 256) : (decDigits n).length ≤ 3 := dec_len (by omega) (by omega)
theorem Fu (a : Nat) (ha : a < 4294967296) (f i : Nat) (acc : List (List UInt8)) (hi : i < 4) (hacc : acc.length ≤ 4) :
    Jc (a : Int) (f + 1) acc (i : Int) = Jc (a : Int) f (acc ++ [decDigits (a / 2 ^ (24 - 8 * i) % 256)]) ((i + 1 : Nat) : Int) := by
  show J5 (Jc (a : Int) f) (a : Int) acc (i : Int) = _
  unfold J5
  have w1 : IntKind.wrap .i64 (24 - IntKind.wrap .i64 (8 * (i : Int))) = ((24 - 8 * i : Nat) : Int) := by rw [Bh (x := 8 * (i : Int)) (by omega), Bh (by omega)]; omega
  have w2 : IntKind.wrap .i64 (IntKind.wrap .u8 (((a / 2 ^ (24 - 8 * i) : Nat) : Int))) = ((a / 2 ^ (24 - 8 * i) % 256 : Nat) : Int) := by
    rw [O3]
    generalize a / 2 ^ (24 - 8 * i) = q
    rw [Bh (by omega)]
    omega
  have w4 : IntKind.wrap .i64 ((i : Int) + 1) = ((i + 1 : Nat) : Int) := by rw [Bh (by omega)]; omega
  rw [show decide ((i : Int) < 4) = true by simp; omega, w1, show decide (0 ≤ ((24 - 8 * i : Nat) : Int)) = true by simp, bShr32 a _ (by omega), w2, Od, decL_nat (by have := Nat.mod_lt (a / 2 ^ (24 - 8 * i)) (show 0 < 256 by omega); omega), w4]
  simp only [cond_true, chk, Option.bind_some, Ry (show acc.length + [decDigits (a / 2 ^ (24 - 8 * i) % 256)].length ≤ 2147483648 by simp only [List.length_cons, List.length_nil]; omega)]
theorem join4 (x y z t : List UInt8) : Lib.join [x, y, z, t] [46] = x ++ 46 :: (y ++ 46 :: (z ++ 46 :: t)) := by
  simp [Lib.join, List.intercalate, List.intersperse]
theorem Lh (a : Nat) : (Mc a).length ≤ 15 := by
  have h1 := Ft (n := a / 16777216 % 256) (by omega)
  have h2 := Ft (n := a / 65536 % 256) (by omega)
  have h3 := Ft (n := a / 256 % 256) (by omega)
  have h4 := Ft (n := a % 256) (by omega)
  simp only [Mc, List.length_append, List.length_cons]
  omega
theorem lDots (a : Nat) (ha : a < 4294967296) : Rw (a : Int) = some (Mc a) := by
  unfold Rw
  obtain ⟨f, hf⟩ : ∃ f, Zj = f + 1 + 1 + 1 + 1 + 1 := ⟨Zj - 5, by rw [fuel_eq]⟩
  rw [hf]
  have s0 := Fu a ha (f + 1 + 1 + 1 + 1) 0 [] (by omega) (by simp)
  have s1 := Fu a ha (f + 1 + 1 + 1) 1 [decDigits (a / 2 ^ 24 % 256)] (by omega) (by simp)
  have s2 := Fu a ha (f + 1 + 1) 2 [decDigits (a / 2 ^ 24 % 256), decDigits (a / 2 ^ 16 % 256)] (by omega) (by simp)
  have s3 := Fu a ha (f + 1) 3 [decDigits (a / 2 ^ 24 % 256), decDigits (a / 2 ^ 16 % 256), decDigits (a / 2 ^ 8 % 256)] (by omega) (by simp)
  refine s0.trans (s1.trans (s2.trans (s3.trans ?_)))
  show J5 (Jc (a : Int) f) (a : Int) [decDigits (a / 2 ^ 24 % 256), decDigits (a / 2 ^ 16 % 256), decDigits (a / 2 ^ 8 % 256), decDigits (a / 2 ^ 0 % 256)] 4 = _
  unfold J5 Dg
  rw [join4]
  have e : decDigits (a / 2 ^ 24 % 256) ++ 46 :: (decDigits (a / 2 ^ 16 % 256) ++ 46 :: (decDigits (a / 2 ^ 8 % 256) ++ 46 :: decDigits (a / 2 ^ 0 % 256))) = Mc a := by
    unfold Mc
    rw [Nat.pow_zero, Nat.div_one]
  rw [e, Nat.ble_eq_true_of_le (show (Mc a).length ≤ 140737488355328 by have := Lh a; omega)]
  rfl
def Bw (a : Nat) (b : Int) : Bool := decide (0 ≤ b) && (decide (b ≤ 32) && decide (a % 2 ^ (32 - b.toNat) = 0))
def cutN (x : Nat) (b : Int) : Nat := x / 2 ^ (32 - b.toNat) * 2 ^ (32 - b.toNat)
theorem w32 {b : Int} (h0 : 0 ≤ b) (h1 : b ≤ 32) : IntKind.wrap .i64 (32 - b) = ((32 - b.toNat : Nat) : Int) := by rw [Bh (by omega)]; omega
theorem lMask {b : Int} (h0 : 0 ≤ b) (h1 : b ≤ 32) : Rx b = some ((4294967296 - 2 ^ (32 - b.toNat) : Nat) : Int) := by
  unfold Rx
  rw [w32 h0 h1, show decide (0 ≤ ((32 - b.toNat : Nat) : Int)) = true by simp]
  have := bShl32 4294967295 (32 - b.toNat) (by omega)
  rw [show ((4294967295 : Nat) : Int) = 4294967295 from rfl, mask_eq _ (by omega)] at this
  rw [this]
  rfl
theorem lRight (a : Nat) (ha : a < 4294967296) (b : Int) : Ra (a : Int) b = some (Bw a b) := by
  unfold Ra Bw Uk
  by_cases h0 : 0 ≤ b
  · rw [show decide (b ≥ 0) = true by simp; omega]
    by_cases h1 : b ≤ 32
    · rw [decide_eq_true h1, lMask h0 h1]
      simp only [cond_true, Option.bind_some, Ma a (32 - b.toNat) (by omega) ha, Bool.true_and]
      congr 1
      rw [Bool.eq_iff_iff, beq_iff_eq, decide_eq_true_eq]
      generalize a % 2 ^ (32 - b.toNat) = q
      omega
    · rw [decide_eq_false h1]; rfl
  · rw [show decide (b ≥ 0) = false by simp; omega]; rfl
theorem cut_le (x : Nat) (b : Int) : cutN x b ≤ x := Nat.div_mul_le_self _ _
theorem cut_id {x : Nat} {b : Int} : cutN x b = x ↔ x % 2 ^ (32 - b.toNat) = 0 := by
  have := Nat.div_add_mod x (2 ^ (32 - b.toNat))
  unfold cutN
  rw [Nat.mul_comm] at this
  omega
theorem rHead (x : Nat) (hx : x < 4294967296) {b : Int} (h0 : 0 ≤ b) (h1 : b ≤ 32) : U4 (x : Int) b = some ((cutN x b : Nat) : Int) := by
  unfold U4
  by_cases hb : b = 0
  · subst hb
    rw [show cutN x 0 = 0 by unfold cutN; rw [Nat.div_eq_of_lt (by simpa using hx), Nat.zero_mul]]
    rfl
  · have hc := cut_le x b
    rw [show (b == 0) = false by simpa using hb, w32 h0 h1, show decide (0 ≤ ((32 - b.toNat : Nat) : Int)) = true by simp, bShr32 x _ (by omega), bShl32 _ _ (by omega)]
    simp only [cond_false, chk, Option.bind_some]
    congr 2
    unfold cutN at hc ⊢
    exact Nat.mod_eq_of_lt (by omega)
theorem rRight (a : Nat) (ha : a < 4294967296) (b : Int) : Uq (a : Int) b = some (Bw a b) := by
  unfold Uq Bw Yk
  by_cases h0 : 0 ≤ b
  · rw [show decide (b ≥ 0) = true by simp; omega]
    by_cases h1 : b ≤ 32
    · rw [decide_eq_true h1, rHead a ha h0 h1]
      simp only [cond_true, Option.bind_some, Bool.true_and]
      congr 1
      rw [Bool.eq_iff_iff, beq_iff_eq, decide_eq_true_eq, ← cut_id]
      omega
    · rw [decide_eq_false h1]; rfl
  · rw [show decide (b ≥ 0) = false by simp; omega]; rfl
def Oe (a : Nat) (b : Int) : List UInt8 := match Bw a b with | true => Mc a ++ 47 :: decDigits b.toNat | false => []
theorem Km {a : Nat} {b : Int} (h : Bw a b = true) : 0 ≤ b ∧ b ≤ 32 := by
  unfold Bw at h
  simp only [Bool.and_eq_true, decide_eq_true_eq] at h
  exact ⟨h.1, h.2.1⟩
theorem lSlash (a : Nat) (ha : a < 4294967296) (b : Int) : Rb (a : Int) b = some (Oe a b) := by
  unfold Rb Oe
  rw [lRight a ha b]
  simp only [Option.bind_some]
  cases hr : Bw a b with
  | false => rfl
  | true =>
    obtain ⟨h0, h1⟩ := Km hr
    have hl := Lh a
    have hd : decL b = decDigits b.toNat := by unfold decL; rw [if_pos (by omega)]
    have hd3 := Ft (n := b.toNat) (by omega)
    simp only [Bool.not_true, cond_false, lDots a ha, Option.bind_some, Od, hd]
    rw [Ry (by simp only [List.length_cons, List.length_nil]; omega)]
    simp only [Option.bind_some]
    rw [Ry (by simp only [List.length_append, List.length_cons, List.length_nil]; omega)]
    simp
end Go.Proofs.YtmgfanhcdfobhaaGreatDoor
namespace Go.Proofs.YtmgfanhcdfobhaaGreatDoor
open Go.RowKit
abbrev DS (α : Type) := Option Addr × Nat × List α
def eDS {α : Type} (e : Enc α) : Enc (DS α) := ⟨1, fun x => [.slice x.1 (List.length x.2.2) x.2.1], fun _ => rfl, fun _ v hv => by simp at hv; subst hv; rfl⟩
abbrev Va := List UInt8 × Int × Int × DS (Int × Int) × DS (List UInt8 × List UInt8 × Int)
abbrev Qg := List UInt8 × Int × Int × List (Int × Int) × List (List UInt8 × List UInt8 × Int)
abbrev stT (y : Va) : Qg := (y.1, y.2.1, y.2.2.1, y.2.2.2.1.2.2, y.2.2.2.2.2.2)
structure Dp (α : Type) where
  ok : World → α → Prop
  mono : ∀ {w w' : World} {x : α}, Below w.heap.size w w' → ok w x → ok w' x
def dT {α : Type} : Dp α := ⟨fun _ _ => True, fun _ _ => trivial⟩
def Md {α β : Type} (a : Dp α) (b : Dp β) : Dp (α × β) := ⟨fun w x => a.ok w x.1 ∧ b.ok w x.2, fun hb h => ⟨a.mono hb h.1, b.mono hb h.2⟩⟩
def dDS {α : Type} (e : Enc α) (p : Dp α) : Dp (DS α) := ⟨fun w x => RdT e w x.1 x.2.1 x.2.2 ∧ ∀ y ∈ x.2.2, p.ok w y, fun hb h => ⟨RdT.below h.1 hb, fun y hy => p.mono hb (h.2 y hy)⟩⟩
abbrev eNet : Enc (Int × Int) := Qj (Qc .u32) (Qc .i64)
abbrev eTok : Enc (List UInt8 × List UInt8 × Int) := Qj Qx (Qj Qx (Qc .i64))
abbrev Js : Enc Va := Qj Qx (Qj (Qc .i64) (Qj (Qc .i64) (Qj (eDS eNet) (eDS eTok))))
abbrev Ce : Dp Va := Md dT (Md dT (Md dT (Md (dDS eNet dT) (dDS eTok dT))))
section
variable {α β γ : Type} {e : Enc α} {p : Dp α} {q : Dp β} {w w' w0 : World} {es : List Ent}
theorem Uz {A : Option Addr} {c : Nat} {l : List α} (h : (dDS e p).ok w (A, c, l)) : RdT e w A c l := h.1
theorem Bx {A : Option Addr} {c : Nat} {l : List α} (h : (dDS e p).ok w (A, c, l)) {i : Nat} {x : α} (hx : l[i]? = some x) : p.ok w x := h.2 x (List.mem_of_getElem? hx)
theorem dp1 {x : α × β} (h : (Md p q).ok w x) : p.ok w x.1 := h.1
theorem dp2 {x : α × β} (h : (Md p q).ok w x) : q.ok w x.2 := h.2
theorem Jw {x : α × β} (h1 : p.ok w x.1) (h2 : q.ok w x.2) : (Md p q).ok w x := ⟨h1, h2⟩
theorem Nv {x : α} : (dT : Dp α).ok w x := trivial
theorem Eg (e : Enc α) (p : Dp α) (w : World) : (dDS e p).ok w (none, 0, []) := ⟨RdT.nil e w, fun y hy => by cases hy⟩
theorem Rm {x : DS α} (h : RdT e w x.1 x.2.1 x.2.2) : (dDS e dT).ok w x := ⟨h, fun _ _ => trivial⟩
theorem F9 {A : Option Addr} {c : Nat} {l : List α} (h : RdT e w A c l) (h2 : ∀ y ∈ l, p.ok w y) : (dDS e p).ok w (A, c, l) := ⟨h, h2⟩
theorem By : ∀ y ∈ ([] : List α), p.ok w y := fun y hy => by cases hy
theorem R9 {x : α} {l : List α} (h : p.ok w x) (h2 : ∀ y ∈ l, p.ok w y) : ∀ y ∈ x :: l, p.ok w y := fun y hy => by
  rcases List.mem_cons.1 hy with rfl | hy
  · exact h
  · exact h2 y hy
theorem Dp.sp {x : α} (h : p.ok w0 x) (hs : SP [] w0 w es) : p.ok w x := p.mono hs.keeps h
theorem Ha (hs : SP [] w0 w es) (hb : Below w.heap.size w w') : Below w0.heap.size w0 w' := (hs.below hb).keeps
theorem Hz {S : List Nat} (hs : SP S w0 w es) (hb : Below w.heap.size w w') : Mod S w0 w' := (hs.below hb).mod
theorem SP.still {S : List Nat} {es' : List Ent} {e : Ent} {l : List Nat} {i : Nat} (h : SP S w0 w es) (he : es' = K8 es l) (hi : es[i]? = some e) (hn : l.all (fun j => !(Nat.beq i j)) = true) (hm : Mod (es'.flatMap Ent.fp) w w') : e.ok w' := by
  subst he
  have hg := h.own.get hi
  refine e.loc w w' (fun k hk => hm.block k (hg.2 k hk).2 fun hkl => ?_) hg.1
  obtain ⟨e', he', hke⟩ := List.mem_flatMap.1 hkl
  obtain ⟨j, hj, hej⟩ := Ch he'
  refine h.own.apart hi hej (fun hij => ?_) k hk hke
  rw [List.all_eq_true] at hn
  have := hn j hj
  rw [hij, Nat.beq_refl] at this
  cases this
theorem Rc {f : α → γ} {l : List α} {i : Int} {K : γ → Option β} {r : β} (h : (idx (List.map f l) i).bind K = some r) : ∃ y, 0 ≤ i ∧ i < (l.length : Int) ∧ l[i.toNat]? = some y ∧ K (f y) = some r := by
  obtain ⟨x, h0, h1, hx, hK⟩ := Qo h
  rw [List.length_map] at h1
  rw [List.getElem?_map, Option.map_eq_some_iff] at hx
  obtain ⟨y, hy, rfl⟩ := hx
  exact ⟨y, h0, h1, hy, hK⟩
end
section
variable {α γ : Type} {e : Enc α} {P : Program} {n : Nat} {B : Code} {p : List Bool} {k : Nat} {K : Fr → World → Prop} {ρ : Fr} {w : World} {A : Option Addr} {c : Nat} {l : List α} {d : Option Nat}
theorem Ul (f : α → γ) {T E : TypeId} {x ix : Operand} {ki : IntKind} {iz : Int} (ho : D3 (Qm B p) k ρ = some (.indexAddr T x ix, d)) (hd : Ji n d = true)
    (hx : opv ρ x = .slice A (List.length (List.map f l)) c) (hix : opv ρ ix = .int ki iz) (hT : P.underlying T = some (.slice E)) (hE : (P.info? E).map (·.size) = some e.sz) (hr : RdT e w A c l) (h0 : 0 ≤ iz) (h1 : iz < (l.length : Int))
    (next : ∀ b off : Nat, A = some ⟨b, off, none⟩ → b < w.heap.size → (∀ j u, (Qd e l)[j]? = some u → w.cell? ⟨b, off + j, none⟩ = some u) → K (G4 ρ d (.pointer (some ⟨b, off + iz.toNat * e.sz, none⟩))) w) :
    Qi P n B p k K ρ w := by
  rw [List.length_map] at hx
  exact Vi ho hd hx hix hT hE hr h0 h1 next
end
end Go.Proofs.YtmgfanhcdfobhaaGreatDoor
