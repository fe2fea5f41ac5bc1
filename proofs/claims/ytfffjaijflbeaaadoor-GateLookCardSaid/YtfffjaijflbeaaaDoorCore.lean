/- THE CALCULUS OF THE LIFTED WALKS: frames as functions, code by paths, loops by fuel; over any program. -/
import Derived.Test.YtfffjaijflbeaaaDoorBase
import Derived.Orders
namespace Go.Proofs.YtfffjaijflbeaaaDoor
set_option linter.unusedSimpArgs false
set_option linter.unusedVariables false

abbrev Fr := Nat → Value
def upd (ρ : Fr) (d : Nat) (v : Value) : Fr := fun t => match Nat.beq t d with | true => v | false => ρ t
def updO (ρ : Fr) (d : Option Nat) (v : Value) : Fr := match d with | some d => upd ρ d v | none => ρ
def opv (ρ : Fr) : Operand → Value
  | .tmp t => ρ t
  | .const v => v
  | .global g => .pointer (some ⟨g, 0, none⟩)
  | .func f => .func (.func f) #[] #[]
theorem upd_same (ρ : Fr) (d : Nat) (v : Value) : upd ρ d v d = v := by simp [upd]
theorem upd_other {ρ : Fr} {d t : Nat} {v : Value} (h : t ≠ d) : upd ρ d v t = ρ t := by
  unfold upd
  have : Nat.beq t d = false := by
    cases hb : Nat.beq t d with
    | false => rfl
    | true => exact absurd (Nat.eq_of_beq_eq_true hb) h
  rw [this]
theorem upd_self {ρ : Fr} {d : Nat} {v : Value} (h : ρ d = v) : upd ρ d v = ρ := by
  funext t
  by_cases ht : t = d
  · subst ht; rw [upd_same, h]
  · exact upd_other ht

/-- the frame a is of size n, without deferred calls, and its slots are ρ's -/
structure FA (n : Nat) (ρ : Fr) (a : Act) : Prop where
  defers : a.defers = []
  size : a.tmps.size = n
  get : ∀ t, a.tmps.getD t undef = ρ t
theorem FA.eval {n : Nat} {ρ : Fr} {a : Act} (h : FA n ρ a) : a.eval = opv ρ := by
  funext x
  cases x with
  | tmp t => exact h.get t
  | _ => rfl
theorem FA.put {n : Nat} {ρ : Fr} {a : Act} (h : FA n ρ a) {d : Nat} (hd : d < n) (v : Value) : FA n (upd ρ d v) (a.put (some d) v) := by
  refine ⟨h.defers, by simpa [Act.put] using h.size, fun t => ?_⟩
  have hs := h.size
  by_cases ht : t = d
  · subst ht
    rw [upd_same]
    simp [Act.put, hs, hd]
  · rw [upd_other ht, ← h.get t]
    simp [Act.put, Array.getElem?_setIfInBounds_ne (fun e => ht e.symm)]
def dstOk (n : Nat) (d : Option Nat) : Bool := match d with | some d => Nat.blt d n | none => true
theorem FA.putO {n : Nat} {ρ : Fr} {a : Act} (h : FA n ρ a) {d : Option Nat} (hd : dstOk n d = true) (v : Value) : FA n (updO ρ d v) (a.put d v) := by
  cases d with
  | none => exact h
  | some d => exact h.put (by simp only [dstOk] at hd; exact Nat.le_of_ble_eq_true hd) v

/-- an exit's post, said of frames as functions -/
abbrev Post := Exit → Fr → World → Prop
def liftQ (n : Nat) (Q : Post) : Exit → Act → World → Prop := fun e a w => ∃ ρ, FA n ρ a ∧ Q e ρ w
def W (P : Program) (n : Nat) (c : Code) (Q : Post) (ρ : Fr) (w : World) : Prop := ∀ a, FA n ρ a → c.wp P (liftQ n Q) a w
def thenF (K : Fr → World → Prop) (Q : Post) : Post
  | .normal, ρ, w => K ρ w
  | e, ρ, w => Q e ρ w
def blockF (id : Nat) (Q : Post) : Post
  | .exit k, ρ, w => match Nat.beq k id with | true => Q .normal ρ w | false => Q (.exit k) ρ w
  | e, ρ, w => Q e ρ w
section
variable {P : Program} {n : Nat} {Q : Post} {ρ : Fr} {w : World}
theorem W.mono {c : Code} {Q' : Post} (h : W P n c Q' ρ w) (hq : ∀ e ρ w, Q' e ρ w → Q e ρ w) : W P n c Q ρ w :=
  fun a ha => Code.wp_mono (fun e a' w' ⟨ρ', h1, h2⟩ => ⟨ρ', h1, hq _ _ _ h2⟩) (h a ha)
theorem W.seq {x y : Code} (h : W P n x (thenF (W P n y Q) Q) ρ w) : W P n (.seq x y) Q ρ w := by
  intro a ha
  refine wp_seq (Code.wp_mono ?_ (h a ha))
  rintro e a' w' ⟨ρ', ha', hq⟩
  cases e with
  | normal => exact hq a' ha'
  | _ => exact ⟨ρ', ha', hq⟩
theorem W.skip (h : Q .normal ρ w) : W P n .skip Q ρ w := fun _ ha => wp_skip ⟨ρ, ha, h⟩
theorem W.ret (h : Q .ret ρ w) : W P n .ret Q ρ w := fun _ ha => wp_ret ⟨ρ, ha, h⟩
theorem W.exit {id : Nat} (h : Q (.exit id) ρ w) : W P n (.exit id) Q ρ w := fun _ ha => wp_exit ⟨ρ, ha, h⟩
theorem W.block {id : Nat} {c : Code} (h : W P n c (blockF id Q) ρ w) : W P n (.block id c) Q ρ w := by
  intro a ha
  refine wp_block (Code.wp_mono ?_ (h a ha))
  rintro e a' w' ⟨ρ', ha', hq⟩
  cases e with
  | exit k =>
    by_cases hk : k = id
    · subst hk
      simp only [Exit.inBlock, if_true]
      simp only [blockF, Nat.beq_refl] at hq
      exact ⟨ρ', ha', hq⟩
    · simp only [Exit.inBlock, if_neg hk]
      have : Nat.beq k id = false := by
        cases hb : Nat.beq k id with
        | false => rfl
        | true => exact absurd (Nat.eq_of_beq_eq_true hb) hk
      simp only [blockF, this] at hq
      exact ⟨ρ', ha', hq⟩
  | _ => exact ⟨ρ', ha', hq⟩
theorem W.cond {c : Operand} {x y : Code} {b : Bool} (hc : opv ρ c = .bool b) (h1 : b = true → W P n x Q ρ w) (h2 : b = false → W P n y Q ρ w) : W P n (.cond c x y) Q ρ w := by
  intro a ha
  exact wp_cond_split (by rw [ha.eval]; exact hc) (fun h => h1 h a ha) (fun h => h2 h a ha)
/-- what follows is proved of whatever holds between -/
theorem W.join {c : Code} (Mid : Fr → World → Prop) (h : W P n c (thenF Mid Q) ρ w) (hm : ∀ ρ w, Mid ρ w → Q .normal ρ w) : W P n c Q ρ w :=
  h.mono fun e ρ w hq => by cases e <;> first | exact hm _ _ hq | exact hq
theorem wp_loop_fuel {c : Code} {Q : Exit → Act → World → Prop} (I : Nat → Act → World → Prop)
    (round : ∀ f a w, I f a w → c.wp P (Exit.then (fun a' w' => ∃ f', f' < f ∧ I f' a' w') Q) a w) : ∀ (f : Nat) (a : Act) (w : World), I f a w → (Code.loop c).wp P Q a w := by
  intro f a w h₀ b k cs
  have key : ∀ f a w, I f a w → ∃ e a' w', Q e a' w' ∧ Arrives P (lone (b.at a (.code c :: .inLoop c :: k)) cs w) b k cs e a' w' := by
    intro f
    induction f using Nat.strongRecOn with
    | _ f ih =>
      intro a w hI
      obtain ⟨e, a₁, w₁, hq, harr⟩ := round f a w hI b (.inLoop c :: k) cs
      cases e with
      | normal =>
        obtain ⟨f', hlt, hI₁⟩ := hq
        obtain ⟨e₂, a₂, w₂, hq₂, harr₂⟩ := ih f' hlt a₁ w₁ hI₁
        exact ⟨e₂, a₂, w₂, hq₂, .of_steps (Steps.trans harr (.one step_inLoop)) harr₂⟩
      | exit id => exact ⟨_, a₁, w₁, hq, .pass (x := .inLoop c) rfl (fun _ _ => .inl (by simp)) harr⟩
      | goto l => exact ⟨_, a₁, w₁, hq, .pass (x := .inLoop c) rfl (fun _ _ => .inl (by simp)) harr⟩
      | ret => exact ⟨_, a₁, w₁, hq, .pass (x := .inLoop c) rfl (fun _ _ => .inl (by simp)) harr⟩
      | panic ch => exact ⟨_, a₁, w₁, hq, .pass (x := .inLoop c) rfl (fun _ _ => .inl (by simp)) harr⟩
      | outgrown => exact ⟨_, a₁, w₁, hq, .pass (x := .inLoop c) rfl (fun _ _ => .inl (by simp)) harr⟩
  obtain ⟨e, a', w', hq, harr⟩ := key f a w h₀
  exact ⟨e, a', w', hq, .of_steps (.one step_loop) harr⟩
theorem W.loop {c : Code} (I : Nat → Fr → World → Prop) (h0 : ∀ ρ w, ¬ I 0 ρ w) (hr : ∀ f ρ w, I (f + 1) ρ w → W P n c (thenF (I f) Q) ρ w) (f : Nat) (h : I f ρ w) : W P n (.loop c) Q ρ w := by
  intro a ha
  refine wp_loop_fuel (fun f a w => ∃ ρ, FA n ρ a ∧ I f ρ w) ?_ f a w ⟨ρ, ha, h⟩
  rintro f a w ⟨ρ, ha, hI⟩
  cases f with
  | zero => exact absurd hI (h0 _ _)
  | succ f =>
    refine Code.wp_mono ?_ (hr f ρ w hI a ha)
    rintro e a' w' ⟨ρ', ha', hq⟩
    cases e with
    | normal => exact ⟨f, Nat.lt_succ_self f, ρ', ha', hq⟩
    | _ => exact ⟨ρ', ha', hq⟩
end

/-! code by paths -/
def codeAt : Code → List Bool → Code
  | c, [] => c
  | .seq a _, false :: p => codeAt a p
  | .seq _ b, true :: p => codeAt b p
  | .cond _ a _, false :: p => codeAt a p
  | .cond _ _ b, true :: p => codeAt b p
  | .block _ c, _ :: p => codeAt c p
  | .loop c, _ :: p => codeAt c p
  | .scope c, _ :: p => codeAt c p
  | _, _ :: _ => .skip
theorem codeAt_skip (q : List Bool) : codeAt .skip q = .skip := by
  cases q with
  | nil => rfl
  | cons b q => cases b <;> rfl
theorem codeAt_append : ∀ (p : List Bool) (c : Code) (q : List Bool), codeAt c (p ++ q) = codeAt (codeAt c p) q
  | [], c, q => by cases c <;> rfl
  | b :: p, c, q => by
    cases c <;> cases b <;> first
      | exact codeAt_append p _ q
      | (simp only [List.cons_append, codeAt]; exact (codeAt_skip q).symm)
def shapeAt : Code → Nat × Nat × Operand
  | .seq _ _ => (1, 0, .const undef)
  | .cond c _ _ => (2, 0, c)
  | .block id _ => (3, id, .const undef)
  | .loop _ => (4, 0, .const undef)
  | .region id _ d => (5, id, .const (.bool d))
  | .exit id => (6, id, .const undef)
  | .ret => (7, 0, .const undef)
  | .skip => (8, 0, .const undef)
  | .scope _ => (9, 0, .const undef)
  | _ => (0, 0, .const undef)
def isTag (k : Nat) (c : Code) : Bool := Nat.beq (shapeAt c).1 k
def tagId (c : Code) : Nat := (shapeAt c).2.1
def condOf (c : Code) : Operand := (shapeAt c).2.2
def regOps : Code → Array Oper
  | .region _ ops _ => ops
  | _ => #[]
def regDraws : Code → Bool
  | .region _ _ d => d
  | _ => true
section
variable {P : Program} {n : Nat} {Q : Post} {ρ : Fr} {w : World} {B : Code} {p : List Bool}
theorem seq_of {c : Code} (h : isTag 1 c = true) : c = .seq (codeAt c [false]) (codeAt c [true]) := by
  cases c <;> first | exact absurd h (by decide) | (simp [isTag, shapeAt] at h; done) | skip
  rename_i a b
  show Code.seq a b = Code.seq (codeAt a []) (codeAt b [])
  cases a <;> cases b <;> rfl
theorem codeAt_nil (c : Code) : codeAt c [] = c := by cases c <;> rfl
theorem cond_of {c : Code} (h : isTag 2 c = true) : c = .cond (condOf c) (codeAt c [false]) (codeAt c [true]) := by
  cases c <;> first | (simp [isTag, shapeAt] at h; done) | skip
  simp [condOf, shapeAt, codeAt, codeAt_nil]
theorem block_of {c : Code} (h : isTag 3 c = true) : c = .block (tagId c) (codeAt c [false]) := by
  cases c <;> first | (simp [isTag, shapeAt] at h; done) | skip
  simp [tagId, shapeAt, codeAt, codeAt_nil]
theorem loop_of {c : Code} (h : isTag 4 c = true) : c = .loop (codeAt c [false]) := by
  cases c <;> first | (simp [isTag, shapeAt] at h; done) | skip
  simp [codeAt, codeAt_nil]
theorem region_of {c : Code} (h : isTag 5 c = true) : c = .region (tagId c) (regOps c) (regDraws c) := by
  cases c <;> first | (simp [isTag, shapeAt] at h; done) | skip
  rfl
theorem exit_of {c : Code} (h : isTag 6 c = true) : c = .exit (tagId c) := by
  cases c <;> first | (simp [isTag, shapeAt] at h; done) | skip
  rfl
theorem ret_of {c : Code} (h : isTag 7 c = true) : c = .ret := by
  cases c <;> first | (simp [isTag, shapeAt] at h; done) | skip
  rfl
theorem skip_of {c : Code} (h : isTag 8 c = true) : c = .skip := by
  cases c <;> first | (simp [isTag, shapeAt] at h; done) | skip
  rfl
/-- the walk stands at the code of the path p -/
def At (P : Program) (n : Nat) (B : Code) (p : List Bool) (Q : Post) (ρ : Fr) (w : World) : Prop := W P n (codeAt B p) Q ρ w
theorem At.seq (h : isTag 1 (codeAt B p) = true) {p0 p1 : List Bool} (e0 : p0 = p ++ [false]) (e1 : p1 = p ++ [true]) (k : At P n B p0 (thenF (At P n B p1 Q) Q) ρ w) : At P n B p Q ρ w := by
  subst e0 e1
  unfold At
  rw [seq_of h]
  refine W.seq ?_
  rw [← codeAt_append, ← codeAt_append]
  exact k
theorem At.cond (h : isTag 2 (codeAt B p) = true) {o : Operand} (ho : condOf (codeAt B p) = o) {b : Bool} (hb : opv ρ o = .bool b) {p0 p1 : List Bool} (e0 : p0 = p ++ [false]) (e1 : p1 = p ++ [true])
    (k0 : b = true → At P n B p0 Q ρ w) (k1 : b = false → At P n B p1 Q ρ w) : At P n B p Q ρ w := by
  subst e0 e1
  unfold At at *
  rw [cond_of h, ho]
  refine W.cond hb ?_ ?_
  · rw [← codeAt_append]; exact k0
  · rw [← codeAt_append]; exact k1
theorem At.block (h : isTag 3 (codeAt B p) = true) {id : Nat} (hid : tagId (codeAt B p) = id) {p0 : List Bool} (e0 : p0 = p ++ [false]) (k : At P n B p0 (blockF id Q) ρ w) : At P n B p Q ρ w := by
  subst e0
  unfold At at *
  rw [block_of h, hid]
  refine W.block ?_
  rw [← codeAt_append]
  exact k
theorem At.loop (h : isTag 4 (codeAt B p) = true) {p0 : List Bool} (e0 : p0 = p ++ [false]) (I : Nat → Fr → World → Prop) (h0 : ∀ ρ w, ¬ I 0 ρ w)
    (hr : ∀ f ρ w, I (f + 1) ρ w → At P n B p0 (thenF (I f) Q) ρ w) (f : Nat) (k : I f ρ w) : At P n B p Q ρ w := by
  subst e0
  unfold At at *
  rw [loop_of h]
  refine W.loop I h0 ?_ f k
  rw [← codeAt_append]
  exact hr
theorem At.exit (h : isTag 6 (codeAt B p) = true) {id : Nat} (hid : tagId (codeAt B p) = id) (k : Q (.exit id) ρ w) : At P n B p Q ρ w := by
  unfold At
  rw [exit_of h, hid]
  exact W.exit k
theorem At.ret (h : isTag 7 (codeAt B p) = true) (k : Q .ret ρ w) : At P n B p Q ρ w := by
  unfold At
  rw [ret_of h]
  exact W.ret k
theorem At.skip (h : isTag 8 (codeAt B p) = true) (k : Q .normal ρ w) : At P n B p Q ρ w := by
  unfold At
  rw [skip_of h]
  exact W.skip k
theorem At.join (Mid : Fr → World → Prop) (h : At P n B p (thenF Mid Q) ρ w) (hm : ∀ ρ w, Mid ρ w → Q .normal ρ w) : At P n B p Q ρ w := W.join Mid h hm
/-- a slot's value under another name -/
theorem At.frame {ρ' : Fr} (h : ρ = ρ') (k : At P n B p Q ρ' w) : At P n B p Q ρ w := by subst h; exact k

/-! the operations of a region, in the order of the text -/
def wantedF (ops : Array Oper) (ρ : Fr) (o : Oper) : Bool :=
  match o.guard with
  | none => true
  | some (j, want) => match (ops[j]?).bind (·.dst) with
    | none => false
    | some d => match ρ d with
      | .bool b => match b, want with | true, true => true | false, false => true | _, _ => false
      | _ => false
theorem wanted_of {ops : Array Oper} {ρ : Fr} {a : Act} {n : Nat} (ha : FA n ρ a) (o : Oper) : Region.wanted o (yielded ops a.tmps) = wantedF ops ρ o := by
  unfold Region.wanted wantedF
  cases hg : o.guard with
  | none => rfl
  | some gw =>
    obtain ⟨j, want⟩ := gw
    simp only [yielded]
    cases hd : (ops[j]?).bind (·.dst) with
    | none => cases want <;> rfl
    | some d =>
      have hget := ha.get d
      simp only [Option.bind_some]
      cases hx : a.tmps[d]? with
      | none =>
        have : ρ d = undef := by rw [← hget]; simp [Array.getD_eq_getD_getElem?, hx]
        rw [this]
        cases want <;> rfl
      | some v =>
        have : ρ d = v := by rw [← hget]; simp [Array.getD_eq_getD_getElem?, hx]
        rw [this]
        cases v <;> cases want <;> first | rfl | (rename_i b; cases b <;> rfl)
def execSeq (P : Program) (n : Nat) (ops : Array Oper) : List Oper → Fr → World → Option (Fr × World)
  | [], ρ, w => some (ρ, w)
  | o :: l, ρ, w =>
    match dstOk n o.dst with
    | false => none
    | true =>
      match wantedF ops ρ o with
      | false => execSeq P n ops l (updO ρ o.dst undef) w
      | true =>
        match (execOp (opv ρ) o).run P w with
        | .ok (.value v) w' => execSeq P n ops l (updO ρ o.dst v) w'
        | .ok .skip w' => execSeq P n ops l (updO ρ o.dst undef) w'
        | _ => none
/-- the walk stands in the region of the path p, at its k-th operation -/
def In (P : Program) (n : Nat) (B : Code) (p : List Bool) (k : Nat) (Q : Post) (ρ : Fr) (w : World) : Prop :=
  ∀ a, FA n ρ a → wpList P (regOps (codeAt B p)) (liftQ n Q) ((regOps (codeAt B p)).toList.drop k) a w
theorem At.region (h : isTag 5 (codeAt B p) = true) (hd : regDraws (codeAt B p) = false) (k : In P n B p 0 Q ρ w) : At P n B p Q ρ w := by
  intro a ha
  have := region_of h
  rw [this, hd]
  exact wp_region_list (k a ha)
theorem In.fin {k : Nat} (hk : (regOps (codeAt B p)).size = k) (h : Q .normal ρ w) : In P n B p k Q ρ w := by
  intro a ha
  rw [List.drop_of_length_le (by rw [Array.length_toList]; omega)]
  exact ⟨ρ, ha, h⟩
theorem wpList_execSeq {ops : Array Oper} {rest : List Oper} : ∀ (l : List Oper) (ρ : Fr) (w : World) (ρ' : Fr) (w' : World), execSeq P n ops l ρ w = some (ρ', w') →
    (∀ a, FA n ρ' a → wpList P ops (liftQ n Q) rest a w') → ∀ a, FA n ρ a → wpList P ops (liftQ n Q) (l ++ rest) a w
  | [], ρ, w, ρ', w', h, hk, a, ha => by
    simp only [execSeq, Option.some.injEq, Prod.mk.injEq] at h
    obtain ⟨rfl, rfl⟩ := h
    exact hk a ha
  | o :: l, ρ, w, ρ', w', h, hk, a, ha => by
    simp only [execSeq] at h
    cases hdst : dstOk n o.dst with
    | false => rw [hdst] at h; cases h
    | true =>
      rw [hdst] at h
      simp only at h
      show wpList P ops (liftQ n Q) (o :: (l ++ rest)) a w
      unfold wpList
      rw [wanted_of ha o]
      cases hw : wantedF ops ρ o with
      | false =>
        rw [hw] at h
        simp only [Bool.false_eq_true, if_false]
        exact wpList_execSeq l _ _ _ _ h hk _ (ha.putO hdst _)
      | true =>
        rw [hw] at h
        simp only at h
        simp only [if_true]
        refine .inl ?_
        unfold Oper.wp
        rw [ha.eval]
        cases hr : (execOp (opv ρ) o).run P w with
        | halt x w1 => rw [hr] at h; cases h
        | ok nx w1 =>
          rw [hr] at h
          cases nx <;> first | (cases h; done) | skip
          · exact wpList_execSeq l _ _ _ _ h hk _ (ha.putO hdst _)
          · exact wpList_execSeq l _ _ _ _ h hk _ (ha.putO hdst _)
theorem In.run {k k' : Nat} (m : Nat) (hk : k' = k + m) (ρ' : Fr) (h : execSeq P n (regOps (codeAt B p)) (((regOps (codeAt B p)).toList.drop k).take m) ρ w = some (ρ', w))
    (next : In P n B p k' Q ρ' w) : In P n B p k Q ρ w := by
  subst hk
  intro a ha
  have hl : (regOps (codeAt B p)).toList.drop k = ((regOps (codeAt B p)).toList.drop k).take m ++ (regOps (codeAt B p)).toList.drop (k + m) := by
    rw [← List.drop_drop, List.take_append_drop]
  rw [hl]
  exact wpList_execSeq _ _ _ _ _ h next a ha
def opAt (c : Code) (k : Nat) (ρ : Fr) : Option (Op × Option Nat) :=
  match (regOps c)[k]? with
  | some o => match wantedF (regOps c) ρ o with
    | true => some (o.op, o.dst)
    | false => none
  | none => none
theorem opAt_spec {c : Code} {k : Nat} {ρ : Fr} {op : Op} {d : Option Nat} (h : opAt c k ρ = some (op, d)) : ∃ o, (regOps c)[k]? = some o ∧ o.op = op ∧ o.dst = d ∧ wantedF (regOps c) ρ o = true := by
  unfold opAt at h
  cases ho : (regOps c)[k]? with
  | none => rw [ho] at h; cases h
  | some o =>
    rw [ho] at h
    simp only at h
    split at h
    · rename_i hg
      simp only [Option.some.injEq, Prod.mk.injEq] at h
      exact ⟨o, rfl, h.1, h.2, hg⟩
    · cases h
theorem wpList_wanted {ops : Array Oper} {Q : Exit → Act → World → Prop} {a : Act} {w : World} {rest : List Oper} {o : Oper} (hg : Region.wanted o (yielded ops a.tmps) = true)
    (h : ∀ K : Act → World → Prop, (∀ a w, wpList P ops Q rest a w → K a w) → o.wp P a w K Q) : wpList P ops Q (o :: rest) a w :=
  wpList_step fun K hK => by simp only [hg, if_true]; exact h K hK
theorem drop_cons {ops : Array Oper} {k : Nat} {o : Oper} (h : ops[k]? = some o) : ops.toList.drop k = o :: ops.toList.drop (k + 1) := by
  obtain ⟨hk, hv⟩ := Array.getElem?_eq_some_iff.1 h
  rw [List.drop_eq_getElem_cons (by simpa using hk)]
  simp [hv]
/-- one operation: behind it K -/
def Step (P : Program) (n : Nat) (B : Code) (p : List Bool) (k : Nat) (K : Fr → World → Prop) (ρ : Fr) (w : World) : Prop :=
  ∀ a, FA n ρ a → ∀ Q' : Exit → Act → World → Prop, wpOp P (regOps (codeAt B p)) Q' k (fun a' w' => ∃ ρ', FA n ρ' a' ∧ K ρ' w') a w
theorem In.step {k k' : Nat} (hk : k' = k + 1) (hs : Nat.blt k (regOps (codeAt B p)).size = true) (h : Step P n B p k (In P n B p k' Q) ρ w) : In P n B p k Q ρ w := by
  subst hk
  intro a ha
  have hlt : k < (regOps (codeAt B p)).size := Nat.le_of_ble_eq_true hs
  have ho : (regOps (codeAt B p))[k]? = some (regOps (codeAt B p))[k] := Array.getElem?_eq_getElem hlt
  have h1 := wpOp_mono (K' := fun a' w' => wpList P (regOps (codeAt B p)) (liftQ n Q) ((regOps (codeAt B p)).toList.drop (k + 1)) a' w') (fun a' w' ⟨ρ', ha', hn⟩ => hn a' ha') (h a ha (liftQ n Q))
  rw [drop_cons ho]
  unfold wpOp at h1
  rw [ho] at h1
  exact h1
section
variable {K : Fr → World → Prop}
/-- one operation, whose run is known -/
theorem Step.val {k : Nat} {op : Op} {d : Option Nat} (ho : opAt (codeAt B p) k ρ = some (op, d)) (hd : dstOk n d = true) {v : Value} {w' : World}
    (hrun : ∀ o : Oper, o.op = op → (execOp (opv ρ) o).run P w = .ok (.value v) w') (next : K (updO ρ d v) w') : Step P n B p k K ρ w := by
  intro a ha Q'
  obtain ⟨o, h1, h2, h3, h4⟩ := opAt_spec ho
  unfold wpOp
  rw [h1]
  simp only [wanted_of ha o, h4, if_true]
  refine .inl ?_
  unfold Oper.wp
  rw [ha.eval, hrun o h2]
  refine ⟨_, ?_, next⟩
  rw [h3]
  exact ha.putO hd v
/-- one operation that yields no value -/
theorem Step.nov {k : Nat} {op : Op} {d : Option Nat} (ho : opAt (codeAt B p) k ρ = some (op, d)) (hd : dstOk n d = true) {w' : World}
    (hrun : ∀ o : Oper, o.op = op → (execOp (opv ρ) o).run P w = .ok .skip w') (next : K (updO ρ d undef) w') : Step P n B p k K ρ w := by
  intro a ha Q'
  obtain ⟨o, h1, h2, h3, h4⟩ := opAt_spec ho
  unfold wpOp
  rw [h1]
  simp only [wanted_of ha o, h4, if_true]
  refine .inl ?_
  unfold Oper.wp
  rw [ha.eval, hrun o h2]
  refine ⟨_, ?_, next⟩
  rw [h3]
  exact ha.putO hd undef
/-- a call -/
theorem Step.call {k : Nat} {op : Op} {d : Option Nat} (ho : opAt (codeAt B p) k ρ = some (op, d)) (hd : dstOk n d = true) {f : FuncId} {args : Array Value}
    (hrun : ∀ o : Oper, o.op = op → (execOp (opv ρ) o).run P w = .ok (.enter f args) w) {R : Ending → World → Prop} (hc : Calls P f args w R)
    (next : ∀ e w', R e w' → ∃ v, e = .returned v ∧ K (updO ρ d v) w') : Step P n B p k K ρ w := by
  intro a ha Q'
  obtain ⟨o, h1, h2, h3, h4⟩ := opAt_spec ho
  unfold wpOp
  rw [h1]
  simp only [wanted_of ha o, h4, if_true]
  refine .inl ?_
  unfold Oper.wp
  rw [ha.eval, hrun o h2, Oper.upon_enter]
  refine hc.mono fun e w' hR => ?_
  obtain ⟨v, rfl, hn⟩ := next e w' hR
  refine ⟨_, ?_, hn⟩
  rw [h3]
  exact ha.putO hd v
/-- an operation whose guard says no -/
theorem Step.not {k : Nat} {d : Option Nat} (ho : (regOps (codeAt B p))[k]?.map (fun o => (wantedF (regOps (codeAt B p)) ρ o, o.dst)) = some (false, d)) (hd : dstOk n d = true) (next : K (updO ρ d undef) w) : Step P n B p k K ρ w := by
  intro a ha Q'
  cases hk : (regOps (codeAt B p))[k]? with
  | none => rw [hk] at ho; cases ho
  | some o =>
    rw [hk] at ho
    simp only [Option.map_some, Option.some.injEq, Prod.mk.injEq] at ho
    unfold wpOp
    rw [hk]
    simp only [wanted_of ha o, ho.1, Bool.false_eq_true, if_false]
    refine ⟨_, ?_, next⟩
    rw [ho.2]
    exact ha.putO hd undef
end
/-- a guard that is not decided: both ways -/
theorem In.parts {k : Nat} {b : Bool} (h1 : b = true → In P n B p k Q ρ w) (h2 : b = false → In P n B p k Q ρ w) : In P n B p k Q ρ w := by
  cases b
  · exact h2 rfl
  · exact h1 rfl
end

/-! a function's contract from its body -/
def bodyOf (f : Func) : Code := f.body.getD .skip
def resultsF (fn : Func) (ρ : Fr) : Sem Value := do
  let vs ← fn.results.mapM fun
    | .tmp t => pure (ρ t)
    | .cell a t => do loadVar t (← asAddr (ρ a))
  pure (if h : vs.size = 1 then vs[0] else .tuple vs)
theorem resultsF_eq {fn : Func} {ρ : Fr} {a : Act} {n : Nat} (ha : FA n ρ a) : results fn a.tmps = resultsF fn ρ := by
  unfold results resultsF
  congr 1
  congr 1
  funext x
  cases x with
  | tmp t => simp only [ha.get t]
  | cell b t => simp only [ha.get b]
/-- what a body's ending owes -/
def retF (P : Program) (fn : Func) (R : Ending → World → Prop) : Post
  | .normal, ρ, w | .ret, ρ, w => ∃ v, (resultsF fn ρ).run P w = .ok v w ∧ R (.returned v) w
  | _, _, _ => False
theorem calls_lifted {P : Program} {f : FuncId} {fn : Func} {args : Array Value} {w : World} {R : Ending → World → Prop} {n : Nat} {ρ : Fr}
    (hf : P.funcs[f]? = some fn) (hb : fn.body.isSome = true) (hn : fn.ntmps = n) (hle : args.size ≤ n) (hρ : ∀ t, (args ++ Array.replicate (n - args.size) undef).getD t undef = ρ t)
    (h : At P n (bodyOf fn) [] (retF P fn R) ρ w) : Calls P f args w R := by
  obtain ⟨c, hc⟩ := Option.isSome_iff_exists.1 hb
  refine calls_of_wp hf hc ?_
  have hbody : codeAt (bodyOf fn) [] = c := by rw [codeAt_nil]; simp [bodyOf, hc]
  unfold At at h
  rw [hbody] at h
  have ha : FA n ρ { tmps := args ++ Array.replicate (fn.ntmps - args.size) undef, defers := [] } := by
    rw [hn]
    exact ⟨rfl, by simp; omega, hρ⟩
  refine Code.wp_mono ?_ (h _ ha)
  rintro e a' w' ⟨ρ', ha', hq⟩
  cases e with
  | normal =>
    obtain ⟨v, h1, h2⟩ := hq
    exact ⟨ha'.defers, v, by rw [resultsF_eq ha']; exact h1, h2⟩
  | ret =>
    obtain ⟨v, h1, h2⟩ := hq
    exact ⟨ha'.defers, v, by rw [resultsF_eq ha']; exact h1, h2⟩
  | _ => exact hq.elim
/-- the frame at the start: the arguments, in the order of the slots from i on -/
def startF : List Value → Nat → Fr
  | [], _ => fun _ => undef
  | v :: l, i => upd (startF l (i + 1)) i v
theorem startF_get : ∀ (l : List Value) (i t : Nat), startF l i t = if i ≤ t then l.getD (t - i) undef else undef
  | [], i, t => by simp [startF]
  | v :: l, i, t => by
    unfold startF
    by_cases ht : t = i
    · subst ht; rw [upd_same]; simp
    · rw [upd_other ht, startF_get l (i + 1) t]
      by_cases hlt : i ≤ t
      · rw [if_pos (by omega), if_pos hlt, show t - i = (t - (i + 1)) + 1 by omega]
        rfl
      · rw [if_neg (by omega), if_neg hlt]
theorem startF_spec (l : List Value) (n : Nat) (h : l.length ≤ n) (t : Nat) : (l.toArray ++ Array.replicate (n - l.toArray.size) undef).getD t undef = startF l 0 t := by
  rw [startF_get, if_pos (Nat.zero_le _), Nat.sub_zero]
  simp only [Array.getD_eq_getD_getElem?, List.getD]
  by_cases ht : t < l.length
  · rw [Array.getElem?_append_left (by simpa using ht)]
    simp
  · rw [Array.getElem?_append_right (by simpa using ht), List.getElem?_eq_none (by omega)]
    simp only [Array.getElem?_replicate]
    split <;> rfl
theorem calls_start {P : Program} {f : FuncId} {fn : Func} {l : List Value} {w : World} {R : Ending → World → Prop} {n : Nat}
    (hf : P.funcs[f]? = some fn) (hb : fn.body.isSome = true) (hn : fn.ntmps = n) (hle : Nat.ble l.length n = true)
    (h : At P n (bodyOf fn) [] (retF P fn R) (startF l 0) w) : Calls P f l.toArray w R :=
  calls_lifted hf hb hn (by simpa using Nat.le_of_ble_eq_true hle) (startF_spec l n (Nat.le_of_ble_eq_true hle)) h
/-! the same, with ways kept turned (no path needs to be named) -/
theorem K {p : Prop} (h : p := by kernel_rfl) : p := h
abbrev pt (b o : Nat) : Value := .pointer (some ⟨b, o, none⟩)
section
variable {P : Program} {n : Nat} {B : Code} {q : List Bool} {Q : Post} {ρ : Fr} {w : World}
theorem At.sq (h : isTag 1 (codeAt B q.reverse) = true) (k : At P n B (false :: q).reverse (thenF (At P n B (true :: q).reverse Q) Q) ρ w) : At P n B q.reverse Q ρ w :=
  At.seq h List.reverse_cons List.reverse_cons k
theorem At.cd (h : isTag 2 (codeAt B q.reverse) = true) {o : Operand} (ho : condOf (codeAt B q.reverse) = o) {b : Bool} (hb : opv ρ o = .bool b)
    (k0 : b = true → At P n B (false :: q).reverse Q ρ w) (k1 : b = false → At P n B (true :: q).reverse Q ρ w) : At P n B q.reverse Q ρ w :=
  At.cond h ho hb List.reverse_cons List.reverse_cons k0 k1
theorem At.bk (h : isTag 3 (codeAt B q.reverse) = true) {id : Nat} (hid : tagId (codeAt B q.reverse) = id) (k : At P n B (false :: q).reverse (blockF id Q) ρ w) : At P n B q.reverse Q ρ w :=
  At.block h hid List.reverse_cons k
theorem At.lp (h : isTag 4 (codeAt B q.reverse) = true) (I : Nat → Fr → World → Prop) (h0 : ∀ ρ w, ¬ I 0 ρ w)
    (hr : ∀ f ρ w, I (f + 1) ρ w → At P n B (false :: q).reverse (thenF (I f) Q) ρ w) (f : Nat) (k : I f ρ w) : At P n B q.reverse Q ρ w :=
  At.loop h List.reverse_cons I h0 hr f k
theorem calls_go {P : Program} {f : FuncId} {fn : Func} {l : List Value} {w : World} {R : Ending → World → Prop} {n : Nat}
    (hf : P.funcs[f]? = some fn) (hb : fn.body.isSome = true) (hn : fn.ntmps = n) (hle : Nat.ble l.length n = true)
    (h : At P n (bodyOf fn) (List.reverse []) (retF P fn R) (startF l 0) w) : Calls P f l.toArray w R := calls_start hf hb hn hle h
end
end Go.Proofs.YtfffjaijflbeaaaDoor
