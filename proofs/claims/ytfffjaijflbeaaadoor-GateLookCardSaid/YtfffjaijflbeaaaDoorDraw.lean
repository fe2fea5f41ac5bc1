/- A REGION THAT DRAWS ITS ORDER, for the lifted walks: each operation by its own fact, in whatever world it comes. -/
import Derived.Test.YtfffjaijflbeaaaDoorOpsC
import Derived.Test.YtfffjaijflbeaaaDoorFacts
namespace Go.Proofs.YtfffjaijflbeaaaDoor
set_option linter.unusedSimpArgs false
set_option linter.unusedVariables false
open Go.RowKit
def notDst (ops : Array Oper) (t : Nat) : Bool := ops.toList.all fun o => match o.dst with | some d => !Nat.beq d t | none => true
def aheadB (ops : Array Oper) (i j d : Nat) : Bool :=
  match ops[i]?, ops[j]? with
  | some o, some q => o.after.toList.any (fun e => Nat.beq e.on j && Region.binds .any e) && (match q.dst with | some x => Nat.beq x d | none => false)
  | _, _ => false
def dstAt (ops : Array Oper) (j d : Nat) : Bool := match ops[j]? with | some q => (match q.dst with | some x => Nat.beq x d | none => false) | none => false
def Rl : List (Value → World → Prop) → Nat → Value → World → Prop
  | [], _ => fun _ _ => True
  | x :: _, 0 => x
  | _ :: l, j + 1 => Rl l j
def Mono (x : Value → World → Prop) : Prop := ∀ v w w', x v w → Below w.heap.size w w' → x v w'
def MonoL : List (Value → World → Prop) → Prop
  | [] => True
  | x :: l => Mono x ∧ MonoL l
theorem monoL : ∀ {l : List (Value → World → Prop)}, MonoL l → ∀ j, Mono (Rl l j)
  | [], _, _ => fun _ _ _ _ _ => trivial
  | _ :: _, h, 0 => h.1
  | _ :: l, h, j + 1 => monoL (l := l) h.2 j
def FEq (u : Value) : Value → World → Prop := fun v _ => v = u
def FAny : Value → World → Prop := fun _ _ => True
def FRow {α : Type} (e : Enc α) (l : List α) : Value → World → Prop := fun v w => ∃ A c, v = .slice A l.length c ∧ RdT e w A c l
def FElem {α : Type} (e : Enc α) (l : List α) (iz : Int) : Value → World → Prop := fun v w => ∃ b off : Nat, v = .pointer (some ⟨b, off + iz.toNat * e.sz, none⟩) ∧ b < w.heap.size ∧ ∀ j u, (cellsOf e l)[j]? = some u → w.cell? ⟨b, off + j, none⟩ = some u
theorem mono_eq (u : Value) : Mono (FEq u) := fun _ _ _ h _ => h
theorem mono_any : Mono FAny := fun _ _ _ _ _ => trivial
theorem mono_row {α : Type} (e : Enc α) (l : List α) : Mono (FRow e l) := fun _ _ _ ⟨A, c, h1, h2⟩ hb => ⟨A, c, h1, h2.below hb⟩
theorem mono_elem {α : Type} (e : Enc α) (l : List α) (iz : Int) : Mono (FElem e l iz) := fun _ _ _ ⟨b, off, h1, h2, h3⟩ hb =>
  ⟨b, off, h1, Nat.lt_of_lt_of_le h2 hb.size, fun j u hu => (hb.cell (p := ⟨b, off + j, none⟩) h2).trans (h3 j u hu)⟩
def Obs : Nat → (Nat → Prop) → Prop
  | 0, _ => True
  | k + 1, Φ => Obs k Φ ∧ Φ k
theorem obs_get {Φ : Nat → Prop} : ∀ {k : Nat}, Obs k Φ → ∀ i, i < k → Φ i
  | 0, _, i, h => absurd h (by omega)
  | k + 1, ho, i, h => by
    by_cases hk : i = k
    · subst hk; exact ho.2
    · exact obs_get ho.1 i (by omega)
def dstOf (ops : Array Oper) (i : Nat) : Option Nat := (ops[i]?).bind (·.dst)
section
variable {P : Program} {n : Nat} {Q : Post} {ρ : Fr} {w : World} {B : Code} {p : List Bool}
/-- what an operation of such a region owes -/
def Owes (P : Program) (n : Nat) (B : Code) (p : List Bool) (ρ : Fr) (w : World) (l : List (Value → World → Prop)) (i : Nat) : Prop :=
  ∀ (ρ' : Fr) (w' : World), Below w.heap.size w w' → (∀ t, notDst (regOps (codeAt B p)) t = true → ρ' t = ρ t) → (∀ j d, aheadB (regOps (codeAt B p)) i j d = true → Rl l j (ρ' d) w') →
    Step P n B p i (fun ρ'' w'' => Below w'.heap.size w' w'' ∧ ∃ v, ρ'' = updO ρ' (dstOf (regOps (codeAt B p)) i) v ∧ Rl l i v w'') ρ' w'
theorem notDst_still {ops : Array Oper} {t : Nat} (h : notDst ops t = true) : Still ops t := by
  intro o ho hd
  unfold notDst at h
  rw [List.all_eq_true] at h
  have := h o ho
  rw [hd] at this
  simp at this
theorem still_notDst {ops : Array Oper} {t : Nat} (h : Still ops t) : notDst ops t = true := by
  unfold notDst
  rw [List.all_eq_true]
  intro o ho
  cases hd : o.dst with
  | none => rfl
  | some d =>
    have hne : d ≠ t := fun e => h o ho (by rw [hd, e])
    simp only
    cases hb : Nat.beq d t with
    | false => rfl
    | true => exact absurd (Nat.eq_of_beq_eq_true hb) hne
theorem fa_of {a : Act} (h1 : a.defers = []) (h2 : a.tmps.size = n) : FA n (fun t => a.tmps.getD t undef) a := ⟨h1, h2, fun _ => rfl⟩
theorem At.draw (h : isTag 5 (codeAt B p) = true) (hd : regDraws (codeAt B p) = true) (hm : P.follows .mixedOrders = true) (hok : dstsOk (regOps (codeAt B p)) n = true) (he : edgesOk (regOps (codeAt B p)) = true)
    (l : List (Value → World → Prop)) (hmono : MonoL l) {N : Nat} (hN : (regOps (codeAt B p)).size = N) (hobs : Obs N (Owes P n B p ρ w l))
    (hend : ∀ (ρ' : Fr) (w' : World), Below w.heap.size w w' → (∀ t, notDst (regOps (codeAt B p)) t = true → ρ' t = ρ t) → (∀ j d, dstAt (regOps (codeAt B p)) j d = true → Rl l j (ρ' d) w') → Q .normal ρ' w') : At P n B p Q ρ w := by
  intro a0 ha0
  have hreg := region_of h
  rw [hreg, hd]
  have hd0 : a0.defers = [] := ha0.defers
  have hsz0 : a0.tmps.size = n := ha0.size
  have hdrew : ∀ {w' : World}, Below w.drew.heap.size w.drew w' → Below w.heap.size w w' := fun hb => ((Below.refl _ _).drew).trans hb
  have hev : ∀ (a : Act) (t : Nat), a.eval (.tmp t) = a.tmps.getD t undef := fun _ _ => rfl
  refine wp_region_facts (a0 := a0) hm (by rw [hsz0]; exact hok) he (fun x y => Below x.heap.size x y) (Rl l) (Below.refl _ _) (fun _ _ _ h1 h2 => h1.trans (h2.mono h1.size)) (fun j v x y hx hy => monoL hmono j v x y hx hy) ?_ ?_
  · intro i o ho a w' hG hdf hsz hst hah
    have hlt : i < N := by rw [← hN]; exact (Array.getElem?_eq_some_iff.1 ho).1
    have ha : FA n (fun t => a.tmps.getD t undef) a := fa_of (hdf.trans hd0) (hsz.trans hsz0)
    have := obs_get hobs i hlt (fun t => a.tmps.getD t undef) w' (hdrew hG) (fun t ht => by
        have := hst t (notDst_still ht)
        rw [hev, hev] at this
        rw [← ha0.get t]; exact this) (fun j d hjd => by
        unfold aheadB at hjd
        rw [ho] at hjd
        cases hj : (regOps (codeAt B p))[j]? with
        | none => rw [hj] at hjd; cases hjd
        | some q =>
          rw [hj] at hjd
          simp only [Bool.and_eq_true, List.any_eq_true] at hjd
          obtain ⟨⟨e, hem, hon, hbind⟩, hdst⟩ := hjd
          have hon := Nat.eq_of_beq_eq_true hon
          cases hq : q.dst with
          | none => rw [hq] at hdst; cases hdst
          | some x =>
            rw [hq] at hdst
            have hx : x = d := Nat.eq_of_beq_eq_true hdst
            subst hx
            have := hah e hem hbind q x (by rw [hon]; exact hj) hq
            rw [hon] at this
            exact this)
    refine wpOp_mono ?_ (this a ha _)
    rintro a' w'' ⟨ρ'', ha'', hb, v, hρ, hR⟩
    refine ⟨v, ?_, hb, hR⟩
    have hdst : dstOf (regOps (codeAt B p)) i = o.dst := by simp [dstOf, ho]
    rw [hdst] at hρ
    subst hρ
    -- two frames of the same slots are one
    have hdok : dstOk n o.dst = true := by
      cases hdo : o.dst with
      | none => rfl
      | some d =>
        simp only [dstsOk, Bool.and_eq_true, List.all_eq_true, decide_eq_true_eq] at hok
        have hmem : o ∈ (regOps (codeAt B p)).toList := by rw [← Array.getElem?_toList] at ho; exact List.mem_of_getElem? ho
        have := hok.1 d (List.mem_filterMap.2 ⟨o, hmem, hdo⟩)
        exact Nat.ble_eq_true_of_le (Nat.succ_le_of_lt this)
    have hput := ha.putO hdok v
    have ht : a'.tmps = (a.put o.dst v).tmps := by
      apply Array.ext_getElem?
      intro t
      have h1 := ha''.get t
      have h2 := hput.get t
      rcases Nat.lt_or_ge t n with hlt | hge
      · have s1 : t < a'.tmps.size := by rw [ha''.size]; exact hlt
        have s2 : t < (a.put o.dst v).tmps.size := by rw [hput.size]; exact hlt
        rw [Array.getElem?_eq_getElem s1, Array.getElem?_eq_getElem s2]
        simp only [Array.getD_eq_getD_getElem?, Array.getElem?_eq_getElem s1, Array.getElem?_eq_getElem s2, Option.getD_some] at h1 h2
        rw [h1, h2]
      · rw [Array.getElem?_eq_none (by rw [ha''.size]; exact hge), Array.getElem?_eq_none (by rw [hput.size]; exact hge)]
    have hdd : a'.defers = (a.put o.dst v).defers := ha''.defers.trans hput.defers.symm
    cases a'
    cases hq : a.put o.dst v
    rw [hq] at ht hdd
    simp only at ht hdd
    rw [ht, hdd]
  · intro a w' hG hdf hsz hst hall
    have ha : FA n (fun t => a.tmps.getD t undef) a := fa_of (hdf.trans hd0) (hsz.trans hsz0)
    refine ⟨_, ha, hend _ w' (hdrew hG) (fun t ht => by
        have := hst t (notDst_still ht)
        rw [hev, hev] at this
        rw [← ha0.get t]; exact this) (fun j d hjd => ?_)⟩
    unfold dstAt at hjd
    cases hj : (regOps (codeAt B p))[j]? with
    | none => rw [hj] at hjd; cases hjd
    | some q =>
      rw [hj] at hjd
      simp only at hjd
      cases hq : q.dst with
      | none => rw [hq] at hjd; cases hjd
      | some x =>
        rw [hq] at hjd
        have hx : x = d := Nat.eq_of_beq_eq_true hjd
        subst hx
        exact hall j q x hj hq
theorem postKnown {Q : Post} (l : List (Nat × Value)) (h : Known ρ l) (next : Q .normal (updL ρ l) w) : Q .normal ρ w := by
  rw [known_updL h] at next
  exact next
theorem Step.known {k : Nat} {K : Fr → World → Prop} (l : List (Nat × Value)) (h : Known ρ l) (next : Step P n B p k K (updL ρ l) w) : Step P n B p k K ρ w := by
  rw [known_updL h] at next
  exact next
end
theorem Step.run {P : Program} {n : Nat} {ρ : Fr} {w : World} {B : Code} {p : List Bool} {k : Nat} {K : Fr → World → Prop} {v : Value}
    (h : execSeq P n (regOps (codeAt B p)) (((regOps (codeAt B p)).toList.drop k).take 1) ρ w = some (updO ρ (dstOf (regOps (codeAt B p)) k) v, w)) (next : K (updO ρ (dstOf (regOps (codeAt B p)) k) v) w) : Step P n B p k K ρ w := by
  intro a ha Q'
  cases ho : (regOps (codeAt B p))[k]? with
  | none =>
    unfold wpOp
    rw [ho]
    have hd : dstOf (regOps (codeAt B p)) k = none := by simp [dstOf, ho]
    rw [hd] at next
    exact ⟨ρ, ha, next⟩
  | some o =>
    rw [drop_cons ho] at h
    have ht : (o :: (regOps (codeAt B p)).toList.drop (k + 1)).take 1 = [o] := by simp
    rw [ht] at h
    unfold wpOp
    rw [ho]
    simp only [execSeq] at h
    cases hdst : dstOk n o.dst with
    | false => rw [hdst] at h; cases h
    | true =>
      rw [hdst] at h
      simp only at h
      simp only [wanted_of ha o]
      cases hw : wantedF (regOps (codeAt B p)) ρ o with
      | false =>
        rw [hw] at h
        simp only [Option.some.injEq, Prod.mk.injEq] at h
        simp only [Bool.false_eq_true, if_false]
        refine ⟨_, ha.putO hdst undef, ?_⟩
        rw [h.1]
        exact next
      | true =>
        rw [hw] at h
        simp only at h
        simp only [if_true]
        refine .inl ?_
        unfold Oper.wp
        rw [ha.eval]
        cases hr : (execOp (opv ρ) o).run P w with
        | halt x w1 => rw [hr] at h; cases h
        | ok nx w1 =>
          rw [hr] at h
          cases nx <;> first | (cases h; done) | skip
          · simp only [Option.some.injEq, Prod.mk.injEq] at h
            obtain ⟨h1, rfl⟩ := h
            refine ⟨_, ha.putO hdst _, ?_⟩
            rw [h1]
            exact next
          · simp only [Option.some.injEq, Prod.mk.injEq] at h
            obtain ⟨h1, rfl⟩ := h
            refine ⟨_, ha.putO hdst _, ?_⟩
            rw [h1]
            exact next
theorem updO_known {ρ : Fr} {l : List (Nat × Value)} {d : Option Nat} {v : Value} (h : Known ρ l) : updO (updL ρ l) d v = updO ρ d v := by rw [known_updL h]
/-! the short forms of what pure operations, and those that are not done, owe -/
def Src1 (ops : Array Oper) (i : Nat) (l : List (Value → World → Prop)) (ρ : Fr) (t : Nat) (v : Value) : Prop :=
  (notDst ops t = true ∧ ρ t = v) ∨ ∃ j, aheadB ops i j t = true ∧ Rl l j = FEq v
theorem sS {ops : Array Oper} {i : Nat} {l : List (Value → World → Prop)} {ρ : Fr} {t : Nat} {v : Value} (h : notDst ops t = true) (e : ρ t = v) : Src1 ops i l ρ t v := .inl ⟨h, e⟩
theorem sA {ops : Array Oper} {i : Nat} {l : List (Value → World → Prop)} {ρ : Fr} {t : Nat} {v : Value} (j : Nat) (h : aheadB ops i j t = true) (e : Rl l j = FEq v) : Src1 ops i l ρ t v := .inr ⟨j, h, e⟩
theorem sB {ops : Array Oper} {i : Nat} {l : List (Value → World → Prop)} {ρ : Fr} {t : Nat} {b : Bool} (j : Nat) (h : aheadB ops i j t = true) (u : Bool) (e : Rl l j = FEq (.bool u)) (hb : u = b) : Src1 ops i l ρ t (.bool b) := .inr ⟨j, h, by rw [e, hb]⟩
def SrcOk (ops : Array Oper) (i : Nat) (l : List (Value → World → Prop)) (ρ : Fr) : List (Nat × Value) → Prop
  | [] => True
  | x :: r => Src1 ops i l ρ x.1 x.2 ∧ SrcOk ops i l ρ r
theorem known_src {ops : Array Oper} {i : Nat} {l : List (Value → World → Prop)} {ρ ρ' : Fr} {w' : World} (hs : ∀ t, notDst ops t = true → ρ' t = ρ t) (ha : ∀ j d, aheadB ops i j d = true → Rl l j (ρ' d) w') :
    ∀ src : List (Nat × Value), SrcOk ops i l ρ src → Known ρ' src
  | [], _ => trivial
  | x :: r, h => by
    refine ⟨?_, known_src hs ha r h.2⟩
    rcases h.1 with ⟨h1, h2⟩ | ⟨j, h1, h2⟩
    · exact (hs _ h1).trans h2
    · have := ha j x.1 h1
      rw [h2] at this
      exact this
theorem Owes.pure {P : Program} {n : Nat} {B : Code} {p : List Bool} {ρ : Fr} {w : World} {l : List (Value → World → Prop)} {i : Nat} (src : List (Nat × Value)) (hsrc : SrcOk (regOps (codeAt B p)) i l ρ src) (v : Value)
    (h : ∀ (ρ' : Fr) (w' : World), execSeq P n (regOps (codeAt B p)) (((regOps (codeAt B p)).toList.drop i).take 1) (updL ρ' src) w' = some (updO (updL ρ' src) (dstOf (regOps (codeAt B p)) i) v, w')) (hR : ∀ w, Rl l i v w) : Owes P n B p ρ w l i := by
  intro ρ' w' hk hs hah
  have hkn := known_src hs hah src hsrc
  refine Step.known src hkn ?_
  exact Step.run (h ρ' w') ⟨Below.refl _ _, v, updO_known hkn, hR _⟩
theorem Owes.skip {P : Program} {n : Nat} {B : Code} {p : List Bool} {ρ : Fr} {w : World} {l : List (Value → World → Prop)} {i : Nat} (src : List (Nat × Value)) (hsrc : SrcOk (regOps (codeAt B p)) i l ρ src) (d : Option Nat)
    (h : ∀ (ρ' : Fr), (regOps (codeAt B p))[i]?.map (fun o => (wantedF (regOps (codeAt B p)) (updL ρ' src) o, o.dst)) = some (false, d)) (hd : dstOk n d = true) (hR : ∀ w, Rl l i undef w) : Owes P n B p ρ w l i := by
  intro ρ' w' hk hs hah
  have hkn := known_src hs hah src hsrc
  have hdd : dstOf (regOps (codeAt B p)) i = d := by
    have := h ρ'
    unfold dstOf
    cases ho : (regOps (codeAt B p))[i]? with
    | none => rw [ho] at this; cases this
    | some o => rw [ho] at this; simp only [Option.map_some, Option.some.injEq, Prod.mk.injEq] at this; exact this.2
  refine Step.known src hkn ?_
  exact Step.not (h ρ') hd ⟨Below.refl _ _, undef, by rw [hdd]; exact updO_known hkn, hR _⟩
theorem Step.div {P : Program} {n : Nat} {ρ : Fr} {w : World} {B : Code} {p : List Bool} {k : Nat} {K : Fr → World → Prop} {d : Option Nat} {op : BinOp} {T T' : TypeId} {x y : Operand} {kx : IntKind} {a b : Int} {v : Value}
    (ho : opAt (codeAt B p) k ρ = some (.binOp op T x y T', d)) (hd : dstOk n d = true) (hx : opv ρ x = .int kx a) (hy : opv ρ y = .int kx b) (h0 : (!(b == 0)) = true)
    (hv : (match op with | .quo => some (Value.int kx (kx.wrap (a.tdiv b))) | .rem => some (.int kx (a.tmod b)) | _ => none) = some v) (next : K (updO ρ d v) w) : Step P n B p k K ρ w := by
  have hb : b ≠ 0 := by simpa using h0
  refine Step.val ho hd (fun o hop => ?_) next
  unfold execOp; rw [hop]
  simp only [hx, hy]
  cases op <;> first | (cases hv; done) | skip
  all_goals
    injection hv with hv
    subst hv
    simp [eqGuard, Go.binOp, Op.intDiv, hb]
theorem struct_if (p : Prop) [Decidable p] (X : Bool) (w : World) : (if p then Result.ok (Value.bool X) w else Result.ok (Value.bool false) w) = Result.ok (Value.bool (decide p && X)) w := by
  by_cases h : p <;> simp [h]
theorem struct_ifn (p : Prop) [Decidable p] (X : Bool) (w : World) : (if p then Result.ok (Value.bool (!X)) w else Result.ok (Value.bool true) w) = Result.ok (Value.bool (!(decide p && X))) w := by
  by_cases h : p <;> simp [h]
theorem struct_ifn0 (p : Prop) [Decidable p] (w : World) : (if p then Result.ok (Value.bool false) w else Result.ok (Value.bool true) w) = Result.ok (Value.bool (!decide p)) w := by
  by_cases h : p <;> simp [h]
theorem beq_dec {α : Type} [BEq α] [LawfulBEq α] [DecidableEq α] (a b : α) : (a == b) = decide (a = b) := by
  by_cases h : a = b <;> simp [h]
theorem Step.bin {P : Program} {n : Nat} {ρ : Fr} {w : World} {B : Code} {p : List Bool} {k : Nat} {K : Fr → World → Prop} {d : Option Nat} {op : BinOp} {T T' : TypeId} {x y : Operand} {vx vy v : Value}
    (ho : opAt (codeAt B p) k ρ = some (.binOp op T x y T', d)) (hd : dstOk n d = true) (hx : opv ρ x = vx) (hy : opv ρ y = vy)
    (hrun : ∀ w : World, Sem.run P (do eqGuard op T x y vx vy; Go.binOp op T vx vy) w = .ok v w) (next : K (updO ρ d v) w) : Step P n B p k K ρ w := by
  refine Step.val ho hd (fun o hop => ?_) next
  unfold execOp; rw [hop]
  subst hx hy
  have := hrun w
  simp only [Sem.run_bind] at this ⊢
  rw [this]
  rfl
/-- bytes of a constant: the row is marked as one that a string may share -/
theorem Step.mark {P : Program} {n : Nat} {ρ : Fr} {w w0 : World} {B : Code} {p : List Bool} {k : Nat} {K : Fr → World → Prop} {S : List Nat} {es : List Ent} {d : Option Nat} {T E : TypeId} {x : Operand} {g c i : Nat} {l : List UInt8}
    (ho : opAt (codeAt B p) k ρ = some (.convert T T x, d)) (hd : dstOk n d = true) (hx : opv ρ x = .slice (some ⟨g, 0, none⟩) l.length c) (hT : P.underlying T = some (.slice E)) (hE : P.underlying E = some (.int .u8))
    (hs : SP S w0 w es) (hi : es[i]? = some (rowT E eU8 (some ⟨g, 0, none⟩) c l))
    (next : ∀ w' : World, SP S w0 w' (es.set i (rdE eU8 (some ⟨g, 0, none⟩) c l)) → K (updO ρ d (.slice (some ⟨g, 0, none⟩) l.length c)) w') : Step P n B p k K ρ w := by
  have hown : w.ownsRow 0 E eU8.sz (.slice (some ⟨g, 0, none⟩) l.length c) l.length (cellsOf eU8 l) := hs.get hi
  have hrd : RdT eU8 w (some ⟨g, 0, none⟩) c l := rowT_rd (hs.get hi)
  obtain ⟨cur, hg⟩ : ∃ cur, w.heap[g]? = some (.cells cur E (0, 0)) := by
    rcases hown.2 with ⟨hn, _⟩ | ⟨g', cap, cur, hn, _, hg, _⟩
    · cases hn
    · injection hn with h1 _ _
      injection h1 with h1
      injection h1 with h1
      subst h1
      exact ⟨cur, hg⟩
  have hlt : g < w.heap.size := (Array.getElem?_eq_some_iff.1 hg).1
  have hother : ∀ k, k ≠ g → (w.freeze ⟨g, cur.size, none⟩ 1).heap[k]? = w.heap[k]? := fun k hk => by
    simp [World.freeze, Array.getElem?_modify, Ne.symm hk]
  have hsame : (w.freeze ⟨g, cur.size, none⟩ 1).heap[g]? = some (.cells cur E (cur.size, cur.size + 1)) := by
    simp [World.freeze, Array.getElem?_modify, hg]
  have hsz : (w.freeze ⟨g, cur.size, none⟩ 1).heap.size = w.heap.size := by simp [World.freeze]
  have hmod : Mod [g] w (w.freeze ⟨g, cur.size, none⟩ 1) := ⟨rfl, rfl, rfl, by rw [hsz]; exact Nat.le_refl _, fun k _ hk => hother k (by simpa using hk)⟩
  refine Step.val ho hd (w' := w.freeze ⟨g, cur.size, none⟩ 1) (fun o hop => ?_) (next _ (hs.set hi hmod (fun q hq => by simpa [rowT, row, Value.ownBlock] using hq) ?_ fun q hq => ?_))
  · have hshape : w.shape? g = some (E, cur.size) := by simp [World.shape?, hg]
    have hmark : (markStringish ⟨g, 0, none⟩).run P w = .ok () (w.freeze ⟨g, cur.size, none⟩ 1) := by
      simp [markStringish, Go.shape, Go.freeze, Sem.run_bind, Sem.run, hshape, Result.andThen]
    unfold execOp; rw [hop]
    simp only [hx, convert, Sem.run_bind, run_underlying hT, run_underlying hE, Result.andThen_ok, beq_self_eq_true, hmark]
    rfl
  · obtain ⟨h1, h2, h3, h4⟩ := hrd
    refine ⟨h1, h2, h3, fun hn => ?_⟩
    obtain ⟨b, off, hA, hb, hc⟩ := h4 hn
    injection hA with hA
    injection hA with hA1 hA2 _
    subst hA1 hA2
    refine ⟨g, 0, rfl, by rw [hsz]; exact hlt, fun j u hu => ?_⟩
    rw [← hc j u hu, cell_of_row _ g _ cur E _ hsame, cell_of_row _ g _ cur E _ hg]
  · have : q = g := by simpa [rdE] using hq
    subst this
    exact ⟨.inl (by simp [rowT, row, Value.ownBlock]), by rw [hsz]; exact hlt⟩
/-- results, some of which lie in a cell -/
def rvS (ρ : Fr) : ResultVar → Sem Value
  | .tmp t => pure (ρ t)
  | .cell a t => do loadVar t (← asAddr (ρ a))
theorem rv_tmp {P : Program} {ρ : Fr} {w : World} {t : Nat} {v : Value} (h : ρ t = v) : (rvS ρ (.tmp t)).run P w = .ok v w := by subst h; rfl
theorem rv_cell {P : Program} {ρ : Fr} {w : World} {a t g off : Nat} {cs : Array Value} {e : TypeId} {fr : Nat × Nat} {v : Value} (h : ρ a = .pointer (some ⟨g, off, none⟩)) (hg : w.heap[g]? = some (.cells cs e fr)) (hl : loadF P t off cs = some v) : (rvS ρ (.cell a t)).run P w = .ok v w := by
  simp only [rvS, h, asAddr, Sem.run_bind, Sem.run_pure, Result.andThen_ok]
  exact loadVar_of hl hg
theorem res_1 {P : Program} {fn : Func} {ρ : Fr} {w : World} {x : ResultVar} {v : Value} (h : fn.results = #[x]) (hx : (rvS ρ x).run P w = .ok v w) : (resultsF fn ρ).run P w = .ok v w := by
  have : resultsF fn ρ = (do let vs ← #[x].mapM (rvS ρ); pure (if h : vs.size = 1 then vs[0] else .tuple vs)) := by
    unfold resultsF; rw [h]; congr 1
  rw [this]
  simp [hx, Sem.run_bind, Result.andThen]
theorem res_2 {P : Program} {fn : Func} {ρ : Fr} {w : World} {x y : ResultVar} {v u : Value} (h : fn.results = #[x, y]) (hx : (rvS ρ x).run P w = .ok v w) (hy : (rvS ρ y).run P w = .ok u w) : (resultsF fn ρ).run P w = .ok (.tuple #[v, u]) w := by
  have : resultsF fn ρ = (do let vs ← #[x, y].mapM (rvS ρ); pure (if h : vs.size = 1 then vs[0] else .tuple vs)) := by
    unfold resultsF; rw [h]; congr 1
  rw [this]
  simp [hx, hy, Sem.run_bind, Result.andThen]
theorem res_3 {P : Program} {fn : Func} {ρ : Fr} {w : World} {x y z : ResultVar} {v u q : Value} (h : fn.results = #[x, y, z]) (hx : (rvS ρ x).run P w = .ok v w) (hy : (rvS ρ y).run P w = .ok u w) (hz : (rvS ρ z).run P w = .ok q w) : (resultsF fn ρ).run P w = .ok (.tuple #[v, u, q]) w := by
  have : resultsF fn ρ = (do let vs ← #[x, y, z].mapM (rvS ρ); pure (if h : vs.size = 1 then vs[0] else .tuple vs)) := by
    unfold resultsF; rw [h]; congr 1
  rw [this]
  simp [hx, hy, hz, Sem.run_bind, Result.andThen]
/-- an own row that has come is read -/
theorem SP.row_of {α : Type} {e : Enc α} {w w' : World} {E : TypeId} {A : Option Addr} {c : Nat} {l : List α} (h : SP [] w w' [rowT E e A c l]) : RdT e w' A c l := rowT_rd (h.get (i := 0) rfl)
theorem SP.rd_of {α : Type} {e : Enc α} {w w' : World} {A : Option Addr} {c : Nat} {l : List α} (h : SP [] w w' [rdE e A c l]) : RdT e w' A c l := rdE_rd (h.get (i := 0) rfl)
end Go.Proofs.YtfffjaijflbeaaaDoor
