/- A REGION THAT DRAWS ITS ORDER, WALKED ONCE: each operation by its own fact, in whatever world it comes; what is a fact stays one while the world grows. -/
import Derived.Test.YtfffjaijflbeaaaDoorBase
import Derived.Orders
namespace Go.Proofs.YtfffjaijflbeaaaDoor
set_option linter.unusedSimpArgs false
set_option linter.unusedVariables false
open Go.RowKit

/-- no two operations write one slot; each slot is there -/
def dstsOk (ops : Array Oper) (size : Nat) : Bool :=
  let ds := ops.toList.filterMap (·.dst)
  ds.all (fun d => decide (d < size)) && decide ds.Nodup

theorem nodup_idx : ∀ (l : List Oper), (l.filterMap (·.dst)).Nodup → ∀ (i j : Nat) (o p : Oper) (d : Tmp), l[i]? = some o → l[j]? = some p → o.dst = some d → p.dst = some d → i = j := by
  intro l
  induction l with
  | nil => intro _ i j o p d h; simp at h
  | cons x r ih =>
    intro hn i j o p d hi hj ho hp
    have hmem : ∀ (k : Nat) (q : Oper), r[k]? = some q → q.dst = some d → d ∈ r.filterMap (·.dst) := fun k q hk hq =>
      List.mem_filterMap.2 ⟨q, List.mem_of_getElem? hk, hq⟩
    cases hx : x.dst with
    | none =>
      rw [List.filterMap_cons_none hx] at hn
      cases i with
      | zero => simp at hi; subst hi; rw [hx] at ho; cases ho
      | succ i =>
        cases j with
        | zero => simp at hj; subst hj; rw [hx] at hp; cases hp
        | succ j => simp at hi hj; rw [ih hn i j o p d hi hj ho hp]
    | some e =>
      rw [List.filterMap_cons_some hx] at hn
      have hn' := List.nodup_cons.1 hn
      cases i with
      | zero =>
        simp at hi; subst hi
        rw [hx] at ho; injection ho with ho; subst ho
        cases j with
        | zero => rfl
        | succ j => simp at hj; exact absurd (hmem j p hj hp) hn'.1
      | succ i =>
        cases j with
        | zero =>
          simp at hj; subst hj
          rw [hx] at hp; injection hp with hp; subst hp
          simp at hi
          exact absurd (hmem i o hi ho) hn'.1
        | succ j => simp at hi hj; rw [ih hn'.2 i j o p d hi hj ho hp]

section
variable {P : Program} {ops : Array Oper} {Q : Exit → Act → World → Prop} {a0 : Act} {w0 : World} {G : World → World → Prop} {R : Nat → Value → World → Prop}

/-- what an operation's obligation gives: it puts a value of which its fact holds, and the world has grown -/
def Puts (G : World → World → Prop) (R : Nat → Value → World → Prop) (i : Nat) (o : Oper) (a : Act) (w : World) (a' : Act) (w' : World) : Prop := ∃ v, a' = a.put o.dst v ∧ G w w' ∧ R i v w'

/-- the facts of the operations that stand ahead of one -/
def Ahead (ops : Array Oper) (R : Nat → Value → World → Prop) (o : Oper) (a : Act) (w : World) : Prop :=
  ∀ e ∈ o.after.toList, Region.binds .any e = true → ∀ p d, ops[e.on]? = some p → p.dst = some d → R e.on (a.eval (.tmp d)) w

/-- a slot that no operation of the region writes -/
def Still (ops : Array Oper) (t : Tmp) : Prop := ∀ o ∈ ops.toList, o.dst ≠ some t

def Inv (ops : Array Oper) (G : World → World → Prop) (R : Nat → Value → World → Prop) (a0 : Act) (w0 : World) (listed : Array Bool) (a : Act) (w : World) : Prop :=
  listed.size = ops.size ∧ G w0 w ∧ a.defers = a0.defers ∧ a.tmps.size = a0.tmps.size ∧ (∀ t, Still ops t → a.eval (.tmp t) = a0.eval (.tmp t)) ∧
    ∀ j p d, ops[j]? = some p → listed.getD j false = true → p.dst = some d → R j (a.eval (.tmp d)) w

theorem eval_put_same {a : Act} {d : Tmp} {v : Value} (h : d < a.tmps.size) : (a.put (some d) v).eval (.tmp d) = v := by
  simp [Act.put, Act.eval, h]
theorem eval_put_other {a : Act} {x : Option Tmp} {t : Tmp} {v : Value} (h : x ≠ some t) : (a.put x v).eval (.tmp t) = a.eval (.tmp t) := by
  cases x with
  | none => rfl
  | some d =>
    have : d ≠ t := fun e => h (by rw [e])
    simp [Act.put, Act.eval, Array.getElem?_setIfInBounds_ne this]

theorem inv_step {listed : Array Bool} {a a' : Act} {w w' : World} {i : Nat} {o : Oper} (hok : dstsOk ops a0.tmps.size = true) (hGt : ∀ a b c, G a b → G b c → G a c)
    (hR : ∀ j v w w', R j v w → G w w' → R j v w') (ho : ops[i]? = some o) (h : Inv ops G R a0 w0 listed a w) (hp : Puts G R i o a w a' w') :
    Inv ops G R a0 w0 (listed.setIfInBounds i true) a' w' := by
  obtain ⟨h1, h2, h3, h4, h5, h6⟩ := h
  obtain ⟨v, rfl, hg, hr⟩ := hp
  simp only [dstsOk, Bool.and_eq_true, List.all_eq_true, decide_eq_true_eq] at hok
  have hmem : ∀ d, o.dst = some d → d < a.tmps.size := fun d hd => by
    rw [h4]
    exact hok.1 d (List.mem_filterMap.2 ⟨o, by rw [← Array.getElem?_toList] at ho; exact List.mem_of_getElem? ho, hd⟩)
  refine ⟨by simpa using h1, hGt _ _ _ h2 hg, ?_, ?_, ?_, ?_⟩
  · cases o.dst <;> simpa [Act.put] using h3
  · cases o.dst <;> simpa [Act.put] using h4
  · intro t ht
    rw [eval_put_other (ht o (by rw [← Array.getElem?_toList] at ho; exact List.mem_of_getElem? ho))]
    exact h5 t ht
  · intro j p d hj hl hd
    by_cases hij : i = j
    · subst hij
      rw [ho] at hj; injection hj with hj; subst hj
      rw [hd, eval_put_same (hmem d hd)]
      exact hr
    · have hl' : listed.getD j false = true := by
        simp only [Array.getD_eq_getD_getElem?] at hl ⊢
        rwa [Array.getElem?_setIfInBounds_ne hij] at hl
      have hne : o.dst ≠ some d := fun hod => hij (nodup_idx _ hok.2 i j o p d (by rw [Array.getElem?_toList]; exact ho) (by rw [Array.getElem?_toList]; exact hj) hod hd)
      rw [eval_put_other hne]
      exact hR _ _ _ _ (h6 j p d hj hl' hd) hg

theorem ready_mem {listed : Array Bool} {i : Nat} (hs : listed.size = ops.size) (h : i ∈ Region.ready .any ops listed) :
    ∃ o, ops[i]? = some o ∧ ∀ e ∈ o.after.toList, Region.binds .any e = true → listed.getD e.on false = true := by
  unfold Region.ready at h
  simp only [List.mem_filter, List.mem_range, Bool.and_eq_true] at h
  obtain ⟨hi, _, h2⟩ := h
  have hsome : ops[i]? = some ops[i] := Array.getElem?_eq_getElem hi
  refine ⟨ops[i], hsome, fun e he hb => ?_⟩
  rw [hsome] at h2
  simp only [Option.map_some, Option.getD_some, Array.all_eq_true] at h2
  obtain ⟨k, hk, hek⟩ := List.mem_iff_getElem.1 he
  have := h2 k (by simpa using hk)
  rw [Array.getElem_toList] at hek
  rw [hek, hb] at this
  simpa using this

theorem wpAny_facts (hok : dstsOk ops a0.tmps.size = true) (hGt : ∀ a b c, G a b → G b c → G a c) (hR : ∀ j v w w', R j v w → G w w' → R j v w')
    (hstep : ∀ i o, ops[i]? = some o → ∀ a w, G w0 w → a.defers = a0.defers → a.tmps.size = a0.tmps.size → (∀ t, Still ops t → a.eval (.tmp t) = a0.eval (.tmp t)) → Ahead ops R o a w → wpOp P ops Q i (Puts G R i o a w) a w)
    (hend : ∀ a w, G w0 w → a.defers = a0.defers → a.tmps.size = a0.tmps.size → (∀ t, Still ops t → a.eval (.tmp t) = a0.eval (.tmp t)) → (∀ j p d, ops[j]? = some p → p.dst = some d → R j (a.eval (.tmp d)) w) → Q .normal a w)
    (hfull : ∀ listed : Array Bool, listed.size = ops.size → Region.ready .any ops listed = [] → ∀ j, j < ops.size → listed.getD j false = true) :
    ∀ (fuel : Nat) (listed : Array Bool) (a : Act) (w : World), (listed.toList.filter (! ·)).length ≤ fuel → Inv ops G R a0 w0 listed a w → wpAny P .any ops Q fuel listed a w := by
  have fin : ∀ (listed : Array Bool) (a : Act) (w : World), Region.ready .any ops listed = [] → Inv ops G R a0 w0 listed a w → Q .normal a w := by
    intro listed a w hr ⟨h1, h2, h3, h4, h5, h6⟩
    refine hend a w h2 h3 h4 h5 fun j p d hj hd => h6 j p d hj (hfull listed h1 hr j ?_) hd
    exact (Array.getElem?_eq_some_iff.1 hj).1
  intro fuel
  induction fuel with
  | zero =>
    intro listed a w hl hinv
    have hr : Region.ready .any ops listed = [] := by
      unfold Region.ready
      rw [List.filter_eq_nil_iff]
      intro i hi
      have hi' : i < listed.size := by rw [hinv.1]; simpa using hi
      have hlist : listed.getD i true = true := by
        have hempty : listed.toList.filter (! ·) = [] := List.eq_nil_of_length_eq_zero (by omega)
        rw [List.filter_eq_nil_iff] at hempty
        have := hempty listed[i] (by rw [← Array.getElem_toList]; exact List.getElem_mem _)
        simpa [Array.getD, hi'] using this
      simp [hlist]
    exact ⟨hr, fin _ _ _ hr hinv⟩
  | succ fuel ih =>
    intro listed a w hl hinv
    refine ⟨fun hr => fin _ _ _ hr hinv, fun i hi => ?_⟩
    obtain ⟨o, ho, hedge⟩ := ready_mem hinv.1 hi
    have hinv' := hinv
    obtain ⟨h1, h2, h3, h4, h5, h6⟩ := hinv'
    refine wpOp_mono (fun a' w' hp => ih _ a' w' ?_ (inv_step hok hGt hR ho hinv hp)) (hstep i o ho a w h2 h3 h4 h5 fun e he hb p d hp hd => h6 e.on p d hp (hedge e he hb) hd)
    -- one more is listed
    unfold Region.ready at hi
    simp only [List.mem_filter, List.mem_range, Bool.and_eq_true] at hi
    have hi' : i < listed.size := by rw [h1]; exact hi.1
    have hf : listed[i] = false := by
      have := hi.2.1
      simpa [Array.getD, hi'] using this
    have hcount : ∀ (l : List Bool) (k : Nat), l[k]? = some false → ((l.set k true).filter (! ·)).length + 1 = (l.filter (! ·)).length := by
      intro l
      induction l with
      | nil => intro k hk; simp at hk
      | cons x r ihr =>
        intro k hk
        cases k with
        | zero => simp at hk; subst hk; simp
        | succ k =>
          simp at hk
          have := ihr k hk
          cases x <;> simp [List.set] <;> omega
    have := hcount listed.toList i (by rw [Array.getElem?_toList, Array.getElem?_eq_getElem hi', hf])
    simp only [Array.toList_setIfInBounds]
    omega

/-- what binds an operation stands ahead of it -/
def edgesOk (ops : Array Oper) : Bool := ops.toList.zipIdx.all fun (o, i) => o.after.all fun e => !Region.binds .any e || decide (e.on < i)
theorem full_of (h : edgesOk ops = true) : ∀ listed : Array Bool, listed.size = ops.size → Region.ready .any ops listed = [] → ∀ j, j < ops.size → listed.getD j false = true := by
  intro listed hs hr j
  induction j using Nat.strongRecOn with
  | ind j ih =>
    intro hj
    cases hl : listed.getD j false with
    | true => rfl
    | false =>
      exfalso
      have hj' : j < listed.size := by omega
      have hmem : j ∈ Region.ready .any ops listed := by
        unfold Region.ready
        simp only [List.mem_filter, List.mem_range, Bool.and_eq_true]
        have hsome : ops[j]? = some ops[j] := Array.getElem?_eq_getElem hj
        refine ⟨hj, ?_, ?_⟩
        · have : listed[j] = false := by simpa [Array.getD, hj'] using hl
          simp [Array.getD, hj', this]
        · rw [hsome]
          simp only [Option.map_some, Option.getD_some, Array.all_eq_true]
          intro k hk
          unfold edgesOk at h
          rw [List.all_eq_true] at h
          have hz := h (ops[j], j) (by
            rw [List.mem_iff_getElem?]
            exact ⟨j, by rw [List.getElem?_zipIdx]; simp [Array.getElem?_toList, hsome]⟩)
          simp only [Array.all_eq_true] at hz
          have := hz k hk
          simp only [Bool.or_eq_true, Bool.not_eq_true', decide_eq_true_eq] at this ⊢
          rcases this with this | this
          · exact .inl this
          · exact .inr (ih _ this (by omega))
      rw [hr] at hmem
      cases hmem

theorem wp_region_facts {id : Nat} {w : World} (hm : P.follows .mixedOrders = true) (hok : dstsOk ops a0.tmps.size = true) (he : edgesOk ops = true)
    (G : World → World → Prop) (R : Nat → Value → World → Prop) (hG0 : G w.drew w.drew) (hGt : ∀ a b c, G a b → G b c → G a c) (hR : ∀ j v w w', R j v w → G w w' → R j v w')
    (hstep : ∀ i o, ops[i]? = some o → ∀ a w', G w.drew w' → a.defers = a0.defers → a.tmps.size = a0.tmps.size → (∀ t, Still ops t → a.eval (.tmp t) = a0.eval (.tmp t)) → Ahead ops R o a w' → wpOp P ops Q i (Puts G R i o a w') a w')
    (hend : ∀ a w', G w.drew w' → a.defers = a0.defers → a.tmps.size = a0.tmps.size → (∀ t, Still ops t → a.eval (.tmp t) = a0.eval (.tmp t)) → (∀ j p d, ops[j]? = some p → p.dst = some d → R j (a.eval (.tmp d)) w') → Q .normal a w') :
    (Code.region id ops true).wp P Q a0 w := by
  refine wp_region_any hm ?_
  refine wpAny_facts (G := G) (R := R) (a0 := a0) (w0 := w.drew) hok hGt hR hstep hend (full_of he) _ _ _ _ ?_ ?_
  · simp [List.filter_replicate]
  · refine ⟨by simp, hG0, rfl, rfl, fun _ _ => rfl, fun j p d hj hl _ => ?_⟩
    exfalso
    have hj' : j < ops.size := (Array.getElem?_eq_some_iff.1 hj).1
    simp [Array.getD, hj'] at hl

/-- the guard says yes -/
def Goes (ops : Array Oper) (o : Oper) (a : Act) : Prop :=
  o.guard = none ∨ ∃ g want p d, o.guard = some (g, want) ∧ ops[g]? = some p ∧ p.dst = some d ∧ a.eval (.tmp d) = .bool want
theorem goes_wanted {o : Oper} {a : Act} (h : Goes ops o a) : Region.wanted o (yielded ops a.tmps) = true := by
  rcases h with h | ⟨g, want, p, d, hg, hp, hd, hv⟩
  · simp [Region.wanted, h]
  · have ht : a.tmps[d]? = some (.bool want) := by
      cases hx : a.tmps[d]? with
      | none => simp [Act.eval, Array.getD_eq_getD_getElem?, hx, undef] at hv
      | some x => simp [Act.eval, Array.getD_eq_getD_getElem?, hx] at hv; rw [hv]
    simp [Region.wanted, hg, yielded, hp, hd, ht]
theorem puts_run {i : Nat} {o : Oper} {a : Act} {w w' : World} {v : Value} (ho : ops[i]? = some o) (hgo : Goes ops o a) (hrun : (execOp a.eval o).run P w = .ok (.value v) w') (hg : G w w') (hr : R i v w') :
    wpOp P ops Q i (Puts G R i o a w) a w := by
  unfold wpOp
  rw [ho]
  simp only [goes_wanted hgo, if_true]
  refine .inl ?_
  unfold Oper.wp
  rw [hrun]
  exact ⟨v, rfl, hg, hr⟩
theorem puts_call {i : Nat} {o : Oper} {a : Act} {w : World} {f : FuncId} {args : Array Value} (ho : ops[i]? = some o) (hgo : Goes ops o a) (hrun : (execOp a.eval o).run P w = .ok (.enter f args) w)
    (hc : Calls P f args w fun e w' => ∃ v, e = .returned v ∧ G w w' ∧ R i v w') : wpOp P ops Q i (Puts G R i o a w) a w := by
  unfold wpOp
  rw [ho]
  simp only [goes_wanted hgo, if_true]
  refine .inl ?_
  unfold Oper.wp
  rw [hrun, Oper.upon_enter]
  refine hc.mono fun e w' ⟨v, he, hg, hr⟩ => ?_
  subst he
  exact ⟨v, rfl, hg, hr⟩
/-- the guard says no -/
theorem puts_skip {i : Nat} {o p : Oper} {a : Act} {w : World} {g : Nat} {want b : Bool} {d : Tmp} (ho : ops[i]? = some o) (hgd : o.guard = some (g, want)) (hp : ops[g]? = some p) (hd : p.dst = some d)
    (hv : a.eval (.tmp d) = .bool b) (hb : b ≠ want) (hg : G w w) (hr : R i undef w) : wpOp P ops Q i (Puts G R i o a w) a w := by
  have ht : a.tmps[d]? = some (.bool b) := by
    cases hx : a.tmps[d]? with
    | none => simp [Act.eval, Array.getD_eq_getD_getElem?, hx, undef] at hv
    | some x => simp [Act.eval, Array.getD_eq_getD_getElem?, hx] at hv; rw [hv]
  have hw : Region.wanted o (yielded ops a.tmps) = false := by simp [Region.wanted, hgd, yielded, hp, hd, ht, hb]
  unfold wpOp
  rw [ho]
  simp only [hw, Bool.false_eq_true, if_false]
  exact ⟨undef, rfl, hg, hr⟩

/-- the frame behind a region: what its operations have put, and else as it was -/
def putAll (f : Tmp → Value) (ds : List Tmp) (a : Act) : Act := ds.foldl (fun a d => a.put (some d) (f d)) a
theorem putAll_defers (f : Tmp → Value) : ∀ (ds : List Tmp) (a : Act), (putAll f ds a).defers = a.defers
  | [], _ => rfl
  | _ :: ds, a => (putAll_defers f ds _).trans rfl
theorem putAll_size (f : Tmp → Value) : ∀ (ds : List Tmp) (a : Act), (putAll f ds a).tmps.size = a.tmps.size
  | [], _ => rfl
  | _ :: ds, a => (putAll_size f ds _).trans (by simp [Act.put])
theorem putAll_get (f : Tmp → Value) : ∀ (ds : List Tmp) (a : Act) (t : Nat), t < a.tmps.size → (∀ d ∈ ds, d < a.tmps.size) → (putAll f ds a).tmps[t]? = if t ∈ ds then some (f t) else a.tmps[t]?
  | [], _, _, _, _ => by simp [putAll]
  | d :: ds, a, t, ht, hd => by
    have ih := putAll_get f ds (a.put (some d) (f d)) t (by simpa [Act.put] using ht) (fun e he => by simpa [Act.put] using hd e (List.mem_cons_of_mem _ he))
    show (putAll f ds (a.put (some d) (f d))).tmps[t]? = _
    rw [ih]
    by_cases htd : t = d
    · subst htd
      by_cases hm : t ∈ ds
      · simp [hm]
      · simp [hm, Act.put, ht]
    · by_cases hm : t ∈ ds
      · simp [hm]
      · simp [hm, htd, Act.put, Array.getElem?_setIfInBounds_ne (fun e => htd e.symm)]
theorem act_putAll {a a0 : Act} (hok : dstsOk ops a0.tmps.size = true) (hd : a.defers = a0.defers) (hsz : a.tmps.size = a0.tmps.size) (hs : ∀ t, Still ops t → a.eval (.tmp t) = a0.eval (.tmp t)) :
    a = putAll (fun t => a.eval (.tmp t)) (ops.toList.filterMap (·.dst)) a0 := by
  simp only [dstsOk, Bool.and_eq_true, List.all_eq_true, decide_eq_true_eq] at hok
  have ht : a.tmps = (putAll (fun t => a.eval (.tmp t)) (ops.toList.filterMap (·.dst)) a0).tmps := by
    apply Array.ext_getElem?
    intro t
    rcases Nat.lt_or_ge t a0.tmps.size with hlt | hge
    · rw [putAll_get _ _ _ _ hlt hok.1]
      have hta : t < a.tmps.size := by omega
      split
      · rw [Array.getElem?_eq_getElem hta]; simp [Act.eval, hta]
      · rename_i hn
        have := hs t (fun o ho hod => hn (List.mem_filterMap.2 ⟨o, ho, hod⟩))
        simp only [Act.eval, Array.getD_eq_getD_getElem?, Array.getElem?_eq_getElem hta, Array.getElem?_eq_getElem hlt, Option.getD_some] at this
        rw [Array.getElem?_eq_getElem hta, Array.getElem?_eq_getElem hlt, this]
    · rw [Array.getElem?_eq_none (by omega), Array.getElem?_eq_none (by rw [putAll_size]; omega)]
  have hde := putAll_defers (fun t => a.eval (.tmp t)) (ops.toList.filterMap (·.dst)) a0
  cases a
  cases hq : putAll (fun t => Act.eval _ (.tmp t)) (ops.toList.filterMap (·.dst)) a0
  rw [hq] at ht hde
  simp only at ht hde hd
  rw [ht, hd, hde]
theorem wp_region_facts2 {id : Nat} {w : World} (hm : P.follows .mixedOrders = true) (hok : dstsOk ops a0.tmps.size = true) (he : edgesOk ops = true)
    (G : World → World → Prop) (R : Nat → Value → World → Prop) (hG0 : G w.drew w.drew) (hGt : ∀ a b c, G a b → G b c → G a c) (hR : ∀ j v w w', R j v w → G w w' → R j v w')
    (hstep : ∀ i o, ops[i]? = some o → ∀ a w', G w.drew w' → (∀ t, Still ops t → a.eval (.tmp t) = a0.eval (.tmp t)) → Ahead ops R o a w' → wpOp P ops Q i (Puts G R i o a w') a w')
    (hend : ∀ (f : Tmp → Value) w', G w.drew w' → (∀ j p d, ops[j]? = some p → p.dst = some d → R j (f d) w') → Q .normal (putAll f (ops.toList.filterMap (·.dst)) a0) w') :
    (Code.region id ops true).wp P Q a0 w :=
  wp_region_facts hm hok he G R hG0 hGt hR (fun i o ho a w' h1 _ _ h4 h5 => hstep i o ho a w' h1 h4 h5) fun a w' h1 h2 h3 h4 h5 => by
    rw [act_putAll hok h2 h3 h4]
    exact hend _ _ h1 h5

def AllOps (Φ : Nat → Oper → Prop) : Nat → List Oper → Prop
  | _, [] => True
  | k, o :: l => Φ k o ∧ AllOps Φ (k + 1) l
theorem allOps_from {Φ : Nat → Oper → Prop} : ∀ (l : List Oper) (k : Nat), AllOps Φ k l → ∀ i o, l[i]? = some o → Φ (k + i) o
  | [], _, _, i, o, h => by simp at h
  | x :: l, k, h, i, o, hi => by
    cases i with
    | zero => simp at hi; subst hi; exact h.1
    | succ i =>
      simp at hi
      have := allOps_from l (k + 1) h.2 i o hi
      rwa [show k + (i + 1) = k + 1 + i by omega]
theorem allOps_spec {Φ : Nat → Oper → Prop} (h : AllOps Φ 0 ops.toList) : ∀ i o, ops[i]? = some o → Φ i o := fun i o hi => by
  have := allOps_from ops.toList 0 h i o (by rw [Array.getElem?_toList]; exact hi)
  rwa [Nat.zero_add] at this
/-- an obligation: its index in the region, given -/
def Obl (P : Program) (ops : Array Oper) (Q : Exit → Act → World → Prop) (a0 : Act) (w0 : World) (G : World → World → Prop) (R : Nat → Value → World → Prop) (i : Nat) (o : Oper) : Prop :=
  ∀ a w', G w0 w' → (∀ t, Still ops t → a.eval (.tmp t) = a0.eval (.tmp t)) → Ahead ops R o a w' → ops[i]? = some o → wpOp P ops Q i (Puts G R i o a w') a w'
theorem wp_region_facts3 {id : Nat} {w : World} (hm : P.follows .mixedOrders = true) (hok : dstsOk ops a0.tmps.size = true) (he : edgesOk ops = true)
    (G : World → World → Prop) (R : Nat → Value → World → Prop) (hG0 : G w.drew w.drew) (hGt : ∀ a b c, G a b → G b c → G a c) (hR : ∀ j v w w', R j v w → G w w' → R j v w')
    (hstep : AllOps (Obl P ops Q a0 w.drew G R) 0 ops.toList)
    (hend : ∀ (f : Tmp → Value) w', G w.drew w' → (∀ j p d, ops[j]? = some p → p.dst = some d → R j (f d) w') → Q .normal (putAll f (ops.toList.filterMap (·.dst)) a0) w') :
    (Code.region id ops true).wp P Q a0 w :=
  wp_region_facts2 hm hok he G R hG0 hGt hR (fun i o ho a w' h1 h4 h5 => allOps_spec hstep i o ho a w' h1 h4 h5 ho) hend
theorem ahead_get {o p : Oper} {a : Act} {w : World} (ha : Ahead ops R o a w) (k : Nat) (g : Ground) {d : Tmp} (hm : ⟨k, g⟩ ∈ o.after.toList) (hb : Region.binds .any ⟨k, g⟩ = true) (hp : ops[k]? = some p) (hd : p.dst = some d) :
    R k (a.eval (.tmp d)) w := ha _ hm hb _ _ hp hd
end
end Go.Proofs.YtfffjaijflbeaaaDoor
