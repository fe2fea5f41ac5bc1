/- A REGION THAT DRAWS ITS ORDER, BY STAGES: operations that turn memory (or whose values are addresses that came in the region) make stages; all others owe a fact that needs no memory. -/
import Derived.Test.YtfffjaijflbeaaaDoorDraw
namespace Go.Proofs.YtfffjaijflbeaaaDoor
set_option linter.unusedSimpArgs false
set_option linter.unusedVariables false
open Go.RowKit
/-- a stage: which operations are done, and what holds of their values and of memory then -/
abbrev Stg := List Nat × (List Value → World → Prop)
def valF (ops : Array Oper) (ρ : Fr) (h : Nat) : Value := match dstOf ops h with | some d => ρ d | none => undef
def insN (i : Nat) : List Nat → List Nat
  | [] => [i]
  | x :: l => match Nat.ble i x with | true => i :: x :: l | false => x :: insN i l
theorem mem_insN {i h : Nat} : ∀ {l : List Nat}, h ∈ insN i l ↔ h = i ∨ h ∈ l
  | [] => by simp [insN]
  | x :: l => by
    unfold insN
    cases Nat.ble i x
    · simp only [List.mem_cons, mem_insN (l := l)]
      constructor
      · rintro (h | h | h) <;> simp [h]
      · rintro (h | h | h) <;> simp [h]
    · simp only [List.mem_cons]
def memN (x : Nat) : List Nat → Bool
  | [] => false
  | y :: l => match Nat.beq x y with | true => true | false => memN x l
theorem memN_iff {x : Nat} : ∀ {l : List Nat}, memN x l = true ↔ x ∈ l
  | [] => by simp [memN]
  | y :: l => by
    unfold memN
    cases hb : Nat.beq x y
    · simp only [memN_iff (l := l), List.mem_cons]
      constructor
      · exact .inr
      · rintro (rfl | h)
        · rw [Nat.beq_refl] at hb; cases hb
        · exact h
    · simp [Nat.eq_of_beq_eq_true hb]
/-- the operations ahead of one -/
def aheadL (ops : Array Oper) (i : Nat) : List Nat := match ops[i]? with | some o => (o.after.toList.filter (fun e => Region.binds .any e)).map (·.on) | none => []
/-- all that is ahead of one, of those ahead, and so on, m deep -/
def reach (ops : Array Oper) : Nat → List Nat → List Nat → List Nat
  | 0, _, acc => acc
  | _ + 1, [], acc => acc
  | m + 1, i :: todo, acc => match memN i acc with | true => reach ops m todo acc | false => reach ops m (aheadL ops i ++ todo) (i :: acc)
def Listed (listed : Array Bool) (i : Nat) : Prop := listed.getD i false = true
def Closed (ops : Array Oper) (listed : Array Bool) : Prop := ∀ i, Listed listed i → ∀ j ∈ aheadL ops i, Listed listed j
theorem reach_listed {ops : Array Oper} {listed : Array Bool} (hc : Closed ops listed) : ∀ (m : Nat) (todo acc : List Nat), (∀ i ∈ todo, Listed listed i) → (∀ i ∈ acc, Listed listed i) → ∀ i ∈ reach ops m todo acc, Listed listed i
  | 0, todo, acc, _, h2 => h2
  | m + 1, [], acc, _, h2 => h2
  | m + 1, x :: todo, acc, h1, h2 => by
    unfold reach
    cases memN x acc
    · refine reach_listed hc m _ _ (fun i hi => ?_) (fun i hi => ?_)
      · rcases List.mem_append.1 hi with h | h
        · exact hc x (h1 x (by simp)) i h
        · exact h1 i (by simp [h])
      · rcases List.mem_cons.1 hi with rfl | h
        · exact h1 i (by simp)
        · exact h2 i h
    · exact reach_listed hc m _ _ (fun i hi => h1 i (by simp [hi])) h2
/-- may the operation i come at a stage at which just M of hv are done? -/
def canAt (ops : Array Oper) (hv : List Nat) (M : List Nat) (i : Nat) : Bool :=
  !memN i M && (reach ops 4096 (aheadL ops i) []).all (fun j => !memN j hv || memN j M) && M.all (fun h => !memN i (reach ops 4096 [h] []))
/-- at which stages an operation may come: among those that are given -/
def stagesOk (ops : Array Oper) (hv : List Nat) (masks : List (List Nat)) (i : Nat) (ss : List Nat) : Bool :=
  masks.zipIdx.all fun x => !canAt ops hv x.1 i || memN x.2 ss
def GEq (u : Value) : Value → Prop := fun v => v = u
def GAny : Value → Prop := fun _ => True
def Gl : List (Value → Prop) → Nat → Value → Prop
  | [], _ => fun _ => True
  | x :: _, 0 => x
  | _ :: l, j + 1 => Gl l j
def VL : List Value → List Value → Prop
  | [], _ => True
  | _, [] => True
  | a :: l, b :: m => a = b ∧ VL l m
section
variable {P : Program} {n : Nat} {Q : Post} {ρ : Fr} {w : World} {B : Code} {p : List Bool}
/-- the facts that are there when an operation comes -/
def Facts (ops : Array Oper) (l : List (Value → Prop)) (i : Nat) (ρ' : Fr) : Prop := ∀ j d, aheadB ops i j d = true → Gl l j (ρ' d)
/-- a slot that is as it was when the operation i comes -/
def oldB (ops : Array Oper) (i t : Nat) : Bool := notDst ops t || (List.range ops.size).any (fun j => dstAt ops j t && memN i (reach ops 4096 [j] []))
def StillF (ops : Array Oper) (i : Nat) (ρ ρ' : Fr) : Prop := ∀ t, oldB ops i t = true → ρ' t = ρ t
/-- what one owes that needs no stage -/
def OwesP (P : Program) (n : Nat) (B : Code) (p : List Bool) (ρ : Fr) (l : List (Value → Prop)) (i : Nat) : Prop :=
  ∀ (ρ' : Fr) (w' : World), StillF (regOps (codeAt B p)) i ρ ρ' → Facts (regOps (codeAt B p)) l i ρ' →
    Step P n B p i (fun ρ'' w'' => w'' = w' ∧ ∃ v, ρ'' = updO ρ' (dstOf (regOps (codeAt B p)) i) v ∧ Gl l i v) ρ' w'
/-- what one owes at a stage, that turns nothing -/
def OwesL (P : Program) (n : Nat) (B : Code) (p : List Bool) (ρ : Fr) (l : List (Value → Prop)) (s : Stg) (i : Nat) : Prop :=
  ∀ (ρ' : Fr) (w' : World), StillF (regOps (codeAt B p)) i ρ ρ' → Facts (regOps (codeAt B p)) l i ρ' → s.2 (s.1.map (valF (regOps (codeAt B p)) ρ')) w' →
    Step P n B p i (fun ρ'' w'' => w'' = w' ∧ ∃ v, ρ'' = updO ρ' (dstOf (regOps (codeAt B p)) i) v ∧ Gl l i v) ρ' w'
/-- what one owes that leads from a stage to the next -/
def OwesH (P : Program) (n : Nat) (B : Code) (p : List Bool) (ρ : Fr) (l : List (Value → Prop)) (s s' : Stg) (i : Nat) : Prop :=
  s'.1 = insN i s.1 ∧ ∀ (ρ' : Fr) (w' : World), StillF (regOps (codeAt B p)) i ρ ρ' → Facts (regOps (codeAt B p)) l i ρ' → s.2 (s.1.map (valF (regOps (codeAt B p)) ρ')) w' →
    Step P n B p i (fun ρ'' w'' => ∃ v, ρ'' = updO ρ' (dstOf (regOps (codeAt B p)) i) v ∧ Gl l i v ∧ s'.2 (s'.1.map (valF (regOps (codeAt B p)) (updO ρ' (dstOf (regOps (codeAt B p)) i) v))) w'') ρ' w'
def stgAt (S : List Stg) (k : Nat) : Stg := S.getD k ([], fun _ _ => False)
/-- what an operation owes: at no stage, or at these -/
inductive Owe (P : Program) (n : Nat) (B : Code) (p : List Bool) (ρ : Fr) (l : List (Value → Prop)) (hv : List Nat) (S : List Stg) (i : Nat) : Prop
  | pure (hh : memN i hv = false) (h : OwesP P n B p ρ l i)
  | light (hh : memN i hv = false) (ss : List Nat) (hs : stagesOk (regOps (codeAt B p)) hv (S.map (·.1)) i ss = true) (h : ∀ k ∈ ss, OwesL P n B p ρ l (stgAt S k) i)
  | heavy (hh : memN i hv = true) (ss : List (Nat × Nat)) (hs : stagesOk (regOps (codeAt B p)) hv (S.map (·.1)) i (ss.map (·.1)) = true) (h : ∀ k ∈ ss, Nat.blt k.2 S.length = true ∧ OwesH P n B p ρ l (stgAt S k.1) (stgAt S k.2) i)
end
section
variable {P : Program} {ops : Array Oper} {Q : Exit → Act → World → Prop} {a0 : Act} {hv : List Nat} {S : List Stg} {l : List (Value → Prop)}
def slotsOf (a : Act) : Fr := fun t => a.tmps.getD t undef
structure InvS (ops : Array Oper) (hv : List Nat) (S : List Stg) (l : List (Value → Prop)) (a0 : Act) (listed : Array Bool) (a : Act) (w : World) : Prop where
  size : listed.size = ops.size
  defers : a.defers = a0.defers
  tmps : a.tmps.size = a0.tmps.size
  still : ∀ t, Still ops t → a.eval (.tmp t) = a0.eval (.tmp t)
  closed : Closed ops listed
  old : ∀ j q d, ops[j]? = some q → ¬ Listed listed j → q.dst = some d → a.eval (.tmp d) = a0.eval (.tmp d)
  facts : ∀ j q d, ops[j]? = some q → Listed listed j → q.dst = some d → Gl l j (a.eval (.tmp d))
  stage : ∃ k, k < S.length ∧ (∀ h, memN h hv = true → (Listed listed h ↔ h ∈ (stgAt S k).1)) ∧ (∀ h ∈ (stgAt S k).1, memN h hv = true) ∧ (stgAt S k).2 ((stgAt S k).1.map (valF ops (slotsOf a))) w
/-- what one step gives -/
def PutsS (ops : Array Oper) (hv : List Nat) (S : List Stg) (l : List (Value → Prop)) (k i : Nat) (o : Oper) (a : Act) (w : World) (a' : Act) (w' : World) : Prop :=
  ∃ v, a' = a.put o.dst v ∧ Gl l i v ∧
    ((memN i hv = false ∧ w' = w) ∨ ∃ k', memN i hv = true ∧ k' < S.length ∧ (stgAt S k').1 = insN i (stgAt S k).1 ∧ (stgAt S k').2 ((stgAt S k').1.map (valF ops (slotsOf (a.put o.dst v)))) w')
theorem listed_set {listed : Array Bool} {i j : Nat} (hi : i < listed.size) : Listed (listed.setIfInBounds i true) j ↔ j = i ∨ Listed listed j := by
  unfold Listed
  simp only [Array.getD_eq_getD_getElem?]
  by_cases h : i = j
  · subst h
    simp [hi]
  · rw [Array.getElem?_setIfInBounds_ne h]
    constructor
    · exact .inr
    · rintro (h1 | h1)
      · exact absurd h1.symm h
      · exact h1
theorem aheadL_mem {i j : Nat} {o : Oper} (ho : ops[i]? = some o) : j ∈ aheadL ops i ↔ ∃ e ∈ o.after.toList, Region.binds .any e = true ∧ e.on = j := by
  unfold aheadL
  rw [ho]
  simp only [List.mem_map, List.mem_filter]
  constructor
  · rintro ⟨e, ⟨h1, h2⟩, h3⟩; exact ⟨e, h1, h2, h3⟩
  · rintro ⟨e, h1, h2, h3⟩; exact ⟨e, ⟨h1, h2⟩, h3⟩
theorem invS_step {listed : Array Bool} {a a' : Act} {w w' : World} {i k : Nat} {o : Oper} (hok : dstsOk ops a0.tmps.size = true) (ho : ops[i]? = some o) (hready : ∀ e ∈ o.after.toList, Region.binds .any e = true → Listed listed e.on)
    (h : InvS ops hv S l a0 listed a w) (hk : k < S.length) (hk1 : ∀ h, memN h hv = true → (Listed listed h ↔ h ∈ (stgAt S k).1)) (hk2 : ∀ h ∈ (stgAt S k).1, memN h hv = true) (hk3 : (stgAt S k).2 ((stgAt S k).1.map (valF ops (slotsOf a))) w)
    (hni : ¬ Listed listed i) (hp : PutsS ops hv S l k i o a w a' w') : InvS ops hv S l a0 (listed.setIfInBounds i true) a' w' := by
  obtain ⟨v, rfl, hG, hcase⟩ := hp
  have hi : i < listed.size := by rw [h.size]; exact (Array.getElem?_eq_some_iff.1 ho).1
  simp only [dstsOk, Bool.and_eq_true, List.all_eq_true, decide_eq_true_eq] at hok
  have hmem : ∀ d, o.dst = some d → d < a.tmps.size := fun d hd => by
    rw [h.tmps]
    exact hok.1 d (List.mem_filterMap.2 ⟨o, by rw [← Array.getElem?_toList] at ho; exact List.mem_of_getElem? ho, hd⟩)
  have hne : ∀ j q d, ops[j]? = some q → q.dst = some d → j ≠ i → o.dst ≠ some d := fun j q d hq hd hji hod =>
    hji (nodup_idx _ hok.2 j i q o d (by rw [Array.getElem?_toList]; exact hq) (by rw [Array.getElem?_toList]; exact ho) hd hod)
  refine ⟨by simpa using h.size, ?_, ?_, ?_, ?_, ?_, ?_, ?_⟩
  · cases o.dst <;> simpa [Act.put] using h.defers
  · cases o.dst <;> simpa [Act.put] using h.tmps
  · intro t ht
    rw [eval_put_other (ht o (by rw [← Array.getElem?_toList] at ho; exact List.mem_of_getElem? ho))]
    exact h.still t ht
  · intro j hj q hq
    rw [listed_set hi] at hj ⊢
    rcases hj with rfl | hj
    · obtain ⟨e, he, hb, rfl⟩ := (aheadL_mem ho).1 hq
      exact .inr (hready e he hb)
    · exact .inr (h.closed j hj q hq)
  · intro j q d hq hj hd
    rw [listed_set hi] at hj
    rw [eval_put_other (hne j q d hq hd fun e => hj (.inl e))]
    exact h.old j q d hq (fun hl => hj (.inr hl)) hd
  · intro j q d hq hj hd
    rw [listed_set hi] at hj
    by_cases hij : j = i
    · subst hij
      rw [ho] at hq; injection hq with hq; subst hq
      rw [hd, eval_put_same (hmem d hd)]
      exact hG
    · rw [eval_put_other (hne j q d hq hd hij)]
      exact h.facts j q d hq (hj.resolve_left hij) hd
  · rcases hcase with ⟨hnh, rfl⟩ | ⟨k', hh, hk', hM, hP⟩
    · refine ⟨k, hk, fun x hx => ?_, hk2, ?_⟩
      · rw [listed_set hi]
        constructor
        · rintro (rfl | h1)
          · rw [hnh] at hx; cases hx
          · exact (hk1 x hx).1 h1
        · exact fun h1 => .inr ((hk1 x hx).2 h1)
      · have e : (stgAt S k).1.map (valF ops (slotsOf (a.put o.dst v))) = (stgAt S k).1.map (valF ops (slotsOf a)) := by
          refine List.map_congr_left fun x hx => ?_
          have hxi : x ≠ i := fun e => by subst e; rw [hk2 x hx] at hnh; cases hnh
          unfold valF dstOf
          cases hq : ops[x]? with
          | none => rfl
          | some q =>
            simp only [Option.bind_some]
            cases hd : q.dst with
            | none => rfl
            | some d => exact eval_put_other (hne x q d hq hd hxi)
        rw [e]
        exact hk3
    · refine ⟨k', hk', fun x hx => ?_, fun x hx => ?_, hP⟩
      · rw [listed_set hi, hM, mem_insN]
        constructor
        · rintro (rfl | h1)
          · exact .inl rfl
          · exact .inr ((hk1 x hx).1 h1)
        · rintro (rfl | h1)
          · exact .inl rfl
          · exact .inr ((hk1 x hx).2 h1)
      · rw [hM, mem_insN] at hx
        rcases hx with rfl | hx
        · exact hh
        · exact hk2 x hx
theorem canAt_of {listed : Array Bool} {i k : Nat} {o : Oper} (ho : ops[i]? = some o) (hc : Closed ops listed) (hready : ∀ e ∈ o.after.toList, Region.binds .any e = true → Listed listed e.on) (hni : ¬ Listed listed i)
    (hk1 : ∀ h, memN h hv = true → (Listed listed h ↔ h ∈ (stgAt S k).1)) (hk2 : ∀ h ∈ (stgAt S k).1, memN h hv = true) : canAt ops hv (stgAt S k).1 i = true := by
  unfold canAt
  simp only [Bool.and_eq_true, Bool.not_eq_true', List.all_eq_true, Bool.or_eq_true]
  refine ⟨⟨?_, fun j hj => ?_⟩, fun h hh => ?_⟩
  · cases hm : memN i (stgAt S k).1 with
    | false => rfl
    | true =>
      have := memN_iff.1 hm
      exact absurd ((hk1 i (hk2 i this)).2 this) hni
  · cases hm : memN j hv with
    | false => exact .inl rfl
    | true =>
      refine .inr (memN_iff.2 ((hk1 j hm).1 (reach_listed hc 4096 _ _ (fun x hx => ?_) (fun x hx => by simp at hx) j hj)))
      obtain ⟨e, he, hb, rfl⟩ := (aheadL_mem ho).1 hx
      exact hready e he hb
  · cases hm : memN i (reach ops 4096 [h] []) with
    | false => rfl
    | true =>
      exact absurd (reach_listed hc 4096 [h] [] (fun x hx => by
        have : x = h := by simpa using hx
        subst this
        exact (hk1 x (hk2 x hh)).2 hh) (fun x hx => by simp at hx) i (memN_iff.1 hm)) hni
theorem stages_mem {masks : List (List Nat)} {i k : Nat} {ss : List Nat} {M : List Nat} (h : stagesOk ops hv masks i ss = true) (hk : masks[k]? = some M) (hc : canAt ops hv M i = true) : k ∈ ss := by
  unfold stagesOk at h
  rw [List.all_eq_true] at h
  have := h (M, k) (by rw [List.mem_iff_getElem?]; exact ⟨k, by rw [List.getElem?_zipIdx, hk]; simp⟩)
  simp only [hc, Bool.not_true, Bool.false_or] at this
  exact memN_iff.1 this
theorem old_of {listed : Array Bool} {a : Act} {w : World} {i : Nat} (h : InvS ops hv S l a0 listed a w) (hni : ¬ Listed listed i) (t : Nat) (ht : oldB ops i t = true) : a.eval (.tmp t) = a0.eval (.tmp t) := by
  unfold oldB at ht
  rw [Bool.or_eq_true, List.any_eq_true] at ht
  rcases ht with ht | ⟨j, _, hj⟩
  · exact h.still t (notDst_still ht)
  · rw [Bool.and_eq_true] at hj
    obtain ⟨h1, h2⟩ := hj
    have hnj : ¬ Listed listed j := fun hl => hni (reach_listed h.closed 4096 [j] [] (fun x hx => by
      have : x = j := by simpa using hx
      subst this
      exact hl) (fun x hx => by simp at hx) i (memN_iff.1 h2))
    unfold dstAt at h1
    cases hq : ops[j]? with
    | none => rw [hq] at h1; cases h1
    | some q =>
      rw [hq] at h1
      simp only at h1
      cases hd : q.dst with
      | none => rw [hd] at h1; cases h1
      | some d =>
        rw [hd] at h1
        have e : d = t := Nat.eq_of_beq_eq_true h1
        subst e
        exact h.old j q d hq hnj hd
theorem wpAny_stages (hok : dstsOk ops a0.tmps.size = true)
    (hstep : ∀ i o k, ops[i]? = some o → k < S.length → canAt ops hv (stgAt S k).1 i = true → ∀ a w, a.defers = a0.defers → a.tmps.size = a0.tmps.size → (∀ t, oldB ops i t = true → a.eval (.tmp t) = a0.eval (.tmp t)) →
      (∀ e ∈ o.after.toList, Region.binds .any e = true → ∀ q d, ops[e.on]? = some q → q.dst = some d → Gl l e.on (a.eval (.tmp d))) → (stgAt S k).2 ((stgAt S k).1.map (valF ops (slotsOf a))) w → wpOp P ops Q i (PutsS ops hv S l k i o a w) a w)
    (hend : ∀ k a w, k < S.length → (∀ h, h < ops.size → memN h hv = true → h ∈ (stgAt S k).1) → a.defers = a0.defers → a.tmps.size = a0.tmps.size → (∀ t, Still ops t → a.eval (.tmp t) = a0.eval (.tmp t)) →
      (∀ j q d, ops[j]? = some q → q.dst = some d → Gl l j (a.eval (.tmp d))) → (stgAt S k).2 ((stgAt S k).1.map (valF ops (slotsOf a))) w → Q .normal a w)
    (hfull : ∀ listed : Array Bool, listed.size = ops.size → Region.ready .any ops listed = [] → ∀ j, j < ops.size → listed.getD j false = true) :
    ∀ (fuel : Nat) (listed : Array Bool) (a : Act) (w : World), (listed.toList.filter (! ·)).length ≤ fuel → InvS ops hv S l a0 listed a w → wpAny P .any ops Q fuel listed a w := by
  have fin : ∀ (listed : Array Bool) (a : Act) (w : World), Region.ready .any ops listed = [] → InvS ops hv S l a0 listed a w → Q .normal a w := by
    intro listed a w hr h
    obtain ⟨k, hk, hk1, hk2, hk3⟩ := h.stage
    have hall := hfull listed h.size hr
    exact hend k a w hk (fun x hx hm => (hk1 x hm).1 (hall x hx)) h.defers h.tmps h.still (fun j q d hj hd => h.facts j q d hj (hall j (Array.getElem?_eq_some_iff.1 hj).1) hd) hk3
  intro fuel
  induction fuel with
  | zero =>
    intro listed a w hl hinv
    have hr : Region.ready .any ops listed = [] := by
      unfold Region.ready
      rw [List.filter_eq_nil_iff]
      intro i hi
      have hi' : i < listed.size := by rw [hinv.size]; simpa using hi
      have hlist : listed.getD i true = true := by
        have hempty : listed.toList.filter (! ·) = [] := List.eq_nil_of_length_eq_zero (by omega)
        rw [List.filter_eq_nil_iff] at hempty
        have := hempty listed[i] (by rw [← Array.getElem_toList]; exact List.getElem_mem _)
        simpa [Array.getD, hi'] using this
      simp [hlist]
    exact ⟨hr, fin _ _ _ hr hinv⟩
  | succ fuel ih =>
    intro listed a w hl hinv
    refine ⟨fun hr => fin _ _ _ hr hinv, fun i hi => ?_⟩
    obtain ⟨o, ho, hedge⟩ := ready_mem hinv.size hi
    unfold Region.ready at hi
    simp only [List.mem_filter, List.mem_range, Bool.and_eq_true] at hi
    have hi' : i < listed.size := by rw [hinv.size]; exact hi.1
    have hf : listed[i] = false := by
      have := hi.2.1
      simpa [Array.getD, hi'] using this
    have hni : ¬ Listed listed i := by
      unfold Listed
      simp [Array.getD, hi', hf]
    obtain ⟨k, hk, hk1, hk2, hk3⟩ := hinv.stage
    refine wpOp_mono (fun a' w' hp => ih _ a' w' ?_ (invS_step hok ho hedge hinv hk hk1 hk2 hk3 hni hp))
      (hstep i o k ho hk (canAt_of ho hinv.closed hedge hni hk1 hk2) a w hinv.defers hinv.tmps (old_of hinv hni) (fun e he hb q d hq hd => hinv.facts e.on q d hq (hedge e he hb) hd) hk3)
    have hcount : ∀ (l : List Bool) (k : Nat), l[k]? = some false → ((l.set k true).filter (! ·)).length + 1 = (l.filter (! ·)).length := by
      intro l
      induction l with
      | nil => intro k hk; simp at hk
      | cons x r ihr =>
        intro k hk
        cases k with
        | zero => simp at hk; subst hk; simp
        | succ k =>
          simp at hk
          have := ihr k hk
          cases x <;> simp [List.set] <;> omega
    have := hcount listed.toList i (by rw [Array.getElem?_toList, Array.getElem?_eq_getElem hi', hf])
    simp only [Array.toList_setIfInBounds]
    omega
end
section
variable {P : Program} {n : Nat} {Q : Post} {ρ : Fr} {w : World} {B : Code} {p : List Bool}
/-- a region that draws its order, by stages -/
theorem At.stages (h : isTag 5 (codeAt B p) = true) (hd : regDraws (codeAt B p) = true) (hm : P.follows .mixedOrders = true) (hok : dstsOk (regOps (codeAt B p)) n = true) (he : edgesOk (regOps (codeAt B p)) = true)
    (l : List (Value → Prop)) (hv : List Nat) (S : List Stg) {N : Nat} (hN : (regOps (codeAt B p)).size = N) (h0 : (stgAt S 0).1 = [] ∧ 0 < S.length) (hS : (stgAt S 0).2 [] w.drew) (hobs : Obs N (Owe P n B p ρ l hv S))
    {last : Nat} (hlast : (S.map (·.1)).zipIdx.all (fun x => Nat.beq x.2 last || (List.range N).any (fun i => memN i hv && !memN i x.1)) = true)
    (hend : ∀ (ρ' : Fr) (w' : World), (∀ t, notDst (regOps (codeAt B p)) t = true → ρ' t = ρ t) → (∀ j d, dstAt (regOps (codeAt B p)) j d = true → Gl l j (ρ' d)) → (stgAt S last).2 ((stgAt S last).1.map (valF (regOps (codeAt B p)) ρ')) w' → Q .normal ρ' w') : At P n B p Q ρ w := by
  intro a0 ha0
  have hreg := region_of h
  rw [hreg, hd]
  have hd0 : a0.defers = [] := ha0.defers
  have hsz0 : a0.tmps.size = n := ha0.size
  have hev : ∀ (a : Act) (t : Nat), a.eval (.tmp t) = a.tmps.getD t undef := fun _ _ => rfl
  have hstill : ∀ (a : Act), (∀ t, Still (regOps (codeAt B p)) t → a.eval (.tmp t) = a0.eval (.tmp t)) → ∀ t, notDst (regOps (codeAt B p)) t = true → slotsOf a t = ρ t := fun a hst t ht => by
    have := hst t (notDst_still ht)
    rw [hev, hev] at this
    rw [← ha0.get t]; exact this
  have hstillI : ∀ (i : Nat) (a : Act), (∀ t, oldB (regOps (codeAt B p)) i t = true → a.eval (.tmp t) = a0.eval (.tmp t)) → StillF (regOps (codeAt B p)) i ρ (slotsOf a) := fun i a hst t ht => by
    have := hst t ht
    rw [hev, hev] at this
    rw [← ha0.get t]; exact this
  have hmask : ∀ k, k < S.length → (S.map (·.1))[k]? = some (stgAt S k).1 := fun k hk => by
    rw [List.getElem?_map]
    unfold stgAt
    rw [List.getD_eq_getElem?_getD, List.getElem?_eq_getElem hk]
    rfl
  refine wp_region_any hm ?_
  refine wpAny_stages (l := l) (hv := hv) (S := S) (a0 := a0) (by rw [hsz0]; exact hok) ?_ ?_ (full_of he) _ _ _ _ ?_ ?_
  · intro i o k ho hk hcan a w' hdf hsz hst hah hstage
    have hlt : i < N := by rw [← hN]; exact (Array.getElem?_eq_some_iff.1 ho).1
    have ha : FA n (slotsOf a) a := fa_of (hdf.trans hd0) (hsz.trans hsz0)
    have hfacts : Facts (regOps (codeAt B p)) l i (slotsOf a) := fun j d hjd => by
      unfold aheadB at hjd
      rw [ho] at hjd
      cases hj : (regOps (codeAt B p))[j]? with
      | none => rw [hj] at hjd; cases hjd
      | some q =>
        rw [hj] at hjd
        simp only [Bool.and_eq_true, List.any_eq_true] at hjd
        obtain ⟨⟨e, hem, hon, hbind⟩, hdst⟩ := hjd
        have hon := Nat.eq_of_beq_eq_true hon
        cases hq : q.dst with
        | none => rw [hq] at hdst; cases hdst
        | some x =>
          rw [hq] at hdst
          have hx : x = d := Nat.eq_of_beq_eq_true hdst
          subst hx
          have := hah e hem hbind q x (by rw [hon]; exact hj) hq
          rw [hon] at this
          exact this
    have hdst : dstOf (regOps (codeAt B p)) i = o.dst := by simp [dstOf, ho]
    have hdok : dstOk n o.dst = true := by
      cases hdo : o.dst with
      | none => rfl
      | some d =>
        simp only [dstsOk, Bool.and_eq_true, List.all_eq_true, decide_eq_true_eq] at hok
        have hmem : o ∈ (regOps (codeAt B p)).toList := by rw [← Array.getElem?_toList] at ho; exact List.mem_of_getElem? ho
        have := hok.1 d (List.mem_filterMap.2 ⟨o, hmem, hdo⟩)
        exact Nat.ble_eq_true_of_le (Nat.succ_le_of_lt this)
    have same : ∀ (a' : Act) (ρ'' : Fr) (v : Value), FA n ρ'' a' → ρ'' = updO (slotsOf a) (dstOf (regOps (codeAt B p)) i) v → a' = a.put o.dst v ∧ slotsOf (a.put o.dst v) = updO (slotsOf a) (dstOf (regOps (codeAt B p)) i) v := by
      intro a' ρ'' v ha'' hρ
      rw [hdst] at hρ ⊢
      subst hρ
      have hput := ha.putO hdok v
      refine ⟨?_, funext fun t => hput.get t⟩
      have ht : a'.tmps = (a.put o.dst v).tmps := by
        apply Array.ext_getElem?
        intro t
        have h1 := ha''.get t
        have h2 := hput.get t
        rcases Nat.lt_or_ge t n with hlt | hge
        · have s1 : t < a'.tmps.size := by rw [ha''.size]; exact hlt
          have s2 : t < (a.put o.dst v).tmps.size := by rw [hput.size]; exact hlt
          rw [Array.getElem?_eq_getElem s1, Array.getElem?_eq_getElem s2]
          simp only [Array.getD_eq_getD_getElem?, Array.getElem?_eq_getElem s1, Array.getElem?_eq_getElem s2, Option.getD_some] at h1 h2
          rw [h1, h2]
        · rw [Array.getElem?_eq_none (by rw [ha''.size]; exact hge), Array.getElem?_eq_none (by rw [hput.size]; exact hge)]
      have hdd : a'.defers = (a.put o.dst v).defers := ha''.defers.trans hput.defers.symm
      cases a'
      cases hq : a.put o.dst v
      rw [hq] at ht hdd
      simp only at ht hdd
      rw [ht, hdd]
    rcases obs_get hobs i hlt with ⟨hh, howe⟩ | ⟨hh, ss, hs, howe⟩ | ⟨hh, ss, hs, howe⟩
    · refine wpOp_mono ?_ (howe (slotsOf a) w' (hstillI i a hst) hfacts a ha _)
      rintro a' w'' ⟨ρ'', ha'', hw, v, hρ, hG⟩
      exact ⟨v, (same a' ρ'' v ha'' hρ).1, hG, .inl ⟨hh, hw⟩⟩
    · refine wpOp_mono ?_ (howe k (stages_mem hs (hmask k hk) hcan) (slotsOf a) w' (hstillI i a hst) hfacts hstage a ha _)
      rintro a' w'' ⟨ρ'', ha'', hw, v, hρ, hG⟩
      exact ⟨v, (same a' ρ'' v ha'' hρ).1, hG, .inl ⟨hh, hw⟩⟩
    · obtain ⟨kk, hkm, hke⟩ := List.mem_map.1 (stages_mem hs (hmask k hk) hcan)
      have hke' : kk.1 = k := hke
      obtain ⟨hk'lt0, hM, howe'⟩ := howe kk hkm
      have hk'lt : kk.2 < S.length := Nat.le_of_ble_eq_true hk'lt0
      rw [hke'] at howe' hM
      refine wpOp_mono ?_ (howe' (slotsOf a) w' (hstillI i a hst) hfacts hstage a ha _)
      rintro a' w'' ⟨ρ'', ha'', v, hρ, hG, hP⟩
      obtain ⟨e1, e2⟩ := same a' ρ'' v ha'' hρ
      rw [← e2] at hP
      exact ⟨v, e1, hG, .inr ⟨kk.2, hh, hk'lt, hM, hP⟩⟩
  · intro k a w' hk hall hdf hsz hst hfacts hstage
    have ha : FA n (slotsOf a) a := fa_of (hdf.trans hd0) (hsz.trans hsz0)
    have hkl : k = last := by
      rw [List.all_eq_true] at hlast
      have := hlast ((stgAt S k).1, k) (by rw [List.mem_iff_getElem?]; exact ⟨k, by rw [List.getElem?_zipIdx, hmask k hk]; simp⟩)
      simp only [Bool.or_eq_true, List.any_eq_true, Bool.and_eq_true, Bool.not_eq_true', List.mem_range] at this
      rcases this with h1 | ⟨i, hi, h1, h2⟩
      · exact Nat.eq_of_beq_eq_true h1
      · have := memN_iff.2 (hall i (by rw [hN]; exact hi) h1)
        rw [this] at h2
        cases h2
    rw [hkl] at hstage
    refine ⟨_, ha, hend _ w' (hstill a hst) (fun j d hjd => ?_) hstage⟩
    unfold dstAt at hjd
    cases hj : (regOps (codeAt B p))[j]? with
    | none => rw [hj] at hjd; cases hjd
    | some q =>
      rw [hj] at hjd
      simp only at hjd
      cases hq : q.dst with
      | none => rw [hq] at hjd; cases hjd
      | some x =>
        rw [hq] at hjd
        have hx : x = d := Nat.eq_of_beq_eq_true hjd
        subst hx
        exact hfacts j q x hj hq
  · simp [List.filter_replicate]
  · refine ⟨by simp, rfl, rfl, fun _ _ => rfl, ?_, fun _ _ _ _ _ _ => rfl, ?_, 0, h0.2, fun h _ => ?_, fun h hh => ?_, ?_⟩
    · intro j hj
      exfalso
      unfold Listed at hj
      simp only [Array.getD_eq_getD_getElem?, Array.getElem?_replicate] at hj
      split at hj <;> simp at hj
    · intro j q d hq hj _
      exfalso
      unfold Listed at hj
      simp only [Array.getD_eq_getD_getElem?, Array.getElem?_replicate] at hj
      split at hj <;> simp at hj
    · rw [h0.1]
      unfold Listed
      simp only [Array.getD_eq_getD_getElem?, Array.getElem?_replicate]
      constructor
      · intro hj; split at hj <;> simp at hj
      · intro hj; simp at hj
    · rw [h0.1] at hh; simp at hh
    · rw [h0.1]; exact hS
/-- an element's address, without memory -/
def GElem (A : Option Addr) (sz : Nat) (iz : Int) (j : Nat) : Value → Prop := fun v => ∃ b off : Nat, A = some ⟨b, off, none⟩ ∧ v = .pointer (some ⟨b, off + iz.toNat * sz + j, none⟩)
def GElem0 (A : Option Addr) (sz : Nat) (iz : Int) : Value → Prop := fun v => ∃ b off : Nat, A = some ⟨b, off, none⟩ ∧ v = .pointer (some ⟨b, off + iz.toNat * sz, none⟩)
theorem rdt_cells {α : Type} {e : Enc α} {w : World} {A : Option Addr} {c b off : Nat} {l : List α} {iz : Int} (hr : RdT e w A c l) (hA : A = some ⟨b, off, none⟩) (h0 : 0 ≤ iz) (h1 : iz < (l.length : Int)) :
    ∀ j u, (cellsOf e l)[j]? = some u → w.cell? ⟨b, off + j, none⟩ = some u := by
  obtain ⟨_, _, _, h4⟩ := hr
  obtain ⟨b', off', hA', hb, hc⟩ := h4 (by omega)
  rw [hA] at hA'
  injection hA' with hA'
  injection hA' with e1 e2 _
  subst e1 e2
  exact hc
theorem elem_cells0 {α : Type} {e : Enc α} {l : List α} {x : α} {b off : Nat} {iz : Int} {xs : List Value} {w : World} (hc : ∀ j u, (cellsOf e l)[j]? = some u → w.cell? ⟨b, off + j, none⟩ = some u) (hx : l[iz.toNat]? = some x) (hxs : (e.enc x).take xs.length = xs) :
    ∀ j u, xs[j]? = some u → w.cell? ⟨b, off + iz.toNat * e.sz + j, none⟩ = some u := by
  intro j u hu
  refine elem_cell hc hx ?_
  rw [← hxs, List.getElem?_take] at hu
  split at hu
  · exact hu
  · cases hu
theorem elem_cellsJ {α : Type} {e : Enc α} {l : List α} {x : α} {b off j : Nat} {iz : Int} {xs : List Value} {w : World} (hc : ∀ j u, (cellsOf e l)[j]? = some u → w.cell? ⟨b, off + j, none⟩ = some u) (hx : l[iz.toNat]? = some x) (hxs : ((e.enc x).drop j).take xs.length = xs) :
    ∀ j' u, xs[j']? = some u → w.cell? ⟨b, off + iz.toNat * e.sz + j + j', none⟩ = some u := by
  intro j' u hu
  rw [Nat.add_assoc]
  refine elem_cell hc hx (j := j + j') ?_
  rw [← hxs, List.getElem?_take] at hu
  split at hu
  · rw [List.getElem?_drop] at hu
    exact hu
  · cases hu
theorem valF_eq {ops : Array Oper} {ρ : Fr} {h d : Nat} (hd : dstOf ops h = some d) : valF ops ρ h = ρ d := by unfold valF; rw [hd]
/-- the part of a row that is read -/
theorem cut_rd {α : Type} {e : Enc α} {A : Option Addr} {c : Nat} {l m : List α} {i j : Int} (h0 : 0 ≤ i) (h1 : i ≤ j) (h2 : j ≤ (l.length : Int)) (hm : List.drop i.toNat (List.take j.toNat l) = m) (w1 : World) (hr : RdT e w1 A c l) : RdT e w1 (cutA e.sz c i.toNat A) (c - i.toNat) m := by
  subst hm
  exact RdT.part hr (by omega) (by omega)
theorem Step.slice2 {α : Type} {e : Enc α} {A : Option Addr} {c : Nat} {l m : List α} {k : Nat} {d : Option Nat} {K : Fr → World → Prop} {T E : TypeId} {x : Operand} {lo hi : Option Operand} {i j : Int} (ho : opAt (codeAt B p) k ρ = some (.slice T x lo hi none, d)) (hd : dstOk n d = true)
    (hx : opv ρ x = .slice A l.length c) (hT : P.underlying T = some (.slice E)) (hE : (P.info? E).map (·.size) = some e.sz) (hlo : BoundI ρ lo i 0) (hhi : BoundI ρ hi j l.length) (hc : l.length ≤ c)
    (h0 : 0 ≤ i) (h1 : i ≤ j) (h2 : j ≤ (l.length : Int)) (hm : List.drop i.toNat (List.take j.toNat l) = m)
    (next : K (updO ρ d (.slice (cutA e.sz c i.toNat A) m.length (c - i.toNat))) w) : Step P n B p k K ρ w := by
  refine Step.slice (e := e) ho hd hx hT hE hlo hhi hc h0 h1 h2 ?_
  intro A' c' hA hcc _
  subst hA hcc hm
  exact next
/-! the short forms -/
def SrcG1 (ops : Array Oper) (i : Nat) (l : List (Value → Prop)) (ρ : Fr) (t : Nat) (v : Value) : Prop :=
  (oldB ops i t = true ∧ ρ t = v) ∨ ∃ j, aheadB ops i j t = true ∧ Gl l j = GEq v
theorem gS {ops : Array Oper} {i : Nat} {l : List (Value → Prop)} {ρ : Fr} {t : Nat} {v : Value} (h : oldB ops i t = true) (e : ρ t = v) : SrcG1 ops i l ρ t v := .inl ⟨h, e⟩
theorem gA {ops : Array Oper} {i : Nat} {l : List (Value → Prop)} {ρ : Fr} {t : Nat} {v : Value} (j : Nat) (h : aheadB ops i j t = true) (e : Gl l j = GEq v) : SrcG1 ops i l ρ t v := .inr ⟨j, h, e⟩
theorem gB {ops : Array Oper} {i : Nat} {l : List (Value → Prop)} {ρ : Fr} {t : Nat} {b : Bool} (j : Nat) (h : aheadB ops i j t = true) (u : Bool) (e : Gl l j = GEq (.bool u)) (hb : u = b) : SrcG1 ops i l ρ t (.bool b) := .inr ⟨j, h, by rw [e, hb]⟩
def SrcG (ops : Array Oper) (i : Nat) (l : List (Value → Prop)) (ρ : Fr) : List (Nat × Value) → Prop
  | [] => True
  | x :: r => SrcG1 ops i l ρ x.1 x.2 ∧ SrcG ops i l ρ r
theorem known_srcG {ops : Array Oper} {i : Nat} {l : List (Value → Prop)} {ρ ρ' : Fr} (hs : StillF ops i ρ ρ') (ha : Facts ops l i ρ') :
    ∀ src : List (Nat × Value), SrcG ops i l ρ src → Known ρ' src
  | [], _ => trivial
  | x :: r, h => by
    refine ⟨?_, known_srcG hs ha r h.2⟩
    rcases h.1 with ⟨h1, h2⟩ | ⟨j, h1, h2⟩
    · exact (hs _ h1).trans h2
    · have := ha j x.1 h1
      rw [h2] at this
      exact this
theorem Owe.run {l : List (Value → Prop)} {hv : List Nat} {S : List Stg} {i : Nat} (hh : memN i hv = false) (src : List (Nat × Value)) (hsrc : SrcG (regOps (codeAt B p)) i l ρ src) (v : Value)
    (h : ∀ (ρ' : Fr) (w' : World), execSeq P n (regOps (codeAt B p)) (((regOps (codeAt B p)).toList.drop i).take 1) (updL ρ' src) w' = some (updO (updL ρ' src) (dstOf (regOps (codeAt B p)) i) v, w')) (hR : Gl l i v) : Owe P n B p ρ l hv S i := by
  refine .pure hh fun ρ' w' hs hah => ?_
  have hkn := known_srcG hs hah src hsrc
  refine Step.known src hkn ?_
  exact Step.run (h ρ' w') ⟨rfl, v, updO_known hkn, hR⟩
theorem Owe.skip {l : List (Value → Prop)} {hv : List Nat} {S : List Stg} {i : Nat} (hh : memN i hv = false) (src : List (Nat × Value)) (hsrc : SrcG (regOps (codeAt B p)) i l ρ src) (d : Option Nat)
    (h : ∀ (ρ' : Fr), (regOps (codeAt B p))[i]?.map (fun o => (wantedF (regOps (codeAt B p)) (updL ρ' src) o, o.dst)) = some (false, d)) (hd : dstOk n d = true) (hR : Gl l i undef) : Owe P n B p ρ l hv S i := by
  refine .pure hh fun ρ' w' hs hah => ?_
  have hkn := known_srcG hs hah src hsrc
  have hdd : dstOf (regOps (codeAt B p)) i = d := by
    have := h ρ'
    unfold dstOf
    cases ho : (regOps (codeAt B p))[i]? with
    | none => rw [ho] at this; cases this
    | some o => rw [ho] at this; simp only [Option.map_some, Option.some.injEq, Prod.mk.injEq] at this; exact this.2
  refine Step.known src hkn ?_
  exact Step.not (h ρ') hd ⟨rfl, undef, by rw [hdd]; exact updO_known hkn, hR⟩
/-- obligations at several stages, one by one -/
theorem all_nil {α : Type} {Φ : α → Prop} : ∀ k ∈ ([] : List α), Φ k := fun _ h => by simp at h
theorem all_cons {α : Type} {Φ : α → Prop} {x : α} {l : List α} (h : Φ x) (t : ∀ k ∈ l, Φ k) : ∀ k ∈ x :: l, Φ k := fun k hk => by
  rcases List.mem_cons.1 hk with rfl | hk
  · exact h
  · exact t k hk
end
end Go.Proofs.YtfffjaijflbeaaaDoor
