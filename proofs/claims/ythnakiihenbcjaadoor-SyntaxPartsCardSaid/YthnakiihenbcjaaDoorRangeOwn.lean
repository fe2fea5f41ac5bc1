/- 'for x := range seq': the law for an iterator that keeps state in cells of its own (T): the rounds write the caller's boxes (M) alone. -/
import Derived.Test.YthnakiihenbcjaaDoorSplitIter
namespace Go.Proofs.YthnakiihenbcjaaDoor
set_option linter.unusedSimpArgs false
set_option linter.unusedVariables false
open Go.RowKit Go.Shelf
attribute [local go_sem] Oper.semAt_some
/-- how a round may be left -/
def bodyOwn {α : Type} (M : List Nat) (I : List α → World → Prop) (Ix : Code → List α → World → Prop) (xs : List α) (W : World) : Exit → Act → World → Prop
  | .normal, _, W' => Mod M W W' ∧ I xs W'
  | .ret, _, W' => Mod M W W' ∧ Ix .ret xs W'
  | .exit id, _, W' => Mod M W W' ∧ Ix (.exit id) xs W'
  | .goto t, _, W' => Mod M W W' ∧ Ix (.goto t) xs W'
  | _, _, _ => False
theorem mod_putObj (W : World) (r : Nat) (o : Obj) : Mod [r] W (W.putObj r o) := ⟨rfl, rfl, rfl, by simp, fun k _ hk => World.putObj_heap_other (by simpa using hk)⟩
theorem mod_setCell (W : World) (b : Nat) (v : Value) : Mod [b] W (W.setCell ⟨b, 0, none⟩ v) := (Mod.refl [b] W).setCell (p := ⟨b, 0, none⟩) (.inl (by simp)) v
/-- the iterator's word -/
def SeqOwn {α : Type} (P : Program) (m gf : Nat) (lb : Array Value) (encs : α → Array Value) (T : List Nat) (S : List α) (w : World) : Prop :=
  ∀ (l : Nat) (J Jx : List α → World → Prop) (W : World),
    (∀ pre W1 k (v : Value), k ∈ T → J pre W1 → J pre (W1.setCell ⟨k, 0, none⟩ v)) →
    (∀ pre x W1, J pre W1 → (∃ q, pre ++ x :: q = S) → YieldAt Fence.wide (m - 1) P l (encs x) W1 fun e W' =>
      (e = .returned (.bool true) ∧ J (pre ++ [x]) W' ∧ ∀ k ∈ T, W'.heap[k]? = W1.heap[k]?) ∨ (e = .returned (.bool false) ∧ Jx (pre ++ [x]) W')) →
    (∀ k ∈ T, W.heap[k]? = w.heap[k]?) → J [] W →
    CallsIn Fence.wide m P gf (#[.func (.yield l) #[] #[]] ++ lb) W fun e W' => (∃ v, e = .returned v) ∧ (J S W' ∨ ∃ pre, pre <+: S ∧ Jx pre W')
theorem range_own {α : Type} {P : Program} {g : Operand} {ps : Array Tmp} {assign body : Code} {Q : Exit → Act → World → Prop} {a : Act} {w : World} {m gf : Nat} {lb : Array Value}
    (hg : a.eval g = .func (.func gf) #[] lb) (eg : ∀ args w, (callFunc gf args).run P w = .ok (.enter gf args) w) {encs : α → Array Value} (hps : ∀ x, (encs x).size = ps.size)
    (T M : List Nat) (hT : ∀ k ∈ T, k < w.heap.size) (hM : ∀ k ∈ M, k < w.heap.size ∧ k ∉ T) {S : List α} (iter : SeqOwn P (m - 1) gf lb encs T S w)
    (I : List α → World → Prop) (Ix : Code → List α → World → Prop) (hI : ∀ xs W W', I xs W → Mod (T ++ [w.heap.size, w.heap.size + 1]) W W' → I xs W') (hIx : ∀ c xs W W', Ix c xs W → Mod (T ++ [w.heap.size, w.heap.size + 1]) W W' → Ix c xs W')
    (h0 : I [] w) (a₁ : α → Act)
    (hassign : ∀ (l : Nat) (x : α) (W : World) (K : Act → World → Prop), K (a₁ x) W →
      assign.wpIn (Fence.wide.inRound l) (m - 1 - 1) P (Exit.then K (fun _ _ _ => False)) { tmps := (ps.zip (encs x)).foldl (fun t (p, v) => t.setIfInBounds p v) a.tmps, defers := [] } W)
    (hbody : ∀ (l : Nat) (pre : List α) (x : α) (W : World), I pre W → w.heap.size ≤ W.heap.size → (∃ q, pre ++ x :: q = S) → body.wpIn (Fence.wide.inRound l) (m - 1 - 1) P (bodyOwn M I Ix (pre ++ [x]) W) (a₁ x) W)
    (hdone : ∀ (W : World), I S W → W.heap[w.heap.size]? = some (.deferred (some [])) → Q .normal { a with defers := { target := .collected w.heap.size, args := #[] } :: a.defers } W)
    (hstop : ∀ (c : Code) (pre : List α) (W : World), pre <+: S → Ix c pre W → W.heap[w.heap.size]? = some (.deferred (some [])) → c.wpIn Fence.wide m P Q { a with defers := { target := .collected w.heap.size, args := #[] } :: a.defers } W) :
    (Code.rangeFunc g ps assign body).wpIn Fence.wide m P Q a w := by
  refine wpIn_rangeFunc fun fn _ => ?_
  have hnT : ∀ j, w.heap.size ≤ j → j ∉ T := fun j hj hm => by have := hT j hm; omega
  have hnM : ∀ j, w.heap.size ≤ j → j ∉ M := fun j hj hm => by have := (hM j hm).1; omega
  generalize hrec : (fun st pe => ({ state := st, pending := pe, fn, tmps := a.tmps, params := ps, assign, body, defers := w.heap.size } : Loop)) = rec
  have hr1 : ∀ st pe, (rec st pe).state = st := fun st pe => by rw [← hrec]
  generalize hW1 : (w.alloc (.deferred (some []))).alloc (.loop (rec .ready none)) = W1
  have hmod1 : Mod (T ++ [w.heap.size, w.heap.size + 1]) w W1 := by rw [← hW1]; exact ((Mod.refl _ w).alloc _).alloc _
  have hL1 : W1.heap[w.heap.size + 1]? = some (.loop (rec .ready none)) := by
    rw [← hW1]
    have := World.alloc_heap_new (w.alloc (.deferred (some []))) (.loop (rec .ready none))
    rwa [World.size_alloc] at this
  have hK1 : W1.heap[w.heap.size]? = some (.deferred (some [])) := by
    rw [← hW1]
    exact (Below.heap_alloc _ _ _ (by simp)).trans (World.alloc_heap_new w _)
  have pb : ∀ (W : World) (o : Obj), Mod (T ++ [w.heap.size, w.heap.size + 1]) W (W.putObj (w.heap.size + 1) o) := fun W o => (mod_putObj W _ o).more (by simp)
  refine ⟨w.heap.size + 1, [{ target := .collected w.heap.size, args := #[] }], W1, { target := .fn (.func gf) lb, args := #[.func (.yield (w.heap.size + 1)) #[] #[]] }, W1, gf, #[.func (.yield (w.heap.size + 1)) #[] #[]] ++ lb, W1, ?_, ?_, fun _ _ => trivial, ?_, fun h => (by cases h), ?_⟩
  · rw [← hW1, ← hrec]
    exact run_enterLoop_outer _ _ _ _ _
  · simp only [resolve, hg]
    simp [go_sem]
  · simp [invoke, go_sem, eg]
  · refine (iter (w.heap.size + 1) (fun pre W => I pre W ∧ W.heap[w.heap.size + 1]? = some (.loop (rec .ready none)) ∧ W.heap[w.heap.size]? = some (.deferred (some [])))
      (fun pre W => ∃ c, Ix c pre W ∧ W.heap[w.heap.size + 1]? = some (.loop (rec .done (some c))) ∧ W.heap[w.heap.size]? = some (.deferred (some []))) W1 ?_ ?_ ?_ ⟨hI _ _ _ h0 hmod1, hL1, hK1⟩).mono ?_
    · rintro pre W k v hk ⟨h1, h2, h3⟩
      have hlt := hT k hk
      exact ⟨hI _ _ _ h1 ((mod_setCell W k v).more fun j hj => by
        have : j = k := by simpa using hj
        subst this
        simp [hk]), (setCell_other (by omega)).trans h2, (setCell_other (by omega)).trans h3⟩
    · rintro pre x W ⟨hi, hl, hk⟩ hq
      have hlt : w.heap.size + 1 < W.heap.size := (Array.getElem?_eq_some_iff.1 hl).1
      have hy := run_yield (P := P) (args := encs x) hl (by rw [← hrec]; exact hps x)
      rw [← hrec] at hy
      dsimp only at hy
      refine ⟨fn, _, assign, body, hy, ?_⟩
      refine roundIn_of_wpIn trivial ?_
      refine hassign _ x W _ ?_
      refine ⟨_, run_beginRound hl (hr1 _ _), ?_⟩
      generalize hW2 : W.putObj (w.heap.size + 1) (.loop { rec .ready none with state := .busy }) = W2
      have hm2 : Mod (T ++ [w.heap.size, w.heap.size + 1]) W W2 := by rw [← hW2]; exact pb W _
      have hs2 : W2.heap.size = W.heap.size := by rw [← hW2]; simp
      have hl2 : W2.heap[w.heap.size + 1]? = some (.loop { rec .ready none with state := .busy }) := by rw [← hW2]; exact World.putObj_heap_same hlt
      have hk2 : W2.heap[w.heap.size]? = some (.deferred (some [])) := by rw [← hW2]; exact (World.putObj_heap_other (by omega)).trans hk
      have hT2 : ∀ k ∈ T, W2.heap[k]? = W.heap[k]? := fun k hkT => by rw [← hW2]; exact World.putObj_heap_other (by have := hT k hkT; omega)
      refine wpIn_mono (hbody _ pre x W2 (hI _ _ _ hi hm2) (by omega) hq) ?_
      have fin : ∀ (jump : Option Code) (W3 : World), Mod M W2 W3 → ∃ W4, (Instr.endRound (w.heap.size + 1) jump).run P W3 = .ok (.bool jump.isNone) W4 ∧ Mod (T ++ [w.heap.size, w.heap.size + 1]) W3 W4 ∧
          W4.heap[w.heap.size + 1]? = some (.loop (rec (if jump.isNone then .ready else .done) jump)) ∧ W4.heap[w.heap.size]? = some (.deferred (some [])) ∧ ∀ k ∈ T, W4.heap[k]? = W.heap[k]? := fun jump W3 hk3 => by
        have hl3 : W3.heap[w.heap.size + 1]? = some (.loop { rec .ready none with state := .busy }) := (hk3.block _ (by omega) (hnM _ (by omega))).trans hl2
        have hd3 : W3.heap[w.heap.size]? = some (.deferred (some [])) := (hk3.block _ (by omega) (hnM _ (by omega))).trans hk2
        have hrun := run_endRound (P := P) jump hl3
        refine ⟨_, hrun, pb W3 _, ?_, (World.putObj_heap_other (by omega)).trans hd3, fun k hkT => ?_⟩
        · rw [World.putObj_heap_same (Array.getElem?_eq_some_iff.1 hl3).1, ← hrec]
        · have := hT k hkT
          exact (World.putObj_heap_other (by omega)).trans ((hk3.block _ (by omega) fun hm => (hM k hm).2 hkT).trans (hT2 k hkT))
      rintro e a3 W3 hp
      cases e with
      | normal =>
        obtain ⟨W4, h1, h2, h3, h4, h5⟩ := fin none W3 hp.1
        exact ⟨_, _, h1, .inl ⟨rfl, ⟨hI _ _ _ hp.2 h2, h3, h4⟩, h5⟩⟩
      | ret =>
        obtain ⟨W4, h1, h2, h3, h4, h5⟩ := fin (some .ret) W3 hp.1
        exact ⟨_, _, h1, .inr ⟨rfl, .ret, hIx _ _ _ _ hp.2 h2, h3, h4⟩⟩
      | exit id =>
        obtain ⟨W4, h1, h2, h3, h4, h5⟩ := fin (some (.exit id)) W3 hp.1
        exact ⟨_, _, h1, .inr ⟨rfl, .exit id, hIx _ _ _ _ hp.2 h2, h3, h4⟩⟩
      | goto t =>
        obtain ⟨W4, h1, h2, h3, h4, h5⟩ := fin (some (.goto t)) W3 hp.1
        exact ⟨_, _, h1, .inr ⟨rfl, .goto t, hIx _ _ _ _ hp.2 h2, h3, h4⟩⟩
      | panic ch => exact hp.elim
      | outgrown => exact hp.elim
    · intro k hk
      have := hT k hk
      rw [← hW1]
      exact (Below.heap_alloc _ _ _ (by simp; omega)).trans (Below.heap_alloc _ _ _ this)
    · rintro e W2 ⟨⟨v, rfl⟩, (⟨hi, hl, hk⟩ | ⟨pre, hpre, c, hi, hl, hk⟩)⟩
      · have hend := run_endLoop (P := P) hl (by rw [hr1]; simp)
        rw [show (rec .ready none).pending = none by rw [← hrec]] at hend
        exact ⟨none, _, hend, hdone _ (hI _ _ _ hi (pb W2 _)) ((World.putObj_heap_other (by omega)).trans hk)⟩
      · have hend := run_endLoop (P := P) hl (by rw [hr1]; simp)
        rw [show (rec .done (some c)).pending = some c by rw [← hrec]] at hend
        exact ⟨some c, _, hend, hstop c pre _ hpre (hIx _ _ _ _ hi (pb W2 _)) ((World.putObj_heap_other (by omega)).trans hk)⟩
end Go.Proofs.YthnakiihenbcjaaDoor
