import Derived.Test.YtoflbpmbkmephaaGreatDoorPkConfigGrows3
set_option linter.unusedSimpArgs false
set_option linter.unusedVariables false
set_option linter.unusedSectionVars false
set_option maxRecDepth 100000
set_option maxHeartbeats 40000000
namespace Go.Proofs.YtoflbpmbkmephaaGreatDoor
open Go.RowKit Go.Shelf
attribute [local go_sem] Oper.semAt_some
def bodyKeep {α : Type} (K : List Nat) (I : List α → World → Prop) (Ix : Code → List α → World → Prop) (xs : List α) (W : World) : Exit → Act → World → Prop
  | .normal, _, W' => (∀ k ∈ K, W'.heap[k]? = W.heap[k]?) ∧ I xs W'
  | .ret, _, W' => (∀ k ∈ K, W'.heap[k]? = W.heap[k]?) ∧ Ix .ret xs W'
  | .exit id, _, W' => (∀ k ∈ K, W'.heap[k]? = W.heap[k]?) ∧ Ix (.exit id) xs W'
  | .goto t, _, W' => (∀ k ∈ K, W'.heap[k]? = W.heap[k]?) ∧ Ix (.goto t) xs W'
  | _, _, _ => False
def SeqKeep {α : Type} (P : Program) (m gf : Nat) (lb : Array Value) (encs : α → Array Value) (T : List Nat) (S : List α) (w : World) : Prop :=
  ∀ (l : Nat) (J Jx : List α → World → Prop) (W : World),
    (∀ pre W1 k (v : Value), k ∈ T → J pre W1 → J pre (W1.setCell ⟨k, 0, none⟩ v)) → (∀ pre W1, J pre W1 → J pre W1.drew) →
    (∀ pre x W1, J pre W1 → (∃ q, pre ++ x :: q = S) → YieldAt Fence.wide (m - 1) P l (encs x) W1 fun e W' =>
      (e = .returned (.bool true) ∧ J (pre ++ [x]) W' ∧ ∀ k ∈ T, W'.heap[k]? = W1.heap[k]?) ∨ (e = .returned (.bool false) ∧ Jx (pre ++ [x]) W')) →
    (∀ k ∈ T, W.heap[k]? = w.heap[k]?) → J [] W →
    CallsIn Fence.wide m P gf (#[.func (.yield l) #[] #[]] ++ lb) W fun e W' => (∃ v, e = .returned v) ∧ (J S W' ∨ ∃ pre, pre <+: S ∧ Jx pre W')
theorem Lp {α : Type} {P : Program} {g : Operand} {ps : Array Tmp} {assign body : Code} {Q : Exit → Act → World → Prop} {a : Act} {w : World} {m gf : Nat} {lb : Array Value}
    (hg : a.eval g = .func (.func gf) #[] lb) (eg : ∀ args w, (callFunc gf args).run P w = .ok (.enter gf args) w) {encs : α → Array Value} (hps : ∀ x, (encs x).size = ps.size)
    (T : List Nat) (hT : ∀ k ∈ T, k < w.heap.size) {S : List α} (iter : SeqKeep P (m - 1) gf lb encs T S w)
    (I : List α → World → Prop) (Ix : Code → List α → World → Prop) (hI : ∀ xs W W', I xs W → Mod (T ++ [w.heap.size, w.heap.size + 1]) W W' → I xs W') (hIx : ∀ c xs W W', Ix c xs W → Mod (T ++ [w.heap.size, w.heap.size + 1]) W W' → Ix c xs W')
    (h0 : I [] w) (a₁ : α → Act)
    (hassign : ∀ (l : Nat) (x : α) (W : World) (K : Act → World → Prop), K (a₁ x) W →
      assign.wpIn (Fence.wide.inRound l) (m - 1 - 1) P (Exit.then K (fun _ _ _ => False)) { tmps := (ps.zip (encs x)).foldl (fun t (p, v) => t.setIfInBounds p v) a.tmps, defers := [] } W)
    (hbody : ∀ (l : Nat) (pre : List α) (x : α) (W : World), I pre W → w.heap.size + 2 ≤ W.heap.size → (∃ q, pre ++ x :: q = S) → body.wpIn (Fence.wide.inRound l) (m - 1 - 1) P (bodyKeep (T ++ [w.heap.size, w.heap.size + 1]) I Ix (pre ++ [x]) W) (a₁ x) W)
    (hdone : ∀ (W : World), I S W → W.heap[w.heap.size]? = some (.deferred (some [])) → Q .normal { a with defers := { target := .collected w.heap.size, args := #[] } :: a.defers } W)
    (hstop : ∀ (c : Code) (pre : List α) (W : World), pre <+: S → Ix c pre W → W.heap[w.heap.size]? = some (.deferred (some [])) → c.wpIn Fence.wide m P Q { a with defers := { target := .collected w.heap.size, args := #[] } :: a.defers } W) :
    (Code.rangeFunc g ps assign body).wpIn Fence.wide m P Q a w := by
  refine wpIn_rangeFunc fun fn _ => ?_
  have hnT : ∀ j, w.heap.size ≤ j → j ∉ T := fun j hj hm => by have := hT j hm; omega
  generalize hrec : (fun st pe => ({ state := st, pending := pe, fn, tmps := a.tmps, params := ps, assign, body, defers := w.heap.size } : Loop)) = rec
  have hr1 : ∀ st pe, (rec st pe).state = st := fun st pe => by rw [← hrec]
  generalize hW1 : (w.alloc (.deferred (some []))).alloc (.loop (rec .ready none)) = W1
  have hmod1 : Mod (T ++ [w.heap.size, w.heap.size + 1]) w W1 := by rw [← hW1]; exact ((Mod.refl _ w).alloc _).alloc _
  have hL1 : W1.heap[w.heap.size + 1]? = some (.loop (rec .ready none)) := by
    rw [← hW1]
    have := World.alloc_heap_new (w.alloc (.deferred (some []))) (.loop (rec .ready none))
    rwa [World.size_alloc] at this
  have hK1 : W1.heap[w.heap.size]? = some (.deferred (some [])) := by
    rw [← hW1]
    exact (Below.heap_alloc _ _ _ (by simp)).trans (World.alloc_heap_new w _)
  have pb : ∀ (W : World) (o : Obj), Mod (T ++ [w.heap.size, w.heap.size + 1]) W (W.putObj (w.heap.size + 1) o) := fun W o => (Ue W _ o).more (by simp)
  refine ⟨w.heap.size + 1, [{ target := .collected w.heap.size, args := #[] }], W1, { target := .fn (.func gf) lb, args := #[.func (.yield (w.heap.size + 1)) #[] #[]] }, W1, gf, #[.func (.yield (w.heap.size + 1)) #[] #[]] ++ lb, W1, ?_, ?_, fun _ _ => trivial, ?_, fun h => (by cases h), ?_⟩
  · rw [← hW1, ← hrec]
    exact run_enterLoop_outer _ _ _ _ _
  · simp only [resolve, hg]
    simp [go_sem]
  · simp [invoke, go_sem, eg]
  · refine (iter (w.heap.size + 1) (fun pre W => I pre W ∧ W.heap[w.heap.size + 1]? = some (.loop (rec .ready none)) ∧ W.heap[w.heap.size]? = some (.deferred (some [])))
      (fun pre W => ∃ c, Ix c pre W ∧ W.heap[w.heap.size + 1]? = some (.loop (rec .done (some c))) ∧ W.heap[w.heap.size]? = some (.deferred (some []))) W1 ?_ ?_ ?_ ?_ ⟨hI _ _ _ h0 hmod1, hL1, hK1⟩).mono ?_
    · rintro pre W k v hk ⟨h1, h2, h3⟩
      have hlt := hT k hk
      exact ⟨hI _ _ _ h1 ((Ea W k v).more fun j hj => by
        have : j = k := by simpa using hj
        subst this
        simp [hk]), (Xw (by omega)).trans h2, (Xw (by omega)).trans h3⟩
    · rintro pre W ⟨h1, h2, h3⟩
      exact ⟨hI _ _ _ h1 (Xb ((Below.refl _ W).drew) _), h2, h3⟩
    · rintro pre x W ⟨hi, hl, hk⟩ hq
      have hlt : w.heap.size + 1 < W.heap.size := (Array.getElem?_eq_some_iff.1 hl).1
      have hy := run_yield (P := P) (args := encs x) hl (by rw [← hrec]; exact hps x)
      rw [← hrec] at hy
      dsimp only at hy
      refine ⟨fn, _, assign, body, hy, ?_⟩
      refine roundIn_of_wpIn trivial ?_
      refine hassign _ x W _ ?_
      refine ⟨_, run_beginRound hl (hr1 _ _), ?_⟩
      generalize hW2 : W.putObj (w.heap.size + 1) (.loop { rec .ready none with state := .busy }) = W2
      have hm2 : Mod (T ++ [w.heap.size, w.heap.size + 1]) W W2 := by rw [← hW2]; exact pb W _
      have hs2 : W2.heap.size = W.heap.size := by rw [← hW2]; simp
      have hl2 : W2.heap[w.heap.size + 1]? = some (.loop { rec .ready none with state := .busy }) := by rw [← hW2]; exact World.putObj_heap_same hlt
      have hk2 : W2.heap[w.heap.size]? = some (.deferred (some [])) := by rw [← hW2]; exact (World.putObj_heap_other (by omega)).trans hk
      have hT2 : ∀ k ∈ T, W2.heap[k]? = W.heap[k]? := fun k hkT => by rw [← hW2]; exact World.putObj_heap_other (by have := hT k hkT; omega)
      refine wpIn_mono (hbody _ pre x W2 (hI _ _ _ hi hm2) (by omega) hq) ?_
      have fin : ∀ (jump : Option Code) (W3 : World), (∀ k ∈ T ++ [w.heap.size, w.heap.size + 1], W3.heap[k]? = W2.heap[k]?) → ∃ W4, (Instr.endRound (w.heap.size + 1) jump).run P W3 = .ok (.bool jump.isNone) W4 ∧ Mod (T ++ [w.heap.size, w.heap.size + 1]) W3 W4 ∧
          W4.heap[w.heap.size + 1]? = some (.loop (rec (if jump.isNone then .ready else .done) jump)) ∧ W4.heap[w.heap.size]? = some (.deferred (some [])) ∧ ∀ k ∈ T, W4.heap[k]? = W.heap[k]? := fun jump W3 hk3 => by
        have hl3 : W3.heap[w.heap.size + 1]? = some (.loop { rec .ready none with state := .busy }) := (hk3 _ (by simp)).trans hl2
        have hd3 : W3.heap[w.heap.size]? = some (.deferred (some [])) := (hk3 _ (by simp)).trans hk2
        have hrun := run_endRound (P := P) jump hl3
        refine ⟨_, hrun, pb W3 _, ?_, (World.putObj_heap_other (by omega)).trans hd3, fun k hkT => ?_⟩
        · rw [World.putObj_heap_same (Array.getElem?_eq_some_iff.1 hl3).1, ← hrec]
        · have := hT k hkT
          exact (World.putObj_heap_other (by omega)).trans ((hk3 _ (by simp [hkT])).trans (hT2 k hkT))
      rintro e a3 W3 hp
      cases e with
      | normal =>
        obtain ⟨W4, h1, h2, h3, h4, h5⟩ := fin none W3 hp.1
        exact ⟨_, _, h1, .inl ⟨rfl, ⟨hI _ _ _ hp.2 h2, h3, h4⟩, h5⟩⟩
      | ret =>
        obtain ⟨W4, h1, h2, h3, h4, h5⟩ := fin (some .ret) W3 hp.1
        exact ⟨_, _, h1, .inr ⟨rfl, .ret, hIx _ _ _ _ hp.2 h2, h3, h4⟩⟩
      | exit id =>
        obtain ⟨W4, h1, h2, h3, h4, h5⟩ := fin (some (.exit id)) W3 hp.1
        exact ⟨_, _, h1, .inr ⟨rfl, .exit id, hIx _ _ _ _ hp.2 h2, h3, h4⟩⟩
      | goto t =>
        obtain ⟨W4, h1, h2, h3, h4, h5⟩ := fin (some (.goto t)) W3 hp.1
        exact ⟨_, _, h1, .inr ⟨rfl, .goto t, hIx _ _ _ _ hp.2 h2, h3, h4⟩⟩
      | panic ch => exact hp.elim
      | outgrown => exact hp.elim
    · intro k hk
      have := hT k hk
      rw [← hW1]
      exact (Below.heap_alloc _ _ _ (by simp; omega)).trans (Below.heap_alloc _ _ _ this)
    · rintro e W2 ⟨⟨v, rfl⟩, (⟨hi, hl, hk⟩ | ⟨pre, hpre, c, hi, hl, hk⟩)⟩
      · have hend := run_endLoop (P := P) hl (by rw [hr1]; simp)
        rw [show (rec .ready none).pending = none by rw [← hrec]] at hend
        exact ⟨none, _, hend, hdone _ (hI _ _ _ hi (pb W2 _)) ((World.putObj_heap_other (by omega)).trans hk)⟩
      · have hend := run_endLoop (P := P) hl (by rw [hr1]; simp)
        rw [show (rec .done (some c)).pending = some c by rw [← hrec]] at hend
        exact ⟨some c, _, hend, hstop c pre _ hpre (hIx _ _ _ _ hi (pb W2 _)) ((World.putObj_heap_other (by omega)).trans hk)⟩
end Go.Proofs.YtoflbpmbkmephaaGreatDoor
namespace Go.Proofs.YtoflbpmbkmephaaGreatDoor
open Go.RowKit Go.Shelf
attribute [local go_sem] Oper.semAt_some
def Ys : List UInt8 → List (List UInt8)
  | [] => []
  | x :: r => if x = 10 then [x] :: Ys r else match Ys r with | [] => [[x]] | p :: ps => (x :: p) :: ps
theorem Ka {s : List UInt8} (hs : s ≠ []) : (Lib.indexByte s 10 = -1 ∧ Ys s = [s] ∧ (10 : UInt8) ∉ s) ∨ ∃ i : Nat, Lib.indexByte s 10 = (i : Int) ∧ i < s.length ∧ s[i]? = some 10 ∧ (10 : UInt8) ∉ s.take i ∧ Ys s = s.take (i + 1) :: Ys (s.drop (i + 1)) := by
  induction s with
  | nil => exact absurd rfl hs
  | cons x r ih =>
    by_cases h : x = 10
    · subst h
      refine .inr ⟨0, ?_, by simp, rfl, by simp, ?_⟩
      · simp [Lib.indexByte]
      · simp [Ys]
    · have hb : (x == 10) = false := by simpa using h
      by_cases hr : r = []
      · subst hr
        refine .inl ⟨?_, ?_, ?_⟩
        · simp [Lib.indexByte, hb]
        · unfold Ys; rw [if_neg h]; rfl
        · simp; exact fun e => h e.symm
      · rcases ih hr with ⟨h1, h2, h3⟩ | ⟨i, h1, h2, h3, h4, h5⟩
        · refine .inl ⟨?_, ?_, ?_⟩
          · simp [Lib.indexByte, hb, h1]
          · unfold Ys; rw [if_neg h, h2]
          · simp [h3]; exact fun e => h e.symm
        · refine .inr ⟨i + 1, ?_, by simpa using h2, by simpa using h3, ?_, ?_⟩
          · have h0 : (Lib.indexByte r 10 == -1) = false := by rw [h1, beq_eq_false_iff_ne]; omega
            simp only [Lib.indexByte, hb, h0, h1]
            simp
          · simp [h4]; exact fun e => h e.symm
          · rw [List.take_succ_cons, List.drop_succ_cons]
            conv => lhs; unfold Ys
            rw [if_neg h, h5]
def LBox (W : World) (b : Nat) (r : List UInt8) : Prop := W.heap[b]? = some (.cells #[.string ⟨r.toArray⟩] 9 (0, 0))
theorem Ri {W : World} {b : Nat} {r : List UInt8} (h : LBox W b r) : Bx W b = r.length := by
  unfold Bx
  rw [N3 h]
  exact Ji r
theorem Lq (m : Nat) (l b : Nat) (s : List UInt8) (hs : s.length ≤ maxLen) (J Jx : List (List UInt8) → World → Prop)
    (hJ : ∀ pre W1 (v : Value), J pre W1 → J pre (W1.setCell ⟨b, 0, none⟩ v)) (hJd : ∀ pre W1, J pre W1 → J pre W1.drew)
    (hY : ∀ pre x r W1, J pre W1 → LBox W1 b r → (∃ q, pre ++ x :: q = Ys s) → YieldAt Fence.wide (m - 1) Tryz.prog l #[.string ⟨x.toArray⟩] W1 fun e W' =>
      (e = .returned (.bool true) ∧ J (pre ++ [x]) W' ∧ W'.heap[b]? = W1.heap[b]?) ∨ (e = .returned (.bool false) ∧ Jx (pre ++ [x]) W'))
    (W : World) (hB : LBox W b s) (h0 : J [] W) :
    CallsIn Fence.wide m Tryz.prog 88 #[.func (.yield l) #[] #[], .pointer (some ⟨b, 0, none⟩)] W fun e W' => (∃ v, e = .returned v) ∧
      (J (Ys s) W' ∨ (∃ pre, pre <+: Ys s ∧ Jx pre W')) := by
  have c1 := N3 hB
  refine callsIn_of_wp Tryz.func88 rfl trivial ?_ rfl
  simp only [Tryz.ntmps88, List.size_toArray, List.length_cons, List.length_nil, Nat.reduceAdd, Nat.reduceSub, Array.replicate_succ, Array.replicate_zero, List.push_toArray, List.append_toArray, List.nil_append, List.cons_append]
  gi_wp2
  gi_loopw [4] (fun p wr => ∃ (pre : List (List UInt8)) (r : List UInt8), LBox wr b r ∧ pre ++ Ys r = Ys s ∧ r.length ≤ maxLen ∧ J pre wr) (fun p wr => Bx wr b)
  case atStart => exact ⟨[], s, hB, rfl, hs, h0⟩
  case round =>
    obtain ⟨pre, r, hb, hp, hr, hj⟩ := hrel
    have c1 := N3 hb
    have f1 := Gi hb
    have hrs := Ji r
    unfold maxLen at hr
    by_cases d : r = []
    · subst d
      gi_wp2
      go_end0
      exact ⟨⟨_, rfl⟩, .inl (by rw [← hp]; simpa [Ys] using hj)⟩
    · have hpos : 0 < r.length := List.length_pos_iff.2 d
      rcases Ka d with ⟨h1, h2, h3⟩ | ⟨i, h1, h2, h3, h4, h5⟩
      · have h1' : Lib.indexByte (⟨r.toArray⟩ : ByteArray).data.toList (10 : Int).toNat.toUInt8 = -1 := h1
        have a : LBox (wr.setCell ⟨b, 0, none⟩ (.string ⟨#[]⟩)) b [] := Yy hb
        obtain ⟨fn, tmps, assign, body, hy, hR⟩ := hY pre r [] (wr.setCell ⟨b, 0, none⟩ (.string ⟨#[]⟩)) (hJ _ _ _ hj) a ⟨[], by rw [← hp, h2]⟩
        gi_wp2_with (refine ⟨trivial, fun hh => (by cases hh), ?_⟩; gi_at_call 89; refine (callsIn_wide.2 (Tryz.strings_IndexByte (⟨r.toArray⟩ : ByteArray) 10 wr)).mono ?_; rintro e W3 ⟨rfl, rfl⟩; rw [h1'])
        refine ⟨fun hh => (by cases hh), ?_⟩
        refine hR.mono ?_
        rintro e W3 (⟨rfl, hJ3, hk⟩ | ⟨rfl, hJx3⟩)
        · have c : LBox W3 b [] := hk.trans a
          gi_wp2
          refine ⟨⟨pre ++ [r], [], c, by rw [← hp, h2]; simp [Ys], by simp, hJ3⟩, ?_⟩
          rw [Ri c, Ri hb]
          exact hpos
        · gi_wp2
          refine bodyPost_ret (results_none rfl _ _ _) rfl ?_
          exact ⟨⟨_, rfl⟩, .inr ⟨pre ++ [r], by rw [← hp, h2]; exact List.prefix_refl _, hJx3⟩⟩
      · have h1' : Lib.indexByte (⟨r.toArray⟩ : ByteArray).data.toList (10 : Int).toNat.toUInt8 = (i : Int) := h1
        gi_wp2_with (refine ⟨trivial, fun hh => (by cases hh), ?_⟩; gi_at_call 89; refine (callsIn_wide.2 (Tryz.strings_IndexByte (⟨r.toArray⟩ : ByteArray) 10 wr)).mono ?_; rintro e W3 ⟨rfl, rfl⟩; rw [h1'])
        gi_region
        have hex := Ny r 0 (i + 1) (by omega)
        rw [List.drop_zero] at hex
        have hex2 := Ny r (i + 1) r.length (Nat.le_refl _)
        rw [List.take_length] at hex2
        rw [hex, hex2]
        have a : LBox ((W3.setCell ⟨b, 0, none⟩ (.string ⟨(r.drop (i + 1)).toArray⟩)).drew) b (r.drop (i + 1)) := Yy hb
        obtain ⟨fn, tmps, assign, body, hy, hR⟩ := hY pre (r.take (i + 1)) (r.drop (i + 1)) _ (hJd _ _ (hJ _ _ _ hj)) a ⟨Ys (r.drop (i + 1)), by rw [← hp, h5]⟩
        gi_wp2
        refine ⟨fun hh => (by cases hh), ?_⟩
        refine hR.mono ?_
        rintro e W4 (⟨rfl, hJ3, hk⟩ | ⟨rfl, hJx3⟩)
        · have c : LBox W4 b (r.drop (i + 1)) := hk.trans a
          gi_wp2
          refine ⟨⟨pre ++ [r.take (i + 1)], r.drop (i + 1), c, by rw [← hp, h5]; simp, by unfold maxLen; rw [List.length_drop]; omega, hJ3⟩, ?_⟩
          rw [Ri c, Ri hb, List.length_drop]
          omega
        · gi_wp2
          refine bodyPost_ret (results_none rfl _ _ _) rfl ?_
          exact ⟨⟨_, rfl⟩, .inr ⟨pre ++ [r.take (i + 1)], ⟨Ys (r.drop (i + 1)), by rw [← hp, h5]; simp⟩, hJx3⟩⟩
end Go.Proofs.YtoflbpmbkmephaaGreatDoor
namespace Go.Proofs.YtoflbpmbkmephaaGreatDoor
open Go.RowKit Go.Shelf
attribute [local go_sem] Oper.semAt_some
abbrev StP := Int × Int × Int × Int × List Qb × Int × Bool
def Lr (st : StP) (x : List UInt8) : Option (Bool × StP) := Zl st.1 st.2.1 st.2.2.1 st.2.2.2.1 st.2.2.2.2.1 st.2.2.2.2.2.1 st.2.2.2.2.2.2 x
def Jt : List (List UInt8) → StP → Option (Sum Int StP)
  | [], st => some (.inr st)
  | x :: xs, st => (Lr st x).bind fun r => cond r.1 (Jt xs r.2) (some (.inl st.2.2.2.2.2.1))
theorem Gz : ∀ (pre ys : List (List UInt8)) (st : StP), Jt (pre ++ ys) st = (Jt pre st).bind fun z => match z with | .inl a => some (.inl a) | .inr st => Jt ys st
  | [], ys, st => rfl
  | x :: pre, ys, st => by
    rw [List.cons_append]
    cases h : Lr st x with
    | none => simp only [Jt, h, Option.bind_none]
    | some r =>
      obtain ⟨b, r⟩ := r
      cases b
      · simp only [Jt, h, Option.bind_some, cond_false]
      · simp only [Jt, h, Option.bind_some, cond_true]
        exact Gz pre ys r
def st0P : StP := (0, 0, 0, 0, [], 0, false)
def Zp (s : List UInt8) : Option (Int × Int × Int × Int × List Qb × Int × Int) :=
  cond (decide (((List.length s : Nat) : Int) > 4096)) (some (0, 0, 0, 0, [], 2, 0))
    ((Jt (Ys s) st0P).bind fun z => match z with
      | .inl a => some (0, 0, 0, 0, [], 91, a)
      | .inr st => cond (st.2.2.2.2.2.1 == 0) (some (0, 0, 0, 0, [], 91, 0)) (some (st.1, st.2.1, st.2.2.1, st.2.2.2.1, st.2.2.2.2.1, 0, 0)))
theorem lines_any (s : ByteArray) (w : World) : Calls Tryz.prog 40 #[.string s] w fun e w' =>
    e = .returned (.func (.func 88) #[] #[.pointer (some ⟨w.heap.size, 0, none⟩)]) ∧ w' = w.alloc (.cells #[.string s] 9) := by
  go_enter Tryz.func40, Tryz.ntmps40
  go_wp2
  go_ret
  exact ⟨rfl, rfl⟩
theorem SP.other {w W W' : World} {es : List Ent} {K : List Nat} (h : SP [] w W es) (hm : Mod K W W') (h1 : ∀ k ∈ K, w.heap.size ≤ k) (h2 : ∀ e ∈ es, ∀ k ∈ e.fp, k ∉ K) : SP [] w W' es :=
  ⟨⟨hm.os.trans h.mod.os, hm.tape.trans h.mod.tape, hm.output.trans h.mod.output, Nat.le_trans h.mod.size hm.size, fun k hk hn => (hm.block k (Nat.lt_of_lt_of_le hk h.mod.size) fun hk' => by have := h1 k hk'; omega).trans (h.mod.block k hk hn)⟩,
    h.own.keep hm.size fun e he k hk => hm.block k (h.own.mem he |>.2 k hk).2 (h2 e he k hk)⟩
theorem SP.nilten {S : List Nat} {w W : World} {es : List Ent} (h : SP S w W es) : SP S w W (es ++ [Yx none 0 []]) :=
  h.push (Below.refl _ _) ⟨World.ownsRow_nil W 0 _ _, ⟨fun y hy => (by cases hy), List.nodup_nil⟩, List.nodup_nil⟩ (fun k hk => (by cases hk))
theorem U7 {fn : Func} {P : Program} {w : World} {a b c : Tmp} {ta tb tc : TypeId} (h : fn.results = #[.cell a ta, .cell b tb, .cell c tc]) (tmps : Array Value) {g1 g2 g3 : Nat} {c1 c2 c3 : Array Value} {e1 e2 e3 : TypeId} {v1 v2 v3 : Value}
    (t1 : tmps.getD a undef = .pointer (some ⟨g1, 0, none⟩)) (t2 : tmps.getD b undef = .pointer (some ⟨g2, 0, none⟩)) (t3 : tmps.getD c undef = .pointer (some ⟨g3, 0, none⟩))
    (h1 : w.heap[g1]? = some (.cells c1 e1 (0, 0))) (h2 : w.heap[g2]? = some (.cells c2 e2 (0, 0))) (h3 : w.heap[g3]? = some (.cells c3 e3 (0, 0))) (l1 : Fu P ta 0 c1 = some v1) (l2 : Fu P tb 0 c2 = some v2) (l3 : Fu P tc 0 c3 = some v3) :
    (results fn tmps).run P w = .ok (.tuple #[v1, v2, v3]) w := by
  have k1 := Nt (w := w) l1 h1
  have k2 := Nt (w := w) l2 h2
  have k3 := Nt (w := w) l3 h3
  have t1' : tmps[a]?.getD undef = .pointer (some ⟨g1, 0, none⟩) := by simpa using t1
  have t2' : tmps[b]?.getD undef = .pointer (some ⟨g2, 0, none⟩) := by simpa using t2
  have t3' : tmps[c]?.getD undef = .pointer (some ⟨g3, 0, none⟩) := by simpa using t3
  simp [results, h, t1', t2', t3', asAddr, Sem.run_bind, Result.andThen, k1, k2, k3]
theorem SP.cell1 {S : List Nat} {w w0 : World} {es : List Ent} {i g off : Nat} {t : TypeId} {cs : Array Value} (v : Value) (hs : SP S w0 w es) (hi : es[i]? = some (Qq g t cs)) : SP S w0 (w.setCell ⟨g, off, none⟩ v) (es.set i (Qq g t (cs.setIfInBounds off v))) := by
  have hg : w.heap[g]? = some (.cells cs t (0, 0)) := hs.get hi
  have hlt : g < w.heap.size := (Array.getElem?_eq_some_iff.1 hg).1
  refine hs.set hi (T := [g]) ((Mod.refl [g] w).setCell (p := ⟨g, off, none⟩) (.inl (by simp)) _) (fun k hk => hk) ?_ fun k hk => ⟨.inl hk, ?_⟩
  · show (w.setCell ⟨g, off, none⟩ _).heap[g]? = _
    simp [World.setCell, hg, Array.getElem?_modify]
  · have : k = g := by simpa [Qq] using hk
    subst this
    simpa [World.setCell] using hlt
theorem Ub {W : World} {b off : Nat} {cs : Array Value} {v : Value} {t : TypeId} (h : W.heap[b]? = some (.cells cs t (0, 0))) (hv : cs[off]? = some v) : W.cell? ⟨b, off, none⟩ = some v := by rw [cell_of_row W b off _ t _ h]; exact hv
theorem Jm {W : World} {b off : Nat} {cs : Array Value} {t : TypeId} (h : W.heap[b]? = some (.cells cs t (0, 0))) : W.frozen? ⟨b, off, none⟩ = false := by simp [World.frozen?, h]
theorem V6 {W : World} {b off k : Nat} {v : Value} (h : k ≠ b) : (W.setCell ⟨b, off, none⟩ v).heap[k]? = W.heap[k]? := by
  simp [World.setCell, Array.getElem?_modify, Ne.symm h]
theorem alloc_at' {w : World} {o : Obj} {k : Nat} (h : k = w.heap.size) : (w.alloc o).heap[k]? = some o := by subst h; exact World.alloc_heap_new w o
def cfg0 : Array Value := #[.int .i64 0, .int .i64 0, .int .i64 0, .int .i64 0, .slice none 0 0]
def Ic (g : Nat) (st : StP) (A : Option Addr) (c : Nat) (d : List Qh) : List Ent :=
  [Qq g 24 cfg0, Qq (g + 1) 27 #[.int .i64 0], Qq (g + 1 + 1) 3 #[.int .i64 0],
    Qq (g + 1 + 1 + 1) 72 #[.int .i64 st.1, .int .i64 st.2.1, .int .i64 st.2.2.1, .int .i64 st.2.2.2.1, .slice A (List.length (List.map stT d)) c, .int .i64 st.2.2.2.2.2.1, .bool st.2.2.2.2.2.2],
    Qq (g + 1 + 1 + 1 + 1) 70 #[.pointer (some ⟨g + 1 + 1 + 1, 0, none⟩)], Yx A c d]
theorem Y7 (s : List UInt8) (w : World) (hL : U9 w) (r : Int × Int × Int × Int × List Qb × Int × Int) (H : Zp s = some r) :
    Calls Tryz.prog 16 #[.string ⟨List.toArray s⟩] w (fun e w' => ∃ (A : Option Addr) (c : Nat) (d : List Qh), e = .returned (.tuple #[(.agg #[(.int .i64 r.1), (.int .i64 r.2.1), (.int .i64 r.2.2.1), (.int .i64 r.2.2.2.1), (.slice A (List.length (List.map stT d)) c)]), (.int .i64 r.2.2.2.2.2.1), (.int .i64 r.2.2.2.2.2.2)]) ∧ r.2.2.2.2.1 = List.map stT d ∧ SP [] w w' [Yx A c d]) := by
  refine (callsIn_wide (n := 3)).1 ?_
  refine callsIn_of_wp_marks Tryz.func16 rfl trivial ?_ rfl
  simp only [Tryz.ntmps16, List.size_toArray, List.length_cons, List.length_nil, Nat.reduceAdd, Nat.reduceSub, Array.replicate_succ, Array.replicate_zero, List.push_toArray, List.append_toArray, List.nil_append, List.cons_append]
  by_cases hlen : (4096 : Int) < ((List.length s : Nat) : Int)
  · have hr : r = (0, 0, 0, 0, [], 2, 0) := by
      unfold Zp at H
      rw [show decide (((List.length s : Nat) : Int) > 4096) = true from decide_eq_true hlen] at H
      injection H with H
      exact H.symm
    subst hr
    have s3 := (((Q1 [] w).alloc (t := 24) (cs := #[.int .i64 0, .int .i64 0, .int .i64 0, .int .i64 0, .slice none 0 0])).alloc (t := 27) (cs := #[.int .i64 2])).alloc (t := 3) (cs := #[.int .i64 0])
    gi_wp2
    refine ⟨_, U7 rfl _ rfl rfl rfl (s3.get (i := 0) rfl) (by have h := s3.get (i := 1) rfl; rw [World.size_alloc] at h; exact h) (by have h := s3.get (i := 2) rfl; rw [World.size_alloc, World.size_alloc] at h; exact h) (by kernel_rfl) (by kernel_rfl) (by kernel_rfl), none, 0, [], rfl, rfl, ?_⟩
    exact (s3.nilten).erase 0 rfl |>.erase 0 rfl |>.erase 0 rfl
  · gi_wp2_with (refine ⟨trivial, ?_⟩; gi_at_call 40; refine (callsIn_wide.2 (lines_any _ _)).mono ?_; rintro e w' ⟨rfl, rfl⟩)
    have hsl : s.length ≤ maxLen := by unfold maxLen; omega
    have hz : ∃ z, Jt (Ys s) st0P = some z := by
      unfold Zp at H
      rw [show decide (((List.length s : Nat) : Int) > 4096) = false from decide_eq_false (by omega)] at H
      obtain ⟨z, hz, _⟩ := Qd (show (Jt (Ys s) st0P).bind _ = some r from H)
      exact ⟨z, hz⟩
    obtain ⟨z, hz⟩ := hz
    have s5 := ((((((Q1 [] w).alloc (t := 24) (cs := #[.int .i64 0, .int .i64 0, .int .i64 0, .int .i64 0, .slice none 0 0])).alloc (t := 27) (cs := #[.int .i64 0])).alloc (t := 3) (cs := #[.int .i64 0])).alloc (t := 72) (cs := #[.int .i64 0, .int .i64 0, .int .i64 0, .int .i64 0, .slice none 0 0, .int .i64 0, .bool false])).alloc (t := 70) (cs := #[.pointer (some ⟨w.heap.size + 1 + 1 + 1, 0, none⟩)])).nilten
    simp only [World.size_alloc, List.nil_append, List.cons_append] at s5
    have s6 := s5.below ((Below.refl _ _).alloc (Nat.le_refl _) (.cells #[.string ⟨s.toArray⟩] 9))
    generalize hw6 : ((((((w.alloc (Obj.cells #[Value.int IntKind.i64 0, Value.int IntKind.i64 0, Value.int IntKind.i64 0, Value.int IntKind.i64 0, Value.slice none 0 0] 24)).alloc (Obj.cells #[Value.int IntKind.i64 0] 27)).alloc (Obj.cells #[Value.int IntKind.i64 0] 3)).alloc (Obj.cells #[Value.int IntKind.i64 0, Value.int IntKind.i64 0, Value.int IntKind.i64 0, Value.int IntKind.i64 0, Value.slice none 0 0, Value.int IntKind.i64 0, Value.bool false] 72)).alloc (Obj.cells #[Value.pointer (some { block := w.heap.size + 1 + 1 + 1, off := 0 })] 70)).alloc (Obj.cells #[Value.string { data := s.toArray }] 9)) = w6 at s6 ⊢
    have hsz6 : w6.heap.size = w.heap.size + 6 := by rw [← hw6]; simp
    have hbox : LBox w6 (w.heap.size + 1 + 1 + 1 + 1 + 1) s := by rw [← hw6]; exact alloc_at' (by simp)
    clear hw6
    refine Lp (gf := 88) (lb := #[.pointer (some ⟨w.heap.size + 1 + 1 + 1 + 1 + 1, 0, none⟩)]) rfl (enters_of Tryz.func88 (by kernel_rfl) rfl) (encs := fun x : List UInt8 => #[.string ⟨x.toArray⟩]) (fun _ => rfl) [w.heap.size + 1 + 1 + 1 + 1 + 1]
      (by intro k hk; simp at hk; omega) (S := Ys s) ?iter
      (fun pre W => ∃ (st : StP) (A : Option Addr) (c : Nat) (d : List Qh), Jt pre st0P = some (.inr st) ∧ st.2.2.2.2.1 = List.map stT d ∧ SP [] w W (Ic w.heap.size st A c d) ∧ (∀ k ∈ (Yx A c d).fp, k < w.heap.size + 5 ∨ w.heap.size + 8 ≤ k))
      (fun c pre W => c = .ret ∧ ∃ a, Jt (Ys s) st0P = some (.inl a) ∧ SP [] w W [Qq w.heap.size 24 cfg0, Qq (w.heap.size + 1) 27 #[.int .i64 91], Qq (w.heap.size + 1 + 1) 3 #[.int .i64 a]]) ?hI ?hIx
      ⟨st0P, none, 0, [], rfl, rfl, s6, fun k hk => by cases hk⟩
      (fun x => { tmps := #[.string ⟨s.toArray⟩, undef, .pointer (some ⟨w.heap.size, 0, none⟩), .pointer (some ⟨w.heap.size + 1, 0, none⟩), .pointer (some ⟨w.heap.size + 1 + 1, 0, none⟩), .pointer (some ⟨w.heap.size + 1 + 1 + 1 + 1, 0, none⟩), .string ⟨x.toArray⟩, undef, .string ⟨s.toArray⟩, .int .i64 ((List.length s : Nat) : Int), .bool false, undef,
        .agg #[.int .i64 0, .int .i64 0, .int .i64 0, .int .i64 0, .slice none 0 0, .int .i64 0, .bool false], .pointer (some ⟨w.heap.size + 1 + 1 + 1, 0, none⟩), .string ⟨s.toArray⟩, .func (.func 88) #[] #[.pointer (some ⟨w.heap.size + 1 + 1 + 1 + 1 + 1, 0, none⟩)], .string ⟨x.toArray⟩, undef, undef, undef, undef, undef, undef, undef, undef, undef, undef, undef, undef, undef, undef, undef, undef, undef, undef, undef, undef], defers := [] }) ?assign ?body ?done ?stop
    case iter =>
      intro l J Jx W hJ hJd hY hT hJ0
      refine Lq _ l (w.heap.size + 1 + 1 + 1 + 1 + 1) s hsl J Jx (fun pre W1 v hj => hJ pre W1 _ v (by simp) hj) hJd (fun pre x r W1 hj hb hq => ?_) W ((hT _ (by simp)).trans hbox) hJ0
      obtain ⟨fn, tmps, assign, body, hy, hR⟩ := hY pre x W1 hj hq
      refine ⟨fn, tmps, assign, body, hy, hR.mono ?_⟩
      rintro e W' (⟨h1, h2, h3⟩ | h)
      · exact .inl ⟨h1, h2, h3 _ (by simp)⟩
      · exact .inr h
    case hI =>
      rintro xs W W' ⟨st, A, c, d, h1, h2, h3, h4⟩ hm
      refine ⟨st, A, c, d, h1, h2, h3.other hm (by intro k hk; simp at hk; omega) (fun e he k hk hK => ?_), h4⟩
      simp only [List.cons_append, List.nil_append, List.mem_cons, List.not_mem_nil, or_false, hsz6] at hK
      simp only [Ic, List.mem_cons, List.not_mem_nil, or_false] at he
      rcases he with rfl | rfl | rfl | rfl | rfl | rfl
      · have hk' : k = w.heap.size := by simpa [Qq] using hk
        omega
      · have hk' : k = w.heap.size + 1 := by simpa [Qq] using hk
        omega
      · have hk' : k = w.heap.size + 1 + 1 := by simpa [Qq] using hk
        omega
      · have hk' : k = w.heap.size + 1 + 1 + 1 := by simpa [Qq] using hk
        omega
      · have hk' : k = w.heap.size + 1 + 1 + 1 + 1 := by simpa [Qq] using hk
        omega
      · have := h4 k hk
        omega
    case hIx =>
      rintro cc xs W W' ⟨h0, a, h1, h3⟩ hm
      refine ⟨h0, a, h1, h3.other hm (by intro k hk; simp at hk; omega) (fun e he k hk hK => ?_)⟩
      simp only [List.cons_append, List.nil_append, List.mem_cons, List.not_mem_nil, or_false, hsz6] at hK
      simp only [List.mem_cons, List.not_mem_nil, or_false] at he
      rcases he with rfl | rfl | rfl
      · have hk' : k = w.heap.size := by simpa [Qq] using hk
        omega
      · have hk' : k = w.heap.size + 1 := by simpa [Qq] using hk
        omega
      · have hk' : k = w.heap.size + 1 + 1 := by simpa [Qq] using hk
        omega
    case assign =>
      intro l x W K hK
      gi_wp2
      exact hK
    case body =>
      rintro l pre x W ⟨⟨wa, gr, id, le, tl, mn, bd⟩, A, c, d, h1, h2, h3, h4⟩ hsz ⟨q, hq⟩
      have h2 : tl = List.map stT d := h2
      subst h2
      rw [hsz6] at hsz
      have hz' := hz
      rw [← hq, Gz, h1] at hz'
      simp only [Option.bind_some, Jt] at hz'
      obtain ⟨⟨b, rs⟩, hrr, hz'⟩ := Qd hz'
      have b4 : W.heap[w.heap.size + 1 + 1 + 1 + 1]? = some (.cells #[.pointer (some ⟨w.heap.size + 1 + 1 + 1, 0, none⟩)] 70 (0, 0)) := h3.get (i := 4) rfl
      have c4 := N3 b4
      have b3 := h3.get (i := 3) rfl
      have c35 : W.cell? ⟨w.heap.size + 1 + 1 + 1, 5, none⟩ = some (.int .i64 mn) := by rw [cell_of_row W _ 5 _ _ _ b3]; rfl
      have hw := Gk (w.heap.size + 1 + 1 + 1) A c wa gr id le d mn bd x W (fun w' hm => Q0 hL (Iv h3 (l := [3, 5]) rfl hm)) (Jw h3 [3, 5] rfl rfl) (b, rs) hrr
      have hfps : ∀ k, k ∈ (Hd (Ic w.heap.size (wa, gr, id, le, List.map stT d, mn, bd) A c d) [3, 5]).flatMap Ent.fp → k < w.heap.size + 5 ∨ w.heap.size + 8 ≤ k := by
        intro k hk
        obtain ⟨e, he, hke⟩ := List.mem_flatMap.1 hk
        obtain ⟨j, hj, hej⟩ := Ge he
        simp only [List.mem_cons, List.not_mem_nil, or_false] at hj
        rcases hj with rfl | rfl
        · injection hej with hej
          subst hej
          have hk' : k = w.heap.size + 1 + 1 + 1 := by simpa [Qq] using hke
          omega
        · injection hej with hej
          subst hej
          exact h4 k hke
      cases b with
      | true =>
        gi_wp2_with (refine ⟨trivial, ?_⟩; gi_at_call 41; refine (CallsIn.inRound l (callsIn_wide.2 hw)).mono ?_; rintro e W' ⟨A', c', d', rfl, hd', hs'⟩)
        have hl1 : Jt (pre ++ [x]) st0P = some (.inr rs) := by
          rw [Gz, h1]
          simp only [Option.bind_some, Jt]
          rw [show Lr (wa, gr, id, le, List.map stT d, mn, bd) x = some (true, rs) from hrr]
          rfl
        have hsp : SP [] w W' (Ic w.heap.size rs A' c' d') := SP.sel (Z2 h3 [3, 5] [0, 1, 2, 4] rfl rfl hs' rfl) [0, 1, 2, 4, 3, 5] rfl rfl
        have hfp : ∀ k ∈ (Yx A' c' d').fp, k < w.heap.size + 5 ∨ w.heap.size + 8 ≤ k := fun k hk => by
          rcases ((hs'.own.get (i := 1) rfl).2 k hk).1 with h | h
          · omega
          · exact hfps k h
        have hkeep : ∀ k ∈ [w.heap.size + 1 + 1 + 1 + 1 + 1] ++ [w6.heap.size, w6.heap.size + 1], W'.heap[k]? = W.heap[k]? := fun k hk => by
          simp only [List.cons_append, List.nil_append, List.mem_cons, List.not_mem_nil, or_false, hsz6] at hk
          refine hs'.mod.block k (by omega) fun hk' => ?_
          have := hfps k hk'
          omega
        gi_wp2
        exact ⟨hkeep, rs, A', c', d', hl1, hd', hsp, hfp⟩
      | false =>
        have hstop : Jt (Ys s) st0P = some (.inl mn) := by
          rw [← hq, Gz, h1]
          simp only [Option.bind_some, Jt]
          rw [show Lr (wa, gr, id, le, List.map stT d, mn, bd) x = some (false, rs) from hrr]
          rfl
        gi_wp2_with (refine ⟨trivial, ?_⟩; gi_at_call 41; refine (CallsIn.inRound l (callsIn_wide.2 hw)).mono ?_; rintro e W' ⟨A', c', d', rfl, hd', hs'⟩; have hsp : SP [] w W' (Ic w.heap.size rs A' c' d') := SP.sel (Z2 h3 [3, 5] [0, 1, 2, 4] rfl rfl hs' rfl) [0, 1, 2, 4, 3, 5] rfl rfl; have p0 := hsp.get (i := 0) rfl; have p1 := hsp.get (i := 1) rfl; have p2 := hsp.get (i := 2) rfl; have q0 := Ub (off := 0) p0 rfl; have q1 := Ub (off := 1) p0 rfl; have q2 := Ub (off := 2) p0 rfl; have q3 := Ub (off := 3) p0 rfl; have q4 := Ub (off := 4) p0 rfl; have q5 := Ub (off := 0) p1 rfl; have q6 := Ub (off := 0) p2 rfl; have f0 := Jm (off := 0) p0; have f1 := Jm (off := 1) p0; have f2 := Jm (off := 2) p0; have f3 := Jm (off := 3) p0; have f4 := Jm (off := 4) p0; have f5 := Jm (off := 0) p1; have f6 := Jm (off := 0) p2)
        have e7 := ((((((hsp.cell1 (off := 0) (.int .i64 0) (i := 0) rfl).cell1 (off := 1) (.int .i64 0) (i := 0) rfl).cell1 (off := 2) (.int .i64 0) (i := 0) rfl).cell1 (off := 3) (.int .i64 0) (i := 0) rfl).cell1 (off := 4) (.slice none 0 0) (i := 0) rfl).cell1 (off := 0) (.int .i64 91) (i := 1) rfl).cell1 (off := 0) (.int .i64 mn) (i := 2) rfl
        have hkeep : ∀ k ∈ [w.heap.size + 1 + 1 + 1 + 1 + 1] ++ [w6.heap.size, w6.heap.size + 1], W'.heap[k]? = W.heap[k]? := fun k hk => by
          simp only [List.cons_append, List.nil_append, List.mem_cons, List.not_mem_nil, or_false, hsz6] at hk
          refine hs'.mod.block k (by omega) fun hk' => ?_
          have := hfps k hk'
          omega
        refine ⟨fun k hk => ?_, rfl, mn, hstop, SP.sel e7 [0, 1, 2] rfl rfl⟩
        have hk2 := hkeep k hk
        simp only [List.cons_append, List.nil_append, List.mem_cons, List.not_mem_nil, or_false, hsz6] at hk
        exact (V6 (by omega)).trans ((V6 (by omega)).trans ((V6 (by omega)).trans ((V6 (by omega)).trans ((V6 (by omega)).trans ((V6 (by omega)).trans ((V6 (by omega)).trans hk2))))))
    case done =>
      rintro W ⟨⟨wa, gr, id, le, tl, mn, bd⟩, A, c, d, h1, h2, h3, h4⟩ hK
      rw [hsz6] at hK
      have h2 : tl = List.map stT d := h2
      subst h2
      unfold Zp at H
      rw [show decide (((List.length s : Nat) : Int) > 4096) = false from decide_eq_false (by omega)] at H
      have H : (Jt (Ys s) st0P).bind _ = some r := H
      rw [h1] at H
      have H : cond (mn == 0) (some ((0 : Int), (0 : Int), (0 : Int), (0 : Int), ([] : List Qb), (91 : Int), (0 : Int))) (some (wa, gr, id, le, List.map stT d, 0, 0)) = some r := H
      have p0 := h3.get (i := 0) rfl
      have p1 := h3.get (i := 1) rfl
      have p2 := h3.get (i := 2) rfl
      have p3 := h3.get (i := 3) rfl
      have p4 := h3.get (i := 4) rfl
      have q0 := Ub (off := 0) p0 rfl
      have q1 := Ub (off := 1) p0 rfl
      have q2 := Ub (off := 2) p0 rfl
      have q3 := Ub (off := 3) p0 rfl
      have q4 := Ub (off := 4) p0 rfl
      have q5 := Ub (off := 0) p1 rfl
      have q6 := Ub (off := 0) p2 rfl
      have f0 := Jm (off := 0) p0
      have f1 := Jm (off := 1) p0
      have f2 := Jm (off := 2) p0
      have f3 := Jm (off := 3) p0
      have f4 := Jm (off := 4) p0
      have f5 := Jm (off := 0) p1
      have f6 := Jm (off := 0) p2
      have r0 := Ub (off := 0) p3 rfl
      have r1 := Ub (off := 1) p3 rfl
      have r2 := Ub (off := 2) p3 rfl
      have r3 := Ub (off := 3) p3 rfl
      have r4 := Ub (off := 4) p3 rfl
      have r5 := Ub (off := 5) p3 rfl
      have u0 := Ub (off := 0) p4 rfl
      cases hm : (mn == 0) with
      | true =>
        rw [hm] at H
        injection H with H
        subst H
        gi_wp2
        have e7 := ((((((h3.cell1 (off := 0) (.int .i64 0) (i := 0) rfl).cell1 (off := 1) (.int .i64 0) (i := 0) rfl).cell1 (off := 2) (.int .i64 0) (i := 0) rfl).cell1 (off := 3) (.int .i64 0) (i := 0) rfl).cell1 (off := 4) (.slice none 0 0) (i := 0) rfl).cell1 (off := 0) (.int .i64 91) (i := 1) rfl).cell1 (off := 0) (.int .i64 0) (i := 2) rfl
        refine ⟨by simp, .inl ⟨_, _, rfl, run_takeDeferred ((V6 (by omega)).trans ((V6 (by omega)).trans ((V6 (by omega)).trans ((V6 (by omega)).trans ((V6 (by omega)).trans ((V6 (by omega)).trans ((V6 (by omega)).trans hK))))))), ?_⟩⟩
        have s2 := (SP.sel e7 [0, 1, 2, 5] rfl rfl : SP [] w _ [Qq w.heap.size 24 #[.int .i64 0, .int .i64 0, .int .i64 0, .int .i64 0, .slice none 0 0], Qq (w.heap.size + 1) 27 #[.int .i64 91], Qq (w.heap.size + 1 + 1) 3 #[.int .i64 0], Yx A c d]).other (Ue _ (w.heap.size + 6) (.deferred none)) (by intro k hk; simp at hk; omega) (fun e he k hk hK' => by
          simp only [List.mem_cons, List.not_mem_nil, or_false] at he hK'
          rcases he with rfl | rfl | rfl | rfl
          · have hk' : k = w.heap.size := by simpa [Qq] using hk
            omega
          · have hk' : k = w.heap.size + 1 := by simpa [Qq] using hk
            omega
          · have hk' : k = w.heap.size + 1 + 1 := by simpa [Qq] using hk
            omega
          · have := h4 k hk
            omega)
        exact ⟨_, U7 rfl _ rfl rfl rfl (s2.get (i := 0) rfl) (s2.get (i := 1) rfl) (s2.get (i := 2) rfl) (v1 := .agg #[.int .i64 0, .int .i64 0, .int .i64 0, .int .i64 0, .slice none 0 0]) (v2 := .int .i64 91) (v3 := .int .i64 0) (by kernel_rfl) (by kernel_rfl) (by kernel_rfl), none, 0, [], rfl, rfl, ((SP.sel s2 [] rfl rfl : SP [] w _ []).nilten)⟩
      | false =>
        rw [hm] at H
        injection H with H
        subst H
        gi_wp2
        have e7 := ((((((h3.cell1 (off := 0) (.int .i64 wa) (i := 0) rfl).cell1 (off := 1) (.int .i64 gr) (i := 0) rfl).cell1 (off := 2) (.int .i64 id) (i := 0) rfl).cell1 (off := 3) (.int .i64 le) (i := 0) rfl).cell1 (off := 4) (.slice A d.length c) (i := 0) rfl).cell1 (off := 0) (.int .i64 0) (i := 1) rfl).cell1 (off := 0) (.int .i64 0) (i := 2) rfl
        refine ⟨by simp, .inl ⟨_, _, rfl, run_takeDeferred ((V6 (by omega)).trans ((V6 (by omega)).trans ((V6 (by omega)).trans ((V6 (by omega)).trans ((V6 (by omega)).trans ((V6 (by omega)).trans ((V6 (by omega)).trans hK))))))), ?_⟩⟩
        have s2 := (SP.sel e7 [0, 1, 2, 5] rfl rfl : SP [] w _ [Qq w.heap.size 24 #[.int .i64 wa, .int .i64 gr, .int .i64 id, .int .i64 le, .slice A d.length c], Qq (w.heap.size + 1) 27 #[.int .i64 0], Qq (w.heap.size + 1 + 1) 3 #[.int .i64 0], Yx A c d]).other (Ue _ (w.heap.size + 6) (.deferred none)) (by intro k hk; simp at hk; omega) (fun e he k hk hK' => by
          simp only [List.mem_cons, List.not_mem_nil, or_false] at he hK'
          rcases he with rfl | rfl | rfl | rfl
          · have hk' : k = w.heap.size := by simpa [Qq] using hk
            omega
          · have hk' : k = w.heap.size + 1 := by simpa [Qq] using hk
            omega
          · have hk' : k = w.heap.size + 1 + 1 := by simpa [Qq] using hk
            omega
          · have := h4 k hk
            omega)
        exact ⟨_, U7 rfl _ rfl rfl rfl (s2.get (i := 0) rfl) (s2.get (i := 1) rfl) (s2.get (i := 2) rfl) (v1 := .agg #[.int .i64 wa, .int .i64 gr, .int .i64 id, .int .i64 le, .slice A d.length c]) (v2 := .int .i64 0) (v3 := .int .i64 0) (by kernel_rfl) (by kernel_rfl) (by kernel_rfl), A, c, d, rfl, rfl, SP.sel s2 [3] rfl rfl⟩
    case stop =>
      rintro cc pre W hpre ⟨rfl, a, ha, hsp⟩ hK
      rw [hsz6] at hK
      unfold Zp at H
      rw [show decide (((List.length s : Nat) : Int) > 4096) = false from decide_eq_false (by omega)] at H
      have H : (Jt (Ys s) st0P).bind _ = some r := H
      rw [ha] at H
      have H : some ((0 : Int), (0 : Int), (0 : Int), (0 : Int), ([] : List Qb), (91 : Int), a) = some r := H
      injection H with H
      subst H
      gi_wp2
      refine ⟨by simp, .inl ⟨_, _, rfl, run_takeDeferred hK, ?_⟩⟩
      have s2 := hsp.other (Ue W (w.heap.size + 6) (.deferred none)) (by intro k hk; simp at hk; omega) (fun e he k hk hK' => by
        simp only [List.mem_cons, List.not_mem_nil, or_false] at he hK'
        rcases he with rfl | rfl | rfl
        · have hk' : k = w.heap.size := by simpa [Qq] using hk
          omega
        · have hk' : k = w.heap.size + 1 := by simpa [Qq] using hk
          omega
        · have hk' : k = w.heap.size + 1 + 1 := by simpa [Qq] using hk
          omega)
      exact ⟨_, U7 rfl _ rfl rfl rfl (s2.get (i := 0) rfl) (s2.get (i := 1) rfl) (s2.get (i := 2) rfl) (v1 := .agg #[.int .i64 0, .int .i64 0, .int .i64 0, .int .i64 0, .slice none 0 0]) (v2 := .int .i64 91) (v3 := .int .i64 a) (by kernel_rfl) (by kernel_rfl) (by kernel_rfl), none, 0, [], rfl, rfl, (s2.nilten).erase 0 rfl |>.erase 0 rfl |>.erase 0 rfl⟩
end Go.Proofs.YtoflbpmbkmephaaGreatDoor
namespace Go.Proofs.YtoflbpmbkmephaaGreatDoor
open Go.RowKit
def Kb : List Str → Nj → Nat → Sum Nat (Nj × Nat)
  | [], c, n => .inr (c, n)
  | p :: ps, c, n => match Ek c (decide (n = 0)) (Qx 32 p) with
    | none => .inl n
    | some c' => Kb ps c' (n + 1)
def failC (e : Int) (n : Nat) : Int × Int × Int × Int × List Qb × Int × Int := (0, 0, 0, 0, [], e, (n : Int))
def finC (r : Sum Nat (Nj × Nat)) (rest : Str) : Int × Int × Int × Int × List Qb × Int × Int := match r with
  | .inl n => failC 91 n
  | .inr (c, n) => if rest ≠ [] ∨ n = 0 then failC 91 n else (c.1, c.2.1, c.2.2.1, c.2.2.2.1, c.2.2.2.2, 0, 0)
def En (s : Str) : Int × Int × Int × Int × List Qb × Int × Int :=
  if 4096 < s.length then failC 2 0 else finC (Kb (Qx 10 s).dropLast c0C 0) ((Qx 10 s).getLastD [])
theorem Ls {c c' : Nj} {f : Bool} {ws : List Str} (h : Ek c f ws = some c') : ∃ k q, ws = k :: q ∧ ((k == Za) == f) = true ∧ Nk c k q = some c' ∧ okC c' = true := by
  cases ws with
  | nil => cases h
  | cons k q =>
    have h : (if (k == Za) == f then (Nk c k q).filter okC else none) = some c' := h
    split at h
    · rename_i hf
      rw [Option.filter_eq_some_iff] at h
      exact ⟨k, q, rfl, hf, h.1, h.2⟩
    · cases h
theorem line_bnd {c c' : Nj} {f : Bool} {p : Str} (hc : Lo 0 c) (hp : p.length ≤ 5000) (h : Ek c f (Qx 32 p) = some c') : Lo 0 c' ∧ okC c' = true := by
  obtain ⟨k, q, hs, _, hw, ho⟩ := Ls h
  have hl := U2 32 p
  rw [hs] at hl
  exact ⟨okC_bnd (Ku hc (fun w hm => Nat.le_trans (hl w (by simp [hm])) hp) hw) ho, ho⟩
theorem bnd_c0 : Lo 0 c0C := ⟨Nat.zero_le _, fun t ht => by cases ht⟩
theorem Eo : ∀ s : Str, Ys s = (Qx 10 s).dropLast.map (· ++ [10]) ++ (if (Qx 10 s).getLastD [] = [] then [] else [(Qx 10 s).getLastD []])
  | [] => rfl
  | x :: r => by
    have ih := Eo r
    unfold Ys Qx
    by_cases h : x = 10
    · subst h
      rw [if_pos rfl, if_pos rfl, ih]
      cases hs : Qx 10 r with
      | nil => exact absurd hs (Yw 10 r)
      | cons p ps => simp [List.dropLast, List.getLastD_cons]
    · rw [if_neg h, if_neg h, ih]
      cases hs : Qx 10 r with
      | nil => exact absurd hs (Yw 10 r)
      | cons p ps =>
        cases ps with
        | nil =>
          by_cases hp : p = []
          · subst hp; simp
          · simp [hp]
        | cons p2 ps => simp [List.dropLast, List.getLastD_cons]
def stC (c : Nj) (n : Nat) : StP := (c.1, c.2.1, c.2.2.1, c.2.2.2.1, c.2.2.2.2, (n : Int), false)
theorem Id : ∀ (ps : List Str) (c : Nj) (n : Nat), Lo 0 c → (n = 0 → c = c0C) → n + ps.length ≤ 1000000 → (∀ p ∈ ps, p.length ≤ 5000) →
    Jt (ps.map (· ++ [10])) (stC c n) = some (match Kb ps c n with | .inl a => .inl (a : Int) | .inr (c', n') => .inr (stC c' n')) ∧ (∀ c' n', Kb ps c n = .inr (c', n') → n' = n + ps.length ∧ Lo 0 c' ∧ (n' = 0 → c' = c0C) ∧ (0 < ps.length → okC c' = true))
  | [], c, n, hc, hn, _, _ => ⟨rfl, fun c' n' h => by
      injection h with h
      injection h with h1 h2
      subst h1 h2
      exact ⟨rfl, hc, hn, fun h => absurd h (by simp)⟩⟩
  | p :: ps, c, n, hc, hn, hl, hp => by
    obtain ⟨z, hz, hr⟩ := pLineB c n p hc hn (by simp at hl; omega) (hp p (by simp))
    have hz' : Lr (stC c n) (p ++ [10]) = some z := hz
    rw [List.map_cons, Jt, hz', Option.bind_some]
    unfold Kb
    cases hw : Ek c (decide (n = 0)) (Qx 32 p) with
    | none =>
      rw [hw] at hr
      have hr : z.1 = false := hr
      rw [hr]
      exact ⟨rfl, fun c' n' h => by cases h⟩
    | some c1 =>
      rw [hw] at hr
      have hr : z = (true, c1.1, c1.2.1, c1.2.2.1, c1.2.2.2.1, c1.2.2.2.2, ((n + 1 : Nat) : Int), false) := hr
      subst hr
      obtain ⟨b1, b2⟩ := line_bnd hc (hp p (by simp)) hw
      obtain ⟨h1, h2⟩ := Id ps c1 (n + 1) b1 (fun h => by omega) (by simp at hl; omega) fun q hq => hp q (by simp [hq])
      refine ⟨h1, fun c' n' h => ?_⟩
      obtain ⟨e1, e2, e3, e4⟩ := h2 c' n' h
      refine ⟨by simp; omega, e2, e3, fun _ => ?_⟩
      cases ps with
      | nil =>
        injection h with h
        injection h with h3 _
        rw [← h3]
        exact b2
      | cons _ _ => exact e4 (by simp)
theorem Lt (c : UInt8) (s : Str) : Qx c s = (Qx c s).dropLast ++ [(Qx c s).getLastD []] := by
  have hne := Yw c s
  conv => lhs; rw [← List.dropLast_concat_getLast hne]
  rw [List.getLastD_eq_getLast?, List.getLast?_eq_some_getLast hne]
  rfl
theorem Kx (c : UInt8) : ∀ (s p : Str), p ∈ Qx c s → c ∉ p
  | [], p, h => by
    have : p = [] := by simpa [Qx] using h
    subst this
    simp
  | x :: r, p, h => by
    have ih := Kx c r
    unfold Qx at h
    by_cases hx : x = c
    · rw [if_pos hx] at h
      rcases List.mem_cons.1 h with rfl | h
      · simp
      · exact ih p h
    · rw [if_neg hx] at h
      cases hs : Qx c r with
      | nil => exact absurd hs (Yw c r)
      | cons q qs =>
        rw [hs] at h ih
        rcases List.mem_cons.1 h with rfl | h
        · have := ih q (by simp)
          simp only [List.mem_cons, not_or]
          exact ⟨fun e => hx e.symm, this⟩
        · exact ih p (by simp [h])
theorem pParse (s : Str) : Zp s = some (En s) := by
  unfold Zp En
  by_cases hl : 4096 < s.length
  · rw [if_pos hl, show decide (((List.length s : Nat) : Int) > 4096) = true from decide_eq_true (by omega), cond_true]
    rfl
  · rw [if_neg hl, show decide (((List.length s : Nat) : Int) > 4096) = false from decide_eq_false (by omega), cond_false]
    have hlen := U2 10 s
    have hcnt := D3 10 s
    have hc2 : s.count 10 ≤ s.length := List.count_le_length
    have hps : ∀ p ∈ (Qx 10 s).dropLast, p.length ≤ 5000 := fun p hp => by have := hlen p (List.dropLast_subset _ hp); omega
    have hdl : (Qx 10 s).dropLast.length = s.count 10 := by rw [List.length_dropLast]; omega
    obtain ⟨h1, h2⟩ := Id (Qx 10 s).dropLast c0C 0 bnd_c0 (fun _ => rfl) (by omega) hps
    rw [Eo, Gz, show st0P = stC c0C 0 from rfl, h1, Option.bind_some]
    have hlast := Lt 10 s
    have hmem : (Qx 10 s).getLastD [] ∈ Qx 10 s := by
      rw [List.getLastD_eq_getLast?, List.getLast?_eq_some_getLast (Yw 10 s)]
      exact List.getLast_mem _
    cases hr : Kb (Qx 10 s).dropLast c0C 0 with
    | inl a => rfl
    | inr cn =>
      obtain ⟨c, n⟩ := cn
      obtain ⟨e1, e2, e3, e4⟩ := h2 c n hr
      by_cases hrest : (Qx 10 s).getLastD [] = []
      · rw [if_pos hrest]
        simp only [Jt, Option.bind_some, finC, hrest, ne_eq, not_true_eq_false, false_or]
        by_cases hn : n = 0
        · subst hn
          rfl
        · rw [if_neg hn, show ((stC c n).2.2.2.2.2.1 == 0) = false by rw [beq_eq_false_iff_ne]; show (n : Int) ≠ 0; omega]
          rfl
      · rw [if_neg hrest]
        have h10 := Kx 10 s _ hmem
        obtain ⟨z, hz, hz1⟩ := pLineE c (n : Int) ((Qx 10 s).getLastD []) (by have := hlen _ hmem; omega) (fun e => h10 (List.mem_of_getLast? e))
        have hz' : Lr (stC c n) ((Qx 10 s).getLastD []) = some z := hz
        simp only [Jt, hz', Option.bind_some, hz1, cond_false, finC]
        rw [if_pos (.inl hrest)]
        rfl
end Go.Proofs.YtoflbpmbkmephaaGreatDoor
namespace Go.Proofs.YtoflbpmbkmephaaGreatDoor
open Go.RowKit
def bl_ren : Go.Shelf.Ren := ⟨fun | 240 => 105 | 276 => 150 | n => n, fun | 70 => 91 | 72 => 93 | 164 => 175 | 20 => 20 | 9 => 9 | 4 => 4 | 37 => 48 | 5 => 5 | n => n, fun | n => n⟩
theorem bl_lays : Go.Proofs.Lays.n240 Tryz.prog bl_ren := {
  mixed := by kernel_rfl
  f240 := Tryz.func105.trans (congrArg some (by kernel_rfl))
  f276 := Tryz.func150.trans (congrArg some (by kernel_rfl))
  t0 := Tryz.underlying0
  a0 := Tryz.isAgg0
  z0 := Tryz.sizeOf0
  v0 := Tryz.zeroValue0
  t4 := Tryz.underlying4
  a4 := Tryz.isAgg4
  z4 := Tryz.sizeOf4
  v4 := Tryz.zeroValue4
  t9 := Tryz.underlying9
  a9 := Tryz.isAgg9
  z9 := Tryz.sizeOf9
  v9 := Tryz.zeroValue9
  t20 := Tryz.underlying20
  a20 := Tryz.isAgg20
  z20 := Tryz.sizeOf20
  v20 := Tryz.zeroValue20
  t70 := Tryz.underlying91
  a70 := Tryz.isAgg91
  z70 := Tryz.sizeOf91
  v70 := Tryz.zeroValue91
  t72 := Tryz.underlying93
  a72 := Tryz.isAgg93
  z72 := Tryz.sizeOf93
  v72 := Tryz.zeroValue93
  t164 := Tryz.underlying175
  a164 := Tryz.isAgg175
  z164 := Tryz.sizeOf175
  v164 := Tryz.zeroValue175 }
theorem bl_x : Builder.X72 Tryz.prog bl_ren := { sizeBuilder := by kernel_rfl, liesBuilder := by kernel_rfl }
def BP (g : Nat) (v : Value) : Prop := v = .pointer none ∨ v = .pointer (some ⟨g, 0, none⟩)
theorem E0 {S : List Nat} {g : Nat} {v x : Value} {w w0 : World} {es : List Ent} (hv : BP g v) (hs : SP S w0 w es) {i : Nat} (hi : es[i]? = some (Qq g 93 #[v, x])) :
    Calls Tryz.prog 105 #[.pointer (some ⟨g, 0, none⟩)] w (fun e w' => e = .returned (.tuple #[]) ∧ SP S w0 w' (es.set i (Qq g 93 #[.pointer (some ⟨g, 0, none⟩), x]))) := by
  have hg : w.heap[g]? = some (.cells #[v, x] 93 (0, 0)) := hs.get hi
  rcases hv with rfl | rfl
  · refine (Any.Builder_copyCheck_fresh bl_lays bl_x g w (by rw [cell_of_row w g 0 _ _ _ hg]; rfl) (by simp [World.shape?, hg]; rfl) (by simp [World.frozen?, hg])).mono ?_
    rintro e w' ⟨rfl, rfl⟩
    refine ⟨rfl, ?_⟩
    have hlt : g < w.heap.size := (Array.getElem?_eq_some_iff.1 hg).1
    refine hs.set hi (T := [g]) ((Mod.refl [g] w).setCell (p := ⟨g, 0, none⟩) (.inl (by simp)) _) (fun k hk => hk) ?_ fun k hk => ⟨.inl hk, ?_⟩
    · show (w.setCell ⟨g, 0, none⟩ _).heap[g]? = _
      simp [World.setCell, hg, Array.getElem?_modify]
    · have : k = g := by simpa [Qq] using hk
      subst this
      simpa [World.setCell] using hlt
  · refine (Any.Builder_copyCheck_used bl_lays bl_x g w (by rw [cell_of_row w g 0 _ _ _ hg]; rfl)).mono ?_
    rintro e w' ⟨rfl, rfl⟩
    refine ⟨rfl, ?_⟩
    have : es.set i (Qq g 93 #[.pointer (some ⟨g, 0, none⟩), x]) = es := by
      apply List.ext_getElem?
      intro j
      rw [List.getElem?_set]
      split
      · rename_i hij; subst hij
        split
        · exact hi.symm
        · rename_i hge; rw [List.getElem?_eq_none (by omega)]
      · rfl
    rw [this]
    exact hs
theorem Lu {g : Nat} {v : Value} {A : Option Addr} {c : Nat} {l : List UInt8} {w w0 : World} {es : List Ent} (hs : SP [] w0 w es) {i j : Nat} (hi : es[i]? = some (Qq g 93 #[v, .slice A (List.length l) c])) (hj : es[j]? = some (Q6 5 eU8 A c l)) (hij : i ≠ j) (hv : BP g v) :
    Calls Tryz.prog 62 #[.pointer (some ⟨g, 0, none⟩)] w (fun e w' => e = .returned (.string ⟨List.toArray l⟩) ∧ SP [] w0 w' []) := by
  have hg : w.heap[g]? = some (.cells #[v, .slice A (List.length l) c] 93 (0, 0)) := hs.get hi
  have hr : w.ownsRow 0 5 1 (.slice A l.length c) l.length (Q9 eU8 l) := hs.get hj
  have hb : w0.heap.size ≤ g := by
    rcases ((hs.own.get hi).2 g (by simp [Qq])).1 with h | h
    · exact h
    · cases h
  have hap := hs.own.apart hi hj hij
  have hcells : Q9 eU8 l = Lib.byteCells l := Fv l
  have hown : w.ownsRow w0.heap.size 5 1 (.slice A l.length c) (Lib.byteCells l).length (Lib.byteCells l) := by
    rw [← hcells, Zg, show eU8.sz = 1 from rfl, Nat.mul_one]
    refine ⟨hr.1, ?_⟩
    rcases hr.2 with h | ⟨q, cap, cur, h1, h2, h3⟩
    · exact .inl h
    · refine .inr ⟨q, cap, cur, h1, ?_, h3⟩
      injection h1 with h1 _ _
      subst h1
      rcases ((hs.own.get hj).2 q (by simp [Q6, row, Value.ownBlock])).1 with h | h
      · exact h
      · cases h
  have hne : (Value.slice A l.length c).ownBlock ≠ some g := by
    intro h
    exact hap g (by simp [Qq]) (by simp [Q6, row, h])
  have hat : Lib.BuilderAt 93 5 w0.heap.size g v (Lib.byteCells l) w := ⟨hb, _, hg, hown, hne⟩
  refine (Tryz.Builder_String_any w0.heap.size g l w ?_ hs.mod.size).mono ?_
  · rcases hv with rfl | rfl
    · exact .inl hat
    · exact .inr hat
  · rintro e w' ⟨rfl, hb'⟩
    refine ⟨rfl, ⟨?_, trivial⟩⟩
    exact Xb (hs.keeps.trans hb') []
end Go.Proofs.YtoflbpmbkmephaaGreatDoor
namespace Go.Proofs.YtoflbpmbkmephaaGreatDoor
open Go.RowKit
def Zr (q4 : (List UInt8)) (p7 : (List UInt8)) : Option (Int × (List UInt8)) :=
  ((app q4 p7).bind fun a => (some (((List.length p7 : Nat) : Int), a)))
set_option maxHeartbeats 40000000 in
theorem Uh {S : List Nat} (g1 : Nat) (v2 : Value) (A5 : Option Addr) (c6 : Nat) (q4 : (List UInt8)) (p7 : (List UInt8)) (w0 : World) (hO : SP S w0 w0 [Qq g1 93 #[v2, (.slice A5 (List.length q4) c6)], Q6 5 eU8 A5 c6 q4]) (u : BP g1 v2) (r : (Int × (List UInt8))) (H : Zr q4 p7 = some r) :
  Calls Tryz.prog 57 #[(pt g1 0), (.string ⟨List.toArray p7⟩)] w0 (fun e w' => ∃ (h : Option Addr) (j : Nat), e = .returned (.tuple #[(.int .i64 r.1), .nilIface]) ∧ SP S w0 w' [Qq g1 93 #[(pt g1 0), (.slice h (List.length r.2) j)], Q6 5 eU8 h j r.2]) := by
 unfold Zr at H
 refine Qv (n := 19) Tryz.func57 K K K ?_
 have w := hO
 refine aQ ?_
 refine aR ?_
 refine iR 2 2 [(4, (.int .i64 0)), (5, .nilIface)] ?_
 refine iF ?_
 refine aQ ?_
 refine aR ?_
 refine iR 1 1 [(6, (pt g1 0))] ?_
 refine iS 2 ?_
 refine cF 105 #[(.tmp 6)] #[91] 7 Tryz.call105 (E0 (g := g1) (v := v2) (x := (.slice A5 (List.length q4) c6)) u w (i := 0) rfl) ?_
 rintro e z ⟨rfl, o⟩
 refine ⟨_, rfl, ?_⟩
 have p : SP S w0 z [Qq g1 93 #[(pt g1 0), (.slice A5 (List.length q4) c6)], Q6 5 eU8 A5 c6 q4] := o
 clear o
 refine iF ?_
 refine aQ ?_
 refine aR ?_
 refine iR 4 4 [(8, (pt g1 0)), (9, (pt g1 0)), (10, (pt g1 0)), (11, (pt g1 1))] ?_
 refine iS 5 ?_
 refine sL 48 11 g1 1 0 (.slice A5 (List.length q4) c6) 12 p rfl ?_
 refine iR 1 6 [(13, (.string ⟨List.toArray p7⟩))] ?_
 obtain ⟨hl26, H⟩ := Yf H
 obtain ⟨q, hyl27⟩ : ∃ y, q4 ++ p7 = y := ⟨_, rfl⟩
 try rw [hyl27] at H
 refine iS 7 ?_
 refine Qi.append (e := eU8) (l := q4) (m := p7) (A := A5) (c := c6) (T := 48) (TX := 9) (E := 5) (b := 1) (s := (.tmp 12)) (x := (.tmp 13)) (i := 1) (vx := (.string ⟨List.toArray p7⟩)) (d := (some 14)) (k := 6) K rfl K K K K rfl p rfl (src_str K p7) hl26 ?_
 rw [hyl27]
 intro a f a2 a0
 refine iR 2 9 [(15, (pt g1 0)), (16, (pt g1 1))] ?_
 refine iS 10 ?_
 refine Qi.store (t := 48) (x := (.tmp 16)) (y := (.tmp 14)) (g := g1) (off := 1) (i := 0) (v := (.slice a (List.length q) f)) (cs' := #[(pt g1 0), (.slice a (List.length q) f)]) (d := none) (k := 9) K rfl K K a0 rfl K ?_
 intro a3 a1
 refine iF ?_
 refine aQ ?_
 refine aR ?_
 refine iR 4 4 [(17, (.string ⟨List.toArray p7⟩)), (18, (.int .i64 ((List.length p7 : Nat) : Int))), (4, (.int .i64 ((List.length p7 : Nat) : Int))), (5, .nilIface)] ?_
 refine iF ?_
 refine At.ret K ?_
 refine ⟨(.tuple #[(.int .i64 ((List.length p7 : Nat) : Int)), .nilIface]), K, ?_⟩
 obtain rfl := Qg H
 exact ⟨a, f, rfl, SP.sel a1 [0,1] rfl rfl⟩
def Xd (p1 : (List (List UInt8))) (q8 : (List UInt8)) : Option ((List UInt8)) :=
  ((Jb p1 ([32] : List UInt8)).bind fun a => ((app a ([10] : List UInt8)).bind fun b => ((Zr q8 b).bind fun c => (some (c.2)))))
set_option maxHeartbeats 40000000 in
theorem Yp {S : List Nat} (A2 : Option Addr) (c3 : Nat) (g5 : Nat) (v6 : Value) (A9 : Option Addr) (c : Nat) (p1 : (List (List UInt8))) (q8 : (List UInt8)) (w0 : World) (hO : SP S w0 w0 [Qq g5 93 #[v6, (.slice A9 (List.length q8) c)], Q6 5 eU8 A9 c q8]) (s : ∀ w, Mod S w0 w → RdT Ql w A2 c3 p1) (t : BP g5 v6) (r : ((List UInt8))) (H : Xd p1 q8 = some r) :
  Calls Tryz.prog 56 #[(.slice A2 (List.length p1) c3), (pt g5 0)] w0 (fun e w' => ∃ (j : Option Addr) (l : Nat), e = .returned (.tuple #[]) ∧ SP S w0 w' [Qq g5 93 #[(pt g5 0), (.slice j (List.length r) l)], Q6 5 eU8 j l r]) := by
 unfold Xd at H
 refine Qv (n := 7) Tryz.func56 K K K ?_
 have m := hO
 refine aR ?_
 refine iR 1 1 [(3, (.slice A2 (List.length p1) c3))] ?_
 obtain ⟨f, u, H⟩ := Qd H
 refine iS 2 ?_
 refine cF 58 #[(.tmp 3), (.const (.string ⟨List.toArray ([32] : List UInt8)⟩))] #[79, 9] 4 Tryz.call58 (Nz A2 c3 p1 ([32] : List UInt8) w0 (s w0 (SP.mod m)) f u) ?_
 rintro e v ⟨rfl, o⟩
 refine ⟨_, rfl, ?_⟩
 have p := SP.call m o
 clear o
 obtain ⟨hl36, H⟩ := Yf H
 obtain ⟨z, hyl35⟩ : ∃ y, f ++ ([10] : List UInt8) = y := ⟨_, rfl⟩
 rw [hyl35] at H
 refine iS 3 ?_
 refine Y1 (T := 9) (T' := 9) (x := (.tmp 4)) (y := (.const (.string ⟨List.toArray ([10] : List UInt8)⟩))) (a := f) (b := ([10] : List UInt8)) (d := (some 5)) (k := 2) K rfl K K hl36 ?_
 rw [hyl35]
 obtain ⟨g, a0, H⟩ := Qd H
 refine iS 4 ?_
 refine cF 57 #[(.tmp 1), (.tmp 5)] #[93, 9] 6 Tryz.call57 (Uh g5 v6 A9 c q8 z v (Jw p [0, 1] rfl rfl) t g a0) ?_
 rintro e a1 ⟨h, i, rfl, q⟩
 refine ⟨_, rfl, ?_⟩
 have a2 : SP S w0 a1 [Qq g5 93 #[(pt g5 0), (.slice h (List.length g.2) i)], Q6 5 eU8 h i g.2] := Z2 p [0, 1] [] rfl rfl q rfl
 clear q
 refine iF ?_
 refine ⟨(.tuple #[]), K, ?_⟩
 obtain rfl := Qg H
 exact ⟨h, i, rfl, SP.sel a2 [0,1] rfl rfl⟩
def Z7 (e : (List UInt8) → Int → Option ((List UInt8))) (k : (List UInt8) → Int → Option ((List UInt8))) (f : (List UInt8) → Int → Option ((List UInt8))) (g : Int) (c : Qb) (d : (List UInt8)) (b : Int) : Option ((List UInt8)) :=
  (cond (decide (b < ((List.length c.2.2.2.2 : Nat) : Int))) ((idx c.2.2.2.2 b).bind fun a => ((chk (Nat.ble (List.length a.2.1) 281474976710656)).bind fun _ => ((Nd a.2.1).bind fun h => ((V8 a.2.2).bind fun i => ((Xd ([([116, 111, 107, 101, 110] : List UInt8), a.1, h, i] : List (List UInt8)) d).bind fun j => (f j (IntKind.wrap .i64 (b + 1)))))))) (e d (IntKind.wrap .i64 (g + 1))))
def Z8 (a : (List UInt8) → Int → Option ((List UInt8))) (b : (List UInt8) → Int → Option ((List UInt8))) (c : Int) (d : Qb) : Nat → (List UInt8) → Int → Option ((List UInt8))
  | 0, _, _ => none
  | f + 1, e, g => Z7 a b (Z8 a b c d f) c d e g
def Z9 (f : (List UInt8) → Int → Option ((List UInt8))) (c : (List UInt8) → Int → Option ((List UInt8))) (g : Int) (a : Qb) (d : (List UInt8)) (b : Int) : Option ((List UInt8)) :=
  (cond (decide (b < ((List.length a.2.2.2.1 : Nat) : Int))) ((idx a.2.2.2.1 b).bind fun e => ((Je e.1 e.2).bind fun h => ((Xd ([([110, 101, 116] : List UInt8), h] : List (List UInt8)) d).bind fun i => (c i (IntKind.wrap .i64 (b + 1)))))) (Z8 f c g a Xx d 0))
def Vu (a : (List UInt8) → Int → Option ((List UInt8))) (b : Int) (c : Qb) : Nat → (List UInt8) → Int → Option ((List UInt8))
  | 0, _, _ => none
  | f + 1, d, e => Z9 a (Vu a b c f) b c d e
def Xa (e : (List UInt8) → Int → Option ((List UInt8))) (c : (List Qb)) (d : (List UInt8)) (b : Int) : Option ((List UInt8)) :=
  (cond (decide (b < ((List.length c : Nat) : Int))) ((idx c b).bind fun a => ((V8 a.2.1).bind fun f => ((V8 a.2.2.1).bind fun g => ((Xd ([([116, 101, 110, 97, 110, 116] : List UInt8), a.1, f, g] : List (List UInt8)) d).bind fun h => (Vu e b a Xx h 0))))) (some (d)))
def Qz (a : (List Qb)) : Nat → (List UInt8) → Int → Option ((List UInt8))
  | 0, _, _ => none
  | f + 1, b, c => Xa  (Qz a f) a b c
def Jf (a : Int) (b : Int) (c : Int) (d : Int) (e : (List Qb)) : Option ((List UInt8)) :=
  ((Z1 a b c d e).bind fun f => (cond (!f) (some (([] : List UInt8))) ((V8 a).bind fun g => ((V8 b).bind fun h => ((V8 c).bind fun i => ((V8 d).bind fun j => ((Xd ([([116, 105, 109, 101, 115] : List UInt8), g, h, i, j] : List (List UInt8)) ([] : List UInt8)).bind fun k => (Qz e Xx k 0))))))))
set_option maxHeartbeats 40000000 in
theorem N8 (A6 : Option Addr) (c7 : Nat) (b8 : Int) (b4 : Int) (b3 : Int) (b1 : Int) (d9 : (List Qh)) (w0 : World) (hL : U9 w0) (d0 : (dDS V1 Fc).ok w0 (A6, c7, d9)) (r : ((List UInt8))) (H : Jf b8 b4 b3 b1 (List.map stT d9) = some r) :
  Calls Tryz.prog 24 #[(.agg #[(.int .i64 b8), (.int .i64 b4), (.int .i64 b3), (.int .i64 b1), (.slice A6 (List.length (List.map stT d9)) c7)])] w0 (fun e w' => e = .returned (.string ⟨List.toArray r⟩) ∧ SP [] w0 w' []) := by
 unfold Jf at H
 refine Qv (n := 83) Tryz.func24 K K K ?_
 have n5 := Q1 [] w0
 refine aQ ?_
 refine aR ?_
 refine iS 1 ?_
 refine Z0 (t := 24) (x := (.tmp 0)) (v := (.agg #[(.int .i64 b8), (.int .i64 b4), (.int .i64 b3), (.int .i64 b1), (.slice A6 (List.length (List.map stT d9)) c7)])) (d := (some 1)) (k := 0) K rfl K n5 ?_
 intro u n6 e9
 refine iR 1 2 [(2, (.string ⟨List.toArray ([] : List UInt8)⟩))] ?_
 refine iF ?_
 refine aQ ?_
 refine aQ ?_
 refine aR ?_
 refine iS 1 ?_
 refine sL 24 1 u 0 0 (.agg #[(.int .i64 b8), (.int .i64 b4), (.int .i64 b3), (.int .i64 b1), (.slice A6 (List.length (List.map stT d9)) c7)]) 11 e9 rfl ?_
 obtain ⟨f9, n7, H⟩ := Qd H
 refine iS 2 ?_
 refine cF 22 #[(.tmp 11)] #[24] 12 Tryz.call22 (X5 A6 c7 b8 b4 b3 b1 d9 n6 (Q0 hL (SP.keeps e9)) (Dp.sp d0 e9) f9 n7) ?_
 rintro e z0 ⟨rfl, i7⟩
 refine ⟨_, rfl, ?_⟩
 have i8 := SP.call e9 i7
 clear i7
 refine iR 1 3 [(13, (.bool (!f9)))] ?_
 refine iF ?_
 refine Xe K (o := (.tmp 13)) K (b := (!f9)) K (fun g0 => ?_) (fun g0 => ?_)
 ·have H := ct H g0
  refine aQ ?_
  refine aR ?_
  refine iR 1 1 [(2, (.string ⟨List.toArray ([] : List UInt8)⟩))] ?_
  refine iF ?_
  refine At.ret K ?_
  refine ⟨(.string ⟨List.toArray ([] : List UInt8)⟩), K, ?_⟩
  obtain rfl := Qg H
  exact ⟨rfl, SP.sel i8 [] rfl rfl⟩
 ·have H := cf H g0
  refine At.skip K ?_
  refine aQ ?_
  refine aR ?_
  refine iS 1 ?_
  refine Qi.alloc (t := 93) (z := (.agg #[(.pointer none), (.slice none (List.length ([] : List UInt8)) 0)])) (d := (some 3)) (k := 0) K rfl K i8 ?_
  intro m z1 n8
  refine iF ?_
  refine aQ ?_
  refine aR ?_
  refine iR 2 2 [(14, (.func (.func 56) #[] #[(pt m 0)])), (4, (.func (.func 56) #[] #[(pt m 0)]))] ?_
  refine iF ?_
  refine aQ ?_
  obtain ⟨a2, n9, H⟩ := Qd H
  obtain ⟨a3, o0, H⟩ := Qd H
  obtain ⟨a5, o1, H⟩ := Qd H
  obtain ⟨a6, o2, H⟩ := Qd H
  obtain ⟨d4, o3, H⟩ := Qd H
  refine aG [GEq (.func (.func 56) #[] #[(pt m 0)]), GEq (pt u 0), GEq (.int .i64 b8), GEq (.string ⟨List.toArray a2⟩), GEq (pt u 1), GEq (.int .i64 b4), GEq (.string ⟨List.toArray a3⟩), GEq (pt u 2), GEq (.int .i64 b3), GEq (.string ⟨List.toArray a5⟩), GEq (pt u 3), GEq (.int .i64 b1), GEq (.string ⟨List.toArray a6⟩), Rp, GEq (.tuple #[])] [3, 6, 9, 12, 13, 14] [([], fun vs w => VL vs [] ∧ SP [] w0 w [Qq u 24 #[(.int .i64 b8), (.int .i64 b4), (.int .i64 b3), (.int .i64 b1), (.slice A6 (List.length (List.map stT d9)) c7)], Qq m 93 #[(.pointer none), (.slice none (List.length ([] : List UInt8)) 0)]]), ([3], fun vs w => VL vs [(.string ⟨List.toArray a2⟩)] ∧ SP [] w0 w [Qq u 24 #[(.int .i64 b8), (.int .i64 b4), (.int .i64 b3), (.int .i64 b1), (.slice A6 (List.length (List.map stT d9)) c7)], Qq m 93 #[(.pointer none), (.slice none (List.length ([] : List UInt8)) 0)]]), ([3, 6], fun vs w => VL vs [(.string ⟨List.toArray a2⟩), (.string ⟨List.toArray a3⟩)] ∧ SP [] w0 w [Qq u 24 #[(.int .i64 b8), (.int .i64 b4), (.int .i64 b3), (.int .i64 b1), (.slice A6 (List.length (List.map stT d9)) c7)], Qq m 93 #[(.pointer none), (.slice none (List.length ([] : List UInt8)) 0)]]), ([3, 6, 9], fun vs w => VL vs [(.string ⟨List.toArray a2⟩), (.string ⟨List.toArray a3⟩), (.string ⟨List.toArray a5⟩)] ∧ SP [] w0 w [Qq u 24 #[(.int .i64 b8), (.int .i64 b4), (.int .i64 b3), (.int .i64 b1), (.slice A6 (List.length (List.map stT d9)) c7)], Qq m 93 #[(.pointer none), (.slice none (List.length ([] : List UInt8)) 0)]]), ([3, 6, 9, 12], fun vs w => VL vs [(.string ⟨List.toArray a2⟩), (.string ⟨List.toArray a3⟩), (.string ⟨List.toArray a5⟩), (.string ⟨List.toArray a6⟩)] ∧ SP [] w0 w [Qq u 24 #[(.int .i64 b8), (.int .i64 b4), (.int .i64 b3), (.int .i64 b1), (.slice A6 (List.length (List.map stT d9)) c7)], Qq m 93 #[(.pointer none), (.slice none (List.length ([] : List UInt8)) 0)]]), ([3, 6, 9, 12, 13], fun vs w => ∃ (c5 : Nat), VL vs [(.string ⟨List.toArray a2⟩), (.string ⟨List.toArray a3⟩), (.string ⟨List.toArray a5⟩), (.string ⟨List.toArray a6⟩), (.slice (some ⟨c5, 0, none⟩) (List.length ([([116, 105, 109, 101, 115] : List UInt8), a2, a3, a5, a6] : List (List UInt8))) (List.length ([([116, 105, 109, 101, 115] : List UInt8), a2, a3, a5, a6] : List (List UInt8))))] ∧ SP [] w0 w [Qq u 24 #[(.int .i64 b8), (.int .i64 b4), (.int .i64 b3), (.int .i64 b1), (.slice A6 (List.length (List.map stT d9)) c7)], Qq m 93 #[(.pointer none), (.slice none (List.length ([] : List UInt8)) 0)], Q6 9 Ql (some ⟨c5, 0, none⟩) (List.length ([([116, 105, 109, 101, 115] : List UInt8), a2, a3, a5, a6] : List (List UInt8))) ([([116, 105, 109, 101, 115] : List UInt8), a2, a3, a5, a6] : List (List UInt8))]), ([3, 6, 9, 12, 13, 14], fun vs w => ∃ (g1 : Nat), ∃ (f0 : Option Addr), ∃ (f1 : Nat), VL vs [(.string ⟨List.toArray a2⟩), (.string ⟨List.toArray a3⟩), (.string ⟨List.toArray a5⟩), (.string ⟨List.toArray a6⟩), (.slice (some ⟨g1, 0, none⟩) (List.length ([([116, 105, 109, 101, 115] : List UInt8), a2, a3, a5, a6] : List (List UInt8))) (List.length ([([116, 105, 109, 101, 115] : List UInt8), a2, a3, a5, a6] : List (List UInt8)))), (.tuple #[])] ∧ SP [] w0 w [Qq u 24 #[(.int .i64 b8), (.int .i64 b4), (.int .i64 b3), (.int .i64 b1), (.slice A6 (List.length (List.map stT d9)) c7)], Q6 9 Ql (some ⟨g1, 0, none⟩) (List.length ([([116, 105, 109, 101, 115] : List UInt8), a2, a3, a5, a6] : List (List UInt8))) ([([116, 105, 109, 101, 115] : List UInt8), a2, a3, a5, a6] : List (List UInt8)), Qq m 93 #[(pt m 0), (.slice f0 (List.length d4) f1)], Q6 5 eU8 f0 f1 d4])] 15 6 ⟨trivial, SP.drew n8⟩ ?_ ?_
  iterate 15 refine And.intro ?_ ?_
  exact trivial
  ·exact oV (hC (hS 4 (.func (.func 56) #[] #[(pt m 0)])) (h0)) (.func (.func 56) #[] #[(pt m 0)])
  ·exact oV (hC (hS 1 (pt u 0)) (h0)) (pt u 0)
  ·refine oL 0 ?_
   ·rintro ρ' w' hs s ⟨z2, o4⟩
    refine kM (kc (kA s 1 16) k0) fun p => ?_
    refine sL 2 16 u 0 0 (.int .i64 b8) 17 o4 rfl ?_
    exact eK p
  ·refine oH 0 1 ?_
   ·rintro ρ' w' hs s ⟨z3, i9⟩
    refine kM (kc (kA s 2 17) k0) fun p => ?_
    refine cF 59 #[(.tmp 17)] #[2] 18 Tryz.call59 (Vz  b8 w' (Q0 hL (SP.keeps i9)) a2 n9) ?_
    rintro e z4 ⟨rfl, j0⟩
    refine ⟨_, rfl, ?_⟩
    have o5 := SP.call i9 j0
    clear j0
    refine ⟨_, Qa p, rfl, ?_⟩
    exact (And.intro (And.intro rfl (trivial)) o5)
  ·exact oV (hC (hS 1 (pt u 0)) (h0)) (pt u 1)
  ·refine Owe.light K [0, 1] K (Qc ?_ (Qc ?_ Q8))
   ·rintro ρ' w' hs s ⟨z5, o6⟩
    refine kM (kc (kA s 4 19) k0) fun p => ?_
    refine sL 2 19 u 1 0 (.int .i64 b4) 20 o6 rfl ?_
    exact eK p
   ·rintro ρ' w' hs s ⟨⟨z6, -⟩, o7⟩
    refine kM (kc (kA s 4 19) k0) fun p => ?_
    refine sL 2 19 u 1 0 (.int .i64 b4) 20 o7 rfl ?_
    exact eK p
  ·refine oH 1 2 ?_
   ·rintro ρ' w' hs s ⟨⟨o8, -⟩, j1⟩
    refine kM (kc (kA s 5 20) k0) fun p => ?_
    refine cF 59 #[(.tmp 20)] #[2] 21 Tryz.call59 (Vz  b4 w' (Q0 hL (SP.keeps j1)) a3 o0) ?_
    rintro e z7 ⟨rfl, j2⟩
    refine ⟨_, rfl, ?_⟩
    have o9 := SP.call j1 j2
    clear j2
    refine ⟨_, Qa p, rfl, ?_⟩
    exact (And.intro (And.intro o8 (And.intro rfl (trivial))) o9)
  ·exact oV (hC (hS 1 (pt u 0)) (h0)) (pt u 2)
  ·refine Owe.light K [0, 1, 2] K (Qc ?_ (Qc ?_ (Qc ?_ Q8)))
   ·rintro ρ' w' hs s ⟨z8, p0⟩
    refine kM (kc (kA s 7 22) k0) fun p => ?_
    refine sL 2 22 u 2 0 (.int .i64 b3) 23 p0 rfl ?_
    exact eK p
   ·rintro ρ' w' hs s ⟨⟨z9, -⟩, p1⟩
    refine kM (kc (kA s 7 22) k0) fun p => ?_
    refine sL 2 22 u 2 0 (.int .i64 b3) 23 p1 rfl ?_
    exact eK p
   ·rintro ρ' w' hs s ⟨⟨aa0, aa1, -⟩, p2⟩
    refine kM (kc (kA s 7 22) k0) fun p => ?_
    refine sL 2 22 u 2 0 (.int .i64 b3) 23 p2 rfl ?_
    exact eK p
  ·refine oH 2 3 ?_
   ·rintro ρ' w' hs s ⟨⟨p3, p4, -⟩, j3⟩
    refine kM (kc (kA s 8 23) k0) fun p => ?_
    refine cF 59 #[(.tmp 23)] #[2] 24 Tryz.call59 (Vz  b3 w' (Q0 hL (SP.keeps j3)) a5 o1) ?_
    rintro e aa2 ⟨rfl, j4⟩
    refine ⟨_, rfl, ?_⟩
    have p5 := SP.call j3 j4
    clear j4
    refine ⟨_, Qa p, rfl, ?_⟩
    exact (And.intro (And.intro p3 (And.intro p4 (And.intro rfl (trivial)))) p5)
  ·exact oV (hC (hS 1 (pt u 0)) (h0)) (pt u 3)
  ·refine Owe.light K [0, 1, 2, 3] K (Qc ?_ (Qc ?_ (Qc ?_ (Qc ?_ Q8))))
   ·rintro ρ' w' hs s ⟨aa3, p6⟩
    refine kM (kc (kA s 10 25) k0) fun p => ?_
    refine sL 2 25 u 3 0 (.int .i64 b1) 26 p6 rfl ?_
    exact eK p
   ·rintro ρ' w' hs s ⟨⟨aa4, -⟩, p7⟩
    refine kM (kc (kA s 10 25) k0) fun p => ?_
    refine sL 2 25 u 3 0 (.int .i64 b1) 26 p7 rfl ?_
    exact eK p
   ·rintro ρ' w' hs s ⟨⟨aa5, aa6, -⟩, p8⟩
    refine kM (kc (kA s 10 25) k0) fun p => ?_
    refine sL 2 25 u 3 0 (.int .i64 b1) 26 p8 rfl ?_
    exact eK p
   ·rintro ρ' w' hs s ⟨⟨aa7, aa8, aa9, -⟩, p9⟩
    refine kM (kc (kA s 10 25) k0) fun p => ?_
    refine sL 2 25 u 3 0 (.int .i64 b1) 26 p9 rfl ?_
    exact eK p
  ·refine oH 3 4 ?_
   ·rintro ρ' w' hs s ⟨⟨q0, q1, q2, -⟩, j5⟩
    refine kM (kc (kA s 11 26) k0) fun p => ?_
    refine cF 59 #[(.tmp 26)] #[2] 27 Tryz.call59 (Vz  b1 w' (Q0 hL (SP.keeps j5)) a6 o2) ?_
    rintro e ab0 ⟨rfl, j6⟩
    refine ⟨_, rfl, ?_⟩
    have q3 := SP.call j5 j6
    clear j6
    refine ⟨_, Qa p, rfl, ?_⟩
    exact (And.intro (And.intro q0 (And.intro q1 (And.intro q2 (And.intro rfl (trivial))))) q3)
  ·refine oH 4 5 ?_
   ·rintro ρ' w' hs s ⟨⟨j7, j8, j9, k1, -⟩, q4⟩
    refine kN [(18, (.string ⟨List.toArray a2⟩)), (21, (.string ⟨List.toArray a3⟩)), (24, (.string ⟨List.toArray a5⟩)), (27, (.string ⟨List.toArray a6⟩))] ⟨(Vo (h := 3) K).symm.trans j7, (Vo (h := 6) K).symm.trans j8, (Vo (h := 9) K).symm.trans j9, (Vo (h := 12) K).symm.trans k1, trivial⟩ fun p => ?_
    refine Vt (e := Ql) (T := 79) (E := 9) (len := 5) (parts := #[(0, (.const (.string ⟨List.toArray ([116, 105, 109, 101, 115] : List UInt8)⟩))), (1, (.tmp 18)), (2, (.tmp 21)), (3, (.tmp 24)), (4, (.tmp 27))]) (cs := #[(.string ⟨List.toArray ([116, 105, 109, 101, 115] : List UInt8)⟩), (.string ⟨List.toArray a2⟩), (.string ⟨List.toArray a3⟩), (.string ⟨List.toArray a5⟩), (.string ⟨List.toArray a6⟩)]) ([([116, 105, 109, 101, 115] : List UInt8), a2, a3, a5, a6] : List (List UInt8)) (d := (some 28)) (k := 13) K rfl (fun _ => K) q4 rfl rfl rfl rfl ?_
    intro q5 ab1 q6
    refine ⟨_, Qa p, trivial, ?_⟩
    exact (Exists.intro q5 (And.intro (And.intro j7 (And.intro j8 (And.intro j9 (And.intro k1 (And.intro rfl (trivial)))))) q6))
  ·refine oH 5 6 ?_
   ·rintro ρ' w' hs s ⟨c5, ⟨q7, q8, q9, r0, k2, -⟩, r1⟩
    refine kN [(15, (.func (.func 56) #[] #[(pt m 0)])), (28, (.slice (some ⟨c5, 0, none⟩) (List.length ([([116, 105, 109, 101, 115] : List UInt8), a2, a3, a5, a6] : List (List UInt8))) (List.length ([([116, 105, 109, 101, 115] : List UInt8), a2, a3, a5, a6] : List (List UInt8)))))] ⟨s 0 15 K, (Vo (h := 13) K).symm.trans k2, trivial⟩ fun p => ?_
    have g2 : SP [] w0 w' [Qq u 24 #[(.int .i64 b8), (.int .i64 b4), (.int .i64 b3), (.int .i64 b1), (.slice A6 (List.length (List.map stT d9)) c7)], Qq m 93 #[(.pointer none), (.slice none (List.length ([] : List UInt8)) 0)], Q6 9 Ql (some ⟨c5, 0, none⟩) (List.length ([([116, 105, 109, 101, 115] : List UInt8), a2, a3, a5, a6] : List (List UInt8))) ([([116, 105, 109, 101, 115] : List UInt8), a2, a3, a5, a6] : List (List UInt8)), Q6 5 eU8 none 0 ([] : List UInt8)] := Nx r1 5 eU8
    refine X0 (f := 56) (fo := (.tmp 15)) (xs := #[(.tmp 28)]) (tys := #[79]) (first := #[]) (captured := #[(pt m 0)]) (d := (some 29)) (k := 14) K rfl K K Tryz.call56 (Yp (some ⟨c5, 0, none⟩) (List.length ([([116, 105, 109, 101, 115] : List UInt8), a2, a3, a5, a6] : List (List UInt8))) m (.pointer none) none 0 ([([116, 105, 109, 101, 115] : List UInt8), a2, a3, a5, a6] : List (List UInt8)) ([] : List UInt8) w' (Jw g2 [1, 3] rfl rfl) (fun w hm => (Vg (SP.still g2 (l := [1, 3]) (i := 2) rfl rfl rfl hm))) (.inl rfl) d4 o3) ?_
    rintro e r2 ⟨g3, g4, rfl, k3⟩
    refine ⟨_, rfl, ?_⟩
    have r3 : SP [] w0 r2 [Qq u 24 #[(.int .i64 b8), (.int .i64 b4), (.int .i64 b3), (.int .i64 b1), (.slice A6 (List.length (List.map stT d9)) c7)], Q6 9 Ql (some ⟨c5, 0, none⟩) (List.length ([([116, 105, 109, 101, 115] : List UInt8), a2, a3, a5, a6] : List (List UInt8))) ([([116, 105, 109, 101, 115] : List UInt8), a2, a3, a5, a6] : List (List UInt8)), Qq m 93 #[(pt m 0), (.slice g3 (List.length d4) g4)], Q6 5 eU8 g3 g4 d4] := Z2 g2 [1, 3] [0, 2] rfl rfl k3 rfl
    clear k3
    refine ⟨_, Qa p, rfl, ?_⟩
    exact (Exists.intro c5 (Exists.intro g3 (Exists.intro g4 (And.intro (And.intro q7 (And.intro q8 (And.intro q9 (And.intro r0 (And.intro k2 (And.intro rfl (trivial))))))) r3))))
  ·rintro ρ' w' hs hf ⟨g1, f0, f1, ⟨ab2, ab3, ab4, ab5, ab6, ab7, -⟩, g5⟩
   refine V2 [(1, (pt u 0)), (3, (pt m 0)), (4, (.func (.func 56) #[] #[(pt m 0)]))] ⟨(hs 1 K).trans K, (hs 3 K).trans K, (hs 4 K).trans K, trivial⟩ ?_
   obtain ⟨ab8, r4⟩ : ∃ x, w' = x := ⟨_, rfl⟩
   rw [r4] at g5 ⊢
   refine aQ ?_
   refine aQ ?_
   refine aR ?_
   refine iR 1 1 [(30, (pt u 4))] ?_
   refine iS 2 ?_
   refine sL 22 30 u 4 0 (.slice A6 (List.length (List.map stT d9)) c7) 31 g5 rfl ?_
   refine iR 2 4 [(32, (.int .i64 ((List.length (List.map stT d9) : Nat) : Int))), (33, (.int .i64 0))] ?_
   refine iF ?_
   refine Y0 K (id := 0) K ?_
   refine G3 K (fun c3 ρ w => ∃ (b5 : (List UInt8)) (a1 : Int) (b9 : Option Addr) (c0 : Nat), Zm ρ [(3, (pt m 0)), (4, (.func (.func 56) #[] #[(pt m 0)])), (31, (.slice A6 (List.length (List.map stT d9)) c7)), (32, (.int .i64 ((List.length (List.map stT d9) : Nat) : Int))), (33, (.int .i64 a1))] ∧ SP [] w0 w [Q6 5 eU8 b9 c0 b5, Qq m 93 #[(pt m 0), (.slice b9 (List.length b5) c0)]] ∧ Qz (List.map stT d9) c3 b5 a1 = some r) (by rintro ρ w ⟨b5, a1, b9, c0, hk, hs, H⟩; cases H) ?_ Xx ?_
   ·rintro c3 ρ ab9 ⟨b5, a1, b9, c0, hk, f2, H⟩
    refine At.known [(3, (pt m 0)), (4, (.func (.func 56) #[] #[(pt m 0)])), (31, (.slice A6 (List.length (List.map stT d9)) c7)), (32, (.int .i64 ((List.length (List.map stT d9) : Nat) : Int))), (33, (.int .i64 a1))] hk ?_
    replace H := (show Xa (Qz (List.map stT d9) c3) (List.map stT d9) b5 a1 = some r from H)
    unfold Xa at H
    refine aQ ?_
    refine aR ?_
    refine iR 1 1 [(34, (.bool (decide (a1 < ((List.length (List.map stT d9) : Nat) : Int)))))] ?_
    refine iF ?_
    refine aQ ?_
    refine Xe K (o := (.tmp 34)) K (b := (decide (a1 < ((List.length (List.map stT d9) : Nat) : Int)))) K (fun g6 => ?_) (fun g6 => ?_)
    ·have H := ct H g6
     refine At.skip K ?_
     refine aQ ?_
     refine Y0 K (id := 1) K ?_
     refine aQ ?_
     refine aR ?_
     obtain ⟨a, k4, k5, e3, H⟩ := J6 H
     refine iS 1 ?_
     refine Yu stT (e := V1) (l := d9) (A := A6) (c := c7) (T := 22) (E := 33) (x := (.tmp 31)) (ix := (.tmp 33)) (ki := .i64) (iz := a1) (d := (some 35)) (k := 0) K rfl K K K K (RdT.sp (Yh d0) f2) k4 k5 ?_
     intro r5 r6 r7 ac0 hc10395
     refine iS 2 ?_
     refine Qi.cells (t := 33) (x := (.tmp 35)) (b := r5) (off := (r6 + Int.toNat a1 * V1.sz)) (xs := [(.string ⟨List.toArray (stT a).1⟩), (.int .i64 (stT a).2.1), (.int .i64 (stT a).2.2.1), (.slice a.2.2.2.1.1 (List.length (stT a).2.2.2.1) a.2.2.2.1.2.1), (.slice a.2.2.2.2.1 (List.length (stT a).2.2.2.2) a.2.2.2.2.2.1)]) (d := (some 36)) (k := 1) K rfl K K K (Vv (e := V1) (Qj (RdT.sp (Yh d0) f2) r7 k4 k5) e3 rfl) ?_
     refine iS 3 ?_
     refine Qi.alloc (t := 33) (z := (.agg #[(.string ⟨List.toArray ([] : List UInt8)⟩), (.int .i64 0), (.int .i64 0), (.slice none (List.length ([] : List (Int × Int))) 0), (.slice none (List.length ([] : List ((List UInt8) × (List UInt8) × Int))) 0)])) (d := (some 6)) (k := 2) K rfl K f2 ?_
     intro a0 ac1 r8
     refine iS 4 ?_
     refine Qi.store (t := 33) (x := (.tmp 6)) (y := (.tmp 36)) (g := a0) (off := 0) (i := 2) (v := (.agg #[(.string ⟨List.toArray (stT a).1⟩), (.int .i64 (stT a).2.1), (.int .i64 (stT a).2.2.1), (.slice a.2.2.2.1.1 (List.length (stT a).2.2.2.1) a.2.2.2.1.2.1), (.slice a.2.2.2.2.1 (List.length (stT a).2.2.2.2) a.2.2.2.2.2.1)])) (cs' := #[(.string ⟨List.toArray (stT a).1⟩), (.int .i64 (stT a).2.1), (.int .i64 (stT a).2.2.1), (.slice a.2.2.2.1.1 (List.length (stT a).2.2.2.1) a.2.2.2.1.2.1), (.slice a.2.2.2.2.1 (List.length (stT a).2.2.2.2) a.2.2.2.2.2.1)]) (d := none) (k := 3) K rfl K K r8 rfl K ?_
     intro ac2 r9
     refine iF ?_
     refine aQ ?_
     obtain ⟨a7, s0, H⟩ := Qd H
     obtain ⟨a9, s1, H⟩ := Qd H
     obtain ⟨d5, s2, H⟩ := Qd H
     refine aG [GEq (.func (.func 56) #[] #[(pt m 0)]), GEq (pt a0 0), GEq (.string ⟨List.toArray (stT a).1⟩), GEq (pt a0 1), GEq (.int .i64 (stT a).2.1), GEq (.string ⟨List.toArray a7⟩), GEq (pt a0 2), GEq (.int .i64 (stT a).2.2.1), GEq (.string ⟨List.toArray a9⟩), Rp, GEq (.tuple #[])] [5, 8, 9, 10] [([], fun vs w => VL vs [] ∧ SP [] w0 w [Q6 5 eU8 b9 c0 b5, Qq m 93 #[(pt m 0), (.slice b9 (List.length b5) c0)], Qq a0 33 #[(.string ⟨List.toArray (stT a).1⟩), (.int .i64 (stT a).2.1), (.int .i64 (stT a).2.2.1), (.slice a.2.2.2.1.1 (List.length (stT a).2.2.2.1) a.2.2.2.1.2.1), (.slice a.2.2.2.2.1 (List.length (stT a).2.2.2.2) a.2.2.2.2.2.1)]]), ([5], fun vs w => VL vs [(.string ⟨List.toArray a7⟩)] ∧ SP [] w0 w [Q6 5 eU8 b9 c0 b5, Qq m 93 #[(pt m 0), (.slice b9 (List.length b5) c0)], Qq a0 33 #[(.string ⟨List.toArray (stT a).1⟩), (.int .i64 (stT a).2.1), (.int .i64 (stT a).2.2.1), (.slice a.2.2.2.1.1 (List.length (stT a).2.2.2.1) a.2.2.2.1.2.1), (.slice a.2.2.2.2.1 (List.length (stT a).2.2.2.2) a.2.2.2.2.2.1)]]), ([5, 8], fun vs w => VL vs [(.string ⟨List.toArray a7⟩), (.string ⟨List.toArray a9⟩)] ∧ SP [] w0 w [Q6 5 eU8 b9 c0 b5, Qq m 93 #[(pt m 0), (.slice b9 (List.length b5) c0)], Qq a0 33 #[(.string ⟨List.toArray (stT a).1⟩), (.int .i64 (stT a).2.1), (.int .i64 (stT a).2.2.1), (.slice a.2.2.2.1.1 (List.length (stT a).2.2.2.1) a.2.2.2.1.2.1), (.slice a.2.2.2.2.1 (List.length (stT a).2.2.2.2) a.2.2.2.2.2.1)]]), ([5, 8, 9], fun vs w => ∃ (d1 : Nat), VL vs [(.string ⟨List.toArray a7⟩), (.string ⟨List.toArray a9⟩), (.slice (some ⟨d1, 0, none⟩) (List.length ([([116, 101, 110, 97, 110, 116] : List UInt8), (stT a).1, a7, a9] : List (List UInt8))) (List.length ([([116, 101, 110, 97, 110, 116] : List UInt8), (stT a).1, a7, a9] : List (List UInt8))))] ∧ SP [] w0 w [Q6 5 eU8 b9 c0 b5, Qq m 93 #[(pt m 0), (.slice b9 (List.length b5) c0)], Qq a0 33 #[(.string ⟨List.toArray (stT a).1⟩), (.int .i64 (stT a).2.1), (.int .i64 (stT a).2.2.1), (.slice a.2.2.2.1.1 (List.length (stT a).2.2.2.1) a.2.2.2.1.2.1), (.slice a.2.2.2.2.1 (List.length (stT a).2.2.2.2) a.2.2.2.2.2.1)], Q6 9 Ql (some ⟨d1, 0, none⟩) (List.length ([([116, 101, 110, 97, 110, 116] : List UInt8), (stT a).1, a7, a9] : List (List UInt8))) ([([116, 101, 110, 97, 110, 116] : List UInt8), (stT a).1, a7, a9] : List (List UInt8))]), ([5, 8, 9, 10], fun vs w => ∃ (g7 : Nat), ∃ (f3 : Option Addr), ∃ (f4 : Nat), VL vs [(.string ⟨List.toArray a7⟩), (.string ⟨List.toArray a9⟩), (.slice (some ⟨g7, 0, none⟩) (List.length ([([116, 101, 110, 97, 110, 116] : List UInt8), (stT a).1, a7, a9] : List (List UInt8))) (List.length ([([116, 101, 110, 97, 110, 116] : List UInt8), (stT a).1, a7, a9] : List (List UInt8)))), (.tuple #[])] ∧ SP [] w0 w [Qq a0 33 #[(.string ⟨List.toArray (stT a).1⟩), (.int .i64 (stT a).2.1), (.int .i64 (stT a).2.2.1), (.slice a.2.2.2.1.1 (List.length (stT a).2.2.2.1) a.2.2.2.1.2.1), (.slice a.2.2.2.2.1 (List.length (stT a).2.2.2.2) a.2.2.2.2.2.1)], Q6 9 Ql (some ⟨g7, 0, none⟩) (List.length ([([116, 101, 110, 97, 110, 116] : List UInt8), (stT a).1, a7, a9] : List (List UInt8))) ([([116, 101, 110, 97, 110, 116] : List UInt8), (stT a).1, a7, a9] : List (List UInt8)), Qq m 93 #[(pt m 0), (.slice f3 (List.length d5) f4)], Q6 5 eU8 f3 f4 d5])] 11 4 ⟨trivial, SP.drew r9⟩ ?_ ?_
     iterate 11 refine And.intro ?_ ?_
     exact trivial
     ·exact oV (hC (hS 4 (.func (.func 56) #[] #[(pt m 0)])) (h0)) (.func (.func 56) #[] #[(pt m 0)])
     ·exact oV (hC (hS 6 (pt a0 0)) (h0)) (pt a0 0)
     ·refine Owe.light K [0, 1, 2] K (Qc ?_ (Qc ?_ (Qc ?_ Q8)))
      ·rintro ρ' w' hs s ⟨ac3, s3⟩
       refine kM (kc (kA s 1 38) k0) fun p => ?_
       refine sL 9 38 a0 0 2 (.string ⟨List.toArray (stT a).1⟩) 39 s3 rfl ?_
       exact eK p
      ·rintro ρ' w' hs s ⟨⟨ac4, -⟩, s4⟩
       refine kM (kc (kA s 1 38) k0) fun p => ?_
       refine sL 9 38 a0 0 2 (.string ⟨List.toArray (stT a).1⟩) 39 s4 rfl ?_
       exact eK p
      ·rintro ρ' w' hs s ⟨⟨ac5, ac6, -⟩, s5⟩
       refine kM (kc (kA s 1 38) k0) fun p => ?_
       refine sL 9 38 a0 0 2 (.string ⟨List.toArray (stT a).1⟩) 39 s5 rfl ?_
       exact eK p
     ·exact oV (hC (hS 6 (pt a0 0)) (h0)) (pt a0 1)
     ·refine oL 0 ?_
      ·rintro ρ' w' hs s ⟨ac7, s6⟩
       refine kM (kc (kA s 3 40) k0) fun p => ?_
       refine sL 3 40 a0 1 2 (.int .i64 (stT a).2.1) 41 s6 rfl ?_
       exact eK p
     ·refine oH 0 1 ?_
      ·rintro ρ' w' hs s ⟨ac8, k6⟩
       refine kM (kc (kA s 4 41) k0) fun p => ?_
       refine cF 59 #[(.tmp 41)] #[2] 42 Tryz.call59 (Vz  (stT a).2.1 w' (Q0 hL (SP.keeps k6)) a7 s0) ?_
       rintro e ac9 ⟨rfl, k7⟩
       refine ⟨_, rfl, ?_⟩
       have s7 := SP.call k6 k7
       clear k7
       refine ⟨_, Qa p, rfl, ?_⟩
       exact (And.intro (And.intro rfl (trivial)) s7)
     ·exact oV (hC (hS 6 (pt a0 0)) (h0)) (pt a0 2)
     ·refine Owe.light K [0, 1] K (Qc ?_ (Qc ?_ Q8))
      ·rintro ρ' w' hs s ⟨ad0, s8⟩
       refine kM (kc (kA s 6 43) k0) fun p => ?_
       refine sL 3 43 a0 2 2 (.int .i64 (stT a).2.2.1) 44 s8 rfl ?_
       exact eK p
      ·rintro ρ' w' hs s ⟨⟨ad1, -⟩, s9⟩
       refine kM (kc (kA s 6 43) k0) fun p => ?_
       refine sL 3 43 a0 2 2 (.int .i64 (stT a).2.2.1) 44 s9 rfl ?_
       exact eK p
     ·refine oH 1 2 ?_
      ·rintro ρ' w' hs s ⟨⟨t0, -⟩, k8⟩
       refine kM (kc (kA s 7 44) k0) fun p => ?_
       refine cF 59 #[(.tmp 44)] #[2] 45 Tryz.call59 (Vz  (stT a).2.2.1 w' (Q0 hL (SP.keeps k8)) a9 s1) ?_
       rintro e ad2 ⟨rfl, k9⟩
       refine ⟨_, rfl, ?_⟩
       have t1 := SP.call k8 k9
       clear k9
       refine ⟨_, Qa p, rfl, ?_⟩
       exact (And.intro (And.intro t0 (And.intro rfl (trivial))) t1)
     ·refine oH 2 3 ?_
      ·rintro ρ' w' hs s ⟨⟨l0, l1, -⟩, t2⟩
       refine kN [(39, (.string ⟨List.toArray (stT a).1⟩)), (42, (.string ⟨List.toArray a7⟩)), (45, (.string ⟨List.toArray a9⟩))] ⟨s 2 39 K, (Vo (h := 5) K).symm.trans l0, (Vo (h := 8) K).symm.trans l1, trivial⟩ fun p => ?_
       refine Vt (e := Ql) (T := 79) (E := 9) (len := 4) (parts := #[(0, (.const (.string ⟨List.toArray ([116, 101, 110, 97, 110, 116] : List UInt8)⟩))), (1, (.tmp 39)), (2, (.tmp 42)), (3, (.tmp 45))]) (cs := #[(.string ⟨List.toArray ([116, 101, 110, 97, 110, 116] : List UInt8)⟩), (.string ⟨List.toArray (stT a).1⟩), (.string ⟨List.toArray a7⟩), (.string ⟨List.toArray a9⟩)]) ([([116, 101, 110, 97, 110, 116] : List UInt8), (stT a).1, a7, a9] : List (List UInt8)) (d := (some 46)) (k := 9) K rfl (fun _ => K) t2 rfl rfl rfl rfl ?_
       intro t3 ad3 t4
       refine ⟨_, Qa p, trivial, ?_⟩
       exact (Exists.intro t3 (And.intro (And.intro l0 (And.intro l1 (And.intro rfl (trivial)))) t4))
     ·refine oH 3 4 ?_
      ·rintro ρ' w' hs s ⟨d1, ⟨t5, t6, l2, -⟩, g8⟩
       refine kN [(37, (.func (.func 56) #[] #[(pt m 0)])), (46, (.slice (some ⟨d1, 0, none⟩) (List.length ([([116, 101, 110, 97, 110, 116] : List UInt8), (stT a).1, a7, a9] : List (List UInt8))) (List.length ([([116, 101, 110, 97, 110, 116] : List UInt8), (stT a).1, a7, a9] : List (List UInt8)))))] ⟨s 0 37 K, (Vo (h := 9) K).symm.trans l2, trivial⟩ fun p => ?_
       refine X0 (f := 56) (fo := (.tmp 37)) (xs := #[(.tmp 46)]) (tys := #[79]) (first := #[]) (captured := #[(pt m 0)]) (d := (some 47)) (k := 10) K rfl K K Tryz.call56 (Yp (some ⟨d1, 0, none⟩) (List.length ([([116, 101, 110, 97, 110, 116] : List UInt8), (stT a).1, a7, a9] : List (List UInt8))) m (pt m 0) b9 c0 ([([116, 101, 110, 97, 110, 116] : List UInt8), (stT a).1, a7, a9] : List (List UInt8)) b5 w' (Jw g8 [1, 0] rfl rfl) (fun w hm => (Vg (SP.still g8 (l := [1, 0]) (i := 3) rfl rfl rfl hm))) (.inr rfl) d5 s2) ?_
       rintro e t7 ⟨g9, h1, rfl, l3⟩
       refine ⟨_, rfl, ?_⟩
       have t8 : SP [] w0 t7 [Qq a0 33 #[(.string ⟨List.toArray (stT a).1⟩), (.int .i64 (stT a).2.1), (.int .i64 (stT a).2.2.1), (.slice a.2.2.2.1.1 (List.length (stT a).2.2.2.1) a.2.2.2.1.2.1), (.slice a.2.2.2.2.1 (List.length (stT a).2.2.2.2) a.2.2.2.2.2.1)], Q6 9 Ql (some ⟨d1, 0, none⟩) (List.length ([([116, 101, 110, 97, 110, 116] : List UInt8), (stT a).1, a7, a9] : List (List UInt8))) ([([116, 101, 110, 97, 110, 116] : List UInt8), (stT a).1, a7, a9] : List (List UInt8)), Qq m 93 #[(pt m 0), (.slice g9 (List.length d5) h1)], Q6 5 eU8 g9 h1 d5] := Z2 g8 [1, 0] [2, 3] rfl rfl l3 rfl
       clear l3
       refine ⟨_, Qa p, rfl, ?_⟩
       exact (Exists.intro d1 (Exists.intro g9 (Exists.intro h1 (And.intro (And.intro t5 (And.intro t6 (And.intro l2 (And.intro rfl (trivial))))) t8))))
     ·rintro ρ' w' hs hf ⟨g7, f3, f4, ⟨ad4, ad5, ad6, ad7, -⟩, h2⟩
      refine V2 [(3, (pt m 0)), (4, (.func (.func 56) #[] #[(pt m 0)])), (6, (pt a0 0)), (31, (.slice A6 (List.length (List.map stT d9)) c7)), (32, (.int .i64 ((List.length (List.map stT d9) : Nat) : Int))), (33, (.int .i64 a1))] ⟨(hs 3 K).trans K, (hs 4 K).trans K, (hs 6 K).trans K, (hs 31 K).trans K, (hs 32 K).trans K, (hs 33 K).trans K, trivial⟩ ?_
      obtain ⟨ad8, t9⟩ : ∃ x, w' = x := ⟨_, rfl⟩
      rw [t9] at h2 ⊢
      refine aQ ?_
      refine aQ ?_
      refine aR ?_
      refine iR 1 1 [(48, (pt a0 3))] ?_
      refine iS 2 ?_
      refine sL 30 48 a0 3 0 (.slice a.2.2.2.1.1 (List.length (stT a).2.2.2.1) a.2.2.2.1.2.1) 49 h2 rfl ?_
      refine iR 2 4 [(50, (.int .i64 ((List.length (stT a).2.2.2.1 : Nat) : Int))), (51, (.int .i64 0))] ?_
      refine iF ?_
      refine Y0 K (id := 2) K ?_
      refine G3 K (fun d6 ρ w => ∃ (c6 : (List UInt8)) (c2 : Int) (d7 : Option Addr) (d8 : Nat), Zm ρ [(3, (pt m 0)), (4, (.func (.func 56) #[] #[(pt m 0)])), (6, (pt a0 0)), (31, (.slice A6 (List.length (List.map stT d9)) c7)), (32, (.int .i64 ((List.length (List.map stT d9) : Nat) : Int))), (33, (.int .i64 a1)), (49, (.slice a.2.2.2.1.1 (List.length (stT a).2.2.2.1) a.2.2.2.1.2.1)), (50, (.int .i64 ((List.length (stT a).2.2.2.1 : Nat) : Int))), (51, (.int .i64 c2))] ∧ SP [] w0 w [Q6 5 eU8 d7 d8 c6, Qq m 93 #[(pt m 0), (.slice d7 (List.length c6) d8)], Qq a0 33 #[(.string ⟨List.toArray (stT a).1⟩), (.int .i64 (stT a).2.1), (.int .i64 (stT a).2.2.1), (.slice a.2.2.2.1.1 (List.length (stT a).2.2.2.1) a.2.2.2.1.2.1), (.slice a.2.2.2.2.1 (List.length (stT a).2.2.2.2) a.2.2.2.2.2.1)]] ∧ Vu (Qz (List.map stT d9) c3) a1 (stT a) d6 c6 c2 = some r) (by rintro ρ w ⟨c6, c2, d7, d8, hk, hs, H⟩; cases H) ?_ Xx ?_
      ·rintro d6 ρ ad9 ⟨c6, c2, d7, d8, hk, e4, H⟩
       refine At.known [(3, (pt m 0)), (4, (.func (.func 56) #[] #[(pt m 0)])), (6, (pt a0 0)), (31, (.slice A6 (List.length (List.map stT d9)) c7)), (32, (.int .i64 ((List.length (List.map stT d9) : Nat) : Int))), (33, (.int .i64 a1)), (49, (.slice a.2.2.2.1.1 (List.length (stT a).2.2.2.1) a.2.2.2.1.2.1)), (50, (.int .i64 ((List.length (stT a).2.2.2.1 : Nat) : Int))), (51, (.int .i64 c2))] hk ?_
       replace H := (show Z9 (Qz (List.map stT d9) c3) (Vu (Qz (List.map stT d9) c3) a1 (stT a) d6) a1 (stT a) c6 c2 = some r from H)
       unfold Z9 at H
       refine aQ ?_
       refine aR ?_
       refine iR 1 1 [(52, (.bool (decide (c2 < ((List.length (stT a).2.2.2.1 : Nat) : Int)))))] ?_
       refine iF ?_
       refine aQ ?_
       refine Xe K (o := (.tmp 52)) K (b := (decide (c2 < ((List.length (stT a).2.2.2.1 : Nat) : Int)))) K (fun h3 => ?_) (fun h3 => ?_)
       ·have H := ct H h3
        refine At.skip K ?_
        refine aQ ?_
        refine Y0 K (id := 3) K ?_
        refine aQ ?_
        refine aR ?_
        obtain ⟨c4, l4, l5, u0, H⟩ := Ve H
        refine iS 1 ?_
        refine Qn (e := (Qf (Q4 .u32) (Q4 .i64))) (l := (stT a).2.2.2.1) (A := a.2.2.2.1.1) (c := a.2.2.2.1.2.1) (T := 30) (E := 102) (x := (.tmp 49)) (ix := (.tmp 51)) (ki := .i64) (iz := c2) (d := (some 53)) (k := 0) K rfl K K K K (RdT.sp (Yh (dp1 (dp2 (dp2 (dp2 (Gr d0 e3)))))) e4) l4 l5 ?_
        intro u1 u2 u3 ae0 hc12962
        refine iS 2 ?_
        refine Qi.cells (t := 102) (x := (.tmp 53)) (b := u1) (off := (u2 + Int.toNat c2 * (Qf (Q4 .u32) (Q4 .i64)).sz)) (xs := [(.int .u32 c4.1), (.int .i64 c4.2)]) (d := (some 54)) (k := 1) K rfl K K K (Vv (e := (Qf (Q4 .u32) (Q4 .i64))) (Qj (RdT.sp (Yh (dp1 (dp2 (dp2 (dp2 (Gr d0 e3)))))) e4) u3 l4 l5) u0 rfl) ?_
        refine iS 3 ?_
        refine Qi.alloc (t := 102) (z := (.agg #[(.int .u32 0), (.int .i64 0)])) (d := (some 8)) (k := 2) K rfl K e4 ?_
        intro h4 ae1 u4
        refine iS 4 ?_
        refine Qi.store (t := 102) (x := (.tmp 8)) (y := (.tmp 54)) (g := h4) (off := 0) (i := 3) (v := (.agg #[(.int .u32 c4.1), (.int .i64 c4.2)])) (cs' := #[(.int .u32 c4.1), (.int .i64 c4.2)]) (d := none) (k := 3) K rfl K K u4 rfl K ?_
        intro u5 h5
        refine iF ?_
        refine aR ?_
        refine iR 1 1 [(55, (.func (.func 56) #[] #[(pt m 0)]))] ?_
        refine iS 2 ?_
        refine sL 102 8 h4 0 3 (.agg #[(.int .u32 c4.1), (.int .i64 c4.2)]) 56 h5 rfl ?_
        obtain ⟨d2, u6, H⟩ := Qd H
        refine iS 3 ?_
        refine cF 60 #[(.tmp 56)] #[102] 57 Tryz.call60 (N1  c4.1 c4.2 u5 (Q0 hL (SP.keeps h5)) d2 u6) ?_
        rintro e ae2 ⟨rfl, l6⟩
        refine ⟨_, rfl, ?_⟩
        have u7 := SP.call h5 l6
        clear l6
        refine iS 4 ?_
        refine Vt (e := Ql) (T := 79) (E := 9) (len := 2) (parts := #[(0, (.const (.string ⟨List.toArray ([110, 101, 116] : List UInt8)⟩))), (1, (.tmp 57))]) (cs := #[(.string ⟨List.toArray ([110, 101, 116] : List UInt8)⟩), (.string ⟨List.toArray d2⟩)]) ([([110, 101, 116] : List UInt8), d2] : List (List UInt8)) (d := (some 58)) (k := 3) K rfl (fun _ => K) u7 rfl rfl rfl rfl ?_
        intro l7 u8 h6
        obtain ⟨f5, u9, H⟩ := Qd H
        refine iS 5 ?_
        refine X0 (f := 56) (fo := (.tmp 55)) (xs := #[(.tmp 58)]) (tys := #[79]) (first := #[]) (captured := #[(pt m 0)]) (d := (some 59)) (k := 4) K rfl K K Tryz.call56 (Yp (some ⟨l7, 0, none⟩) (List.length ([([110, 101, 116] : List UInt8), d2] : List (List UInt8))) m (pt m 0) d7 d8 ([([110, 101, 116] : List UInt8), d2] : List (List UInt8)) c6 u8 (Jw h6 [1, 0] rfl rfl) (fun w hm => (Vg (SP.still h6 (l := [1, 0]) (i := 4) rfl rfl rfl hm))) (.inr rfl) f5 u9) ?_
        rintro e v0 ⟨h7, h8, rfl, l8⟩
        refine ⟨_, rfl, ?_⟩
        have v1 : SP [] w0 v0 [Qq a0 33 #[(.string ⟨List.toArray (stT a).1⟩), (.int .i64 (stT a).2.1), (.int .i64 (stT a).2.2.1), (.slice a.2.2.2.1.1 (List.length (stT a).2.2.2.1) a.2.2.2.1.2.1), (.slice a.2.2.2.2.1 (List.length (stT a).2.2.2.2) a.2.2.2.2.2.1)], Qq h4 102 #[(.int .u32 c4.1), (.int .i64 c4.2)], Q6 9 Ql (some ⟨l7, 0, none⟩) (List.length ([([110, 101, 116] : List UInt8), d2] : List (List UInt8))) ([([110, 101, 116] : List UInt8), d2] : List (List UInt8)), Qq m 93 #[(pt m 0), (.slice h7 (List.length f5) h8)], Q6 5 eU8 h7 h8 f5] := Z2 h6 [1, 0] [2, 3, 4] rfl rfl l8 rfl
        clear l8
        refine iF ?_
        refine aR ?_
        refine iR 2 2 [(60, (.int .i64 (IntKind.wrap .i64 (c2 + 1)))), (51, (.int .i64 (IntKind.wrap .i64 (c2 + 1))))] ?_
        refine iF ?_
        exact ⟨f5, (IntKind.wrap .i64 (c2 + 1)), h7, h8, ⟨K, K, K, K, K, K, K, K, K, trivial⟩, SP.sel v1 [4, 3, 0] rfl rfl, H⟩
       ·have H := cf H h3
        refine At.exit K (id := 2) K ?_
        refine aQ ?_
        refine aR ?_
        refine iR 1 1 [(61, (pt a0 4))] ?_
        refine iS 2 ?_
        refine sL 31 61 a0 4 2 (.slice a.2.2.2.2.1 (List.length (stT a).2.2.2.2) a.2.2.2.2.2.1) 62 e4 rfl ?_
        refine iR 2 4 [(63, (.int .i64 ((List.length (stT a).2.2.2.2 : Nat) : Int))), (64, (.int .i64 0))] ?_
        refine iF ?_
        refine Y0 K (id := 4) K ?_
        refine G3 K (fun h9 ρ w => ∃ (b2 : (List UInt8)) (c1 : Int) (b6 : Option Addr) (b7 : Nat), Zm ρ [(3, (pt m 0)), (4, (.func (.func 56) #[] #[(pt m 0)])), (31, (.slice A6 (List.length (List.map stT d9)) c7)), (32, (.int .i64 ((List.length (List.map stT d9) : Nat) : Int))), (33, (.int .i64 a1)), (62, (.slice a.2.2.2.2.1 (List.length (stT a).2.2.2.2) a.2.2.2.2.2.1)), (63, (.int .i64 ((List.length (stT a).2.2.2.2 : Nat) : Int))), (64, (.int .i64 c1))] ∧ SP [] w0 w [Q6 5 eU8 b6 b7 b2, Qq m 93 #[(pt m 0), (.slice b6 (List.length b2) b7)]] ∧ Z8 (Qz (List.map stT d9) c3) (Vu (Qz (List.map stT d9) c3) a1 (stT a) d6) a1 (stT a) h9 b2 c1 = some r) (by rintro ρ w ⟨b2, c1, b6, b7, hk, hs, H⟩; cases H) ?_ Xx ?_
        ·rintro h9 ρ ae3 ⟨b2, c1, b6, b7, hk, f6, H⟩
         refine At.known [(3, (pt m 0)), (4, (.func (.func 56) #[] #[(pt m 0)])), (31, (.slice A6 (List.length (List.map stT d9)) c7)), (32, (.int .i64 ((List.length (List.map stT d9) : Nat) : Int))), (33, (.int .i64 a1)), (62, (.slice a.2.2.2.2.1 (List.length (stT a).2.2.2.2) a.2.2.2.2.2.1)), (63, (.int .i64 ((List.length (stT a).2.2.2.2 : Nat) : Int))), (64, (.int .i64 c1))] hk ?_
         replace H := (show Z7 (Qz (List.map stT d9) c3) (Vu (Qz (List.map stT d9) c3) a1 (stT a) d6) (Z8 (Qz (List.map stT d9) c3) (Vu (Qz (List.map stT d9) c3) a1 (stT a) d6) a1 (stT a) h9) a1 (stT a) b2 c1 = some r from H)
         unfold Z7 at H
         refine aQ ?_
         refine aR ?_
         refine iR 1 1 [(65, (.bool (decide (c1 < ((List.length (stT a).2.2.2.2 : Nat) : Int)))))] ?_
         refine iF ?_
         refine aQ ?_
         refine Xe K (o := (.tmp 65)) K (b := (decide (c1 < ((List.length (stT a).2.2.2.2 : Nat) : Int)))) K (fun i0 => ?_) (fun i0 => ?_)
         ·have H := ct H i0
          refine At.skip K ?_
          refine aQ ?_
          refine Y0 K (id := 5) K ?_
          refine aQ ?_
          refine aR ?_
          obtain ⟨q, l9, m0, v2, H⟩ := Ve H
          refine iS 1 ?_
          refine Qn (e := (Qf Ql (Qf Ql (Q4 .i64)))) (l := (stT a).2.2.2.2) (A := a.2.2.2.2.1) (c := a.2.2.2.2.2.1) (T := 31) (E := 37) (x := (.tmp 62)) (ix := (.tmp 64)) (ki := .i64) (iz := c1) (d := (some 66)) (k := 0) K rfl K K K K (RdT.sp (Yh (dp2 (dp2 (dp2 (dp2 (Gr d0 e3)))))) f6) l9 m0 ?_
          intro v3 v4 v5 ae4 hc13578
          refine iS 2 ?_
          refine Qi.cells (t := 37) (x := (.tmp 66)) (b := v3) (off := (v4 + Int.toNat c1 * (Qf Ql (Qf Ql (Q4 .i64))).sz)) (xs := [(.string ⟨List.toArray q.1⟩), (.string ⟨List.toArray q.2.1⟩), (.int .i64 q.2.2)]) (d := (some 67)) (k := 1) K rfl K K K (Vv (e := (Qf Ql (Qf Ql (Q4 .i64)))) (Qj (RdT.sp (Yh (dp2 (dp2 (dp2 (dp2 (Gr d0 e3)))))) f6) v5 l9 m0) v2 rfl) ?_
          refine iS 3 ?_
          refine Qi.alloc (t := 37) (z := (.agg #[(.string ⟨List.toArray ([] : List UInt8)⟩), (.string ⟨List.toArray ([] : List UInt8)⟩), (.int .i64 0)])) (d := (some 10)) (k := 2) K rfl K f6 ?_
          intro a4 ae5 v6
          refine iS 4 ?_
          refine Qi.store (t := 37) (x := (.tmp 10)) (y := (.tmp 67)) (g := a4) (off := 0) (i := 2) (v := (.agg #[(.string ⟨List.toArray q.1⟩), (.string ⟨List.toArray q.2.1⟩), (.int .i64 q.2.2)])) (cs' := #[(.string ⟨List.toArray q.1⟩), (.string ⟨List.toArray q.2.1⟩), (.int .i64 q.2.2)]) (d := none) (k := 3) K rfl K K v6 rfl K ?_
          intro ae6 v7
          refine iF ?_
          obtain ⟨v8, H⟩ := G5 H
          obtain ⟨a8, v9, H⟩ := Qd H
          obtain ⟨b0, w1, H⟩ := Qd H
          obtain ⟨e0, w2, H⟩ := Qd H
          refine aG [GEq (.func (.func 56) #[] #[(pt m 0)]), GEq (pt a4 0), GEq (.string ⟨List.toArray q.1⟩), GEq (pt a4 1), GEq (.string ⟨List.toArray q.2.1⟩), Rp, GEq (.string ⟨List.toArray a8⟩), GEq (pt a4 2), GEq (.int .i64 q.2.2), GEq (.string ⟨List.toArray b0⟩), Rp, GEq (.tuple #[])] [5, 6, 9, 10, 11] [([], fun vs w => VL vs [] ∧ SP [] w0 w [Q6 5 eU8 b6 b7 b2, Qq m 93 #[(pt m 0), (.slice b6 (List.length b2) b7)], Qq a4 37 #[(.string ⟨List.toArray q.1⟩), (.string ⟨List.toArray q.2.1⟩), (.int .i64 q.2.2)]]), ([5], fun vs w => ∃ (c8 : Nat), ∃ (c9 : Nat), VL vs [(.slice (some ⟨c8, 0, none⟩) (List.length q.2.1) c9)] ∧ SP [] w0 w [Q6 5 eU8 b6 b7 b2, Qq m 93 #[(pt m 0), (.slice b6 (List.length b2) b7)], Qq a4 37 #[(.string ⟨List.toArray q.1⟩), (.string ⟨List.toArray q.2.1⟩), (.int .i64 q.2.2)], rdE eU8 (some ⟨c8, 0, none⟩) c9 q.2.1]), ([5, 6], fun vs w => ∃ (e1 : Nat), ∃ (e2 : Nat), VL vs [(.slice (some ⟨e1, 0, none⟩) (List.length q.2.1) e2), (.string ⟨List.toArray a8⟩)] ∧ SP [] w0 w [Q6 5 eU8 b6 b7 b2, Qq m 93 #[(pt m 0), (.slice b6 (List.length b2) b7)], Qq a4 37 #[(.string ⟨List.toArray q.1⟩), (.string ⟨List.toArray q.2.1⟩), (.int .i64 q.2.2)], rdE eU8 (some ⟨e1, 0, none⟩) e2 q.2.1]), ([5, 6, 9], fun vs w => ∃ (e5 : Nat), ∃ (e6 : Nat), VL vs [(.slice (some ⟨e5, 0, none⟩) (List.length q.2.1) e6), (.string ⟨List.toArray a8⟩), (.string ⟨List.toArray b0⟩)] ∧ SP [] w0 w [Q6 5 eU8 b6 b7 b2, Qq m 93 #[(pt m 0), (.slice b6 (List.length b2) b7)], Qq a4 37 #[(.string ⟨List.toArray q.1⟩), (.string ⟨List.toArray q.2.1⟩), (.int .i64 q.2.2)], rdE eU8 (some ⟨e5, 0, none⟩) e6 q.2.1]), ([5, 6, 9, 10], fun vs w => ∃ (e7 : Nat), ∃ (e8 : Nat), ∃ (d3 : Nat), VL vs [(.slice (some ⟨e7, 0, none⟩) (List.length q.2.1) e8), (.string ⟨List.toArray a8⟩), (.string ⟨List.toArray b0⟩), (.slice (some ⟨d3, 0, none⟩) (List.length ([([116, 111, 107, 101, 110] : List UInt8), q.1, a8, b0] : List (List UInt8))) (List.length ([([116, 111, 107, 101, 110] : List UInt8), q.1, a8, b0] : List (List UInt8))))] ∧ SP [] w0 w [Q6 5 eU8 b6 b7 b2, Qq m 93 #[(pt m 0), (.slice b6 (List.length b2) b7)], Qq a4 37 #[(.string ⟨List.toArray q.1⟩), (.string ⟨List.toArray q.2.1⟩), (.int .i64 q.2.2)], rdE eU8 (some ⟨e7, 0, none⟩) e8 q.2.1, Q6 9 Ql (some ⟨d3, 0, none⟩) (List.length ([([116, 111, 107, 101, 110] : List UInt8), q.1, a8, b0] : List (List UInt8))) ([([116, 111, 107, 101, 110] : List UInt8), q.1, a8, b0] : List (List UInt8))]), ([5, 6, 9, 10, 11], fun vs w => ∃ (i1 : Nat), ∃ (i2 : Nat), ∃ (i3 : Nat), ∃ (f7 : Option Addr), ∃ (f8 : Nat), VL vs [(.slice (some ⟨i1, 0, none⟩) (List.length q.2.1) i2), (.string ⟨List.toArray a8⟩), (.string ⟨List.toArray b0⟩), (.slice (some ⟨i3, 0, none⟩) (List.length ([([116, 111, 107, 101, 110] : List UInt8), q.1, a8, b0] : List (List UInt8))) (List.length ([([116, 111, 107, 101, 110] : List UInt8), q.1, a8, b0] : List (List UInt8)))), (.tuple #[])] ∧ SP [] w0 w [Qq a4 37 #[(.string ⟨List.toArray q.1⟩), (.string ⟨List.toArray q.2.1⟩), (.int .i64 q.2.2)], rdE eU8 (some ⟨i1, 0, none⟩) i2 q.2.1, Q6 9 Ql (some ⟨i3, 0, none⟩) (List.length ([([116, 111, 107, 101, 110] : List UInt8), q.1, a8, b0] : List (List UInt8))) ([([116, 111, 107, 101, 110] : List UInt8), q.1, a8, b0] : List (List UInt8)), Qq m 93 #[(pt m 0), (.slice f7 (List.length e0) f8)], Q6 5 eU8 f7 f8 e0])] 12 5 ⟨trivial, SP.drew v7⟩ ?_ ?_
          iterate 12 refine And.intro ?_ ?_
          exact trivial
          ·exact oV (hC (hS 4 (.func (.func 56) #[] #[(pt m 0)])) (h0)) (.func (.func 56) #[] #[(pt m 0)])
          ·exact oV (hC (hS 10 (pt a4 0)) (h0)) (pt a4 0)
          ·refine Owe.light K [0, 1, 2, 3] K (Qc ?_ (Qc ?_ (Qc ?_ (Qc ?_ Q8))))
           ·rintro ρ' w' hs s ⟨ae7, w3⟩
            refine kM (kc (kA s 1 69) k0) fun p => ?_
            refine sL 9 69 a4 0 2 (.string ⟨List.toArray q.1⟩) 70 w3 rfl ?_
            exact eK p
           ·rintro ρ' w' hs s ⟨c8, c9, ⟨ae8, -⟩, w4⟩
            refine kM (kc (kA s 1 69) k0) fun p => ?_
            refine sL 9 69 a4 0 2 (.string ⟨List.toArray q.1⟩) 70 w4 rfl ?_
            exact eK p
           ·rintro ρ' w' hs s ⟨e1, e2, ⟨ae9, af0, -⟩, w5⟩
            refine kM (kc (kA s 1 69) k0) fun p => ?_
            refine sL 9 69 a4 0 2 (.string ⟨List.toArray q.1⟩) 70 w5 rfl ?_
            exact eK p
           ·rintro ρ' w' hs s ⟨e5, e6, ⟨af1, af2, af3, -⟩, w6⟩
            refine kM (kc (kA s 1 69) k0) fun p => ?_
            refine sL 9 69 a4 0 2 (.string ⟨List.toArray q.1⟩) 70 w6 rfl ?_
            exact eK p
          ·exact oV (hC (hS 10 (pt a4 0)) (h0)) (pt a4 1)
          ·refine oL 0 ?_
           ·rintro ρ' w' hs s ⟨af4, w7⟩
            refine kM (kc (kA s 3 71) k0) fun p => ?_
            refine sL 9 71 a4 1 2 (.string ⟨List.toArray q.2.1⟩) 72 w7 rfl ?_
            exact eK p
          ·refine oH 0 1 ?_
           ·rintro ρ' w' hs s ⟨af5, w8⟩
            refine kM (kc (kA s 4 72) k0) fun p => ?_
            refine B6 (S' := 9) (T := 48) (E := 5) (x := (.tmp 72)) (l := q.2.1) (d := (some 73)) (k := 5) K rfl K K K K (B7 v8) w8 ?_
            intro m1 m2 w9 m3 _
            have x0 : SP [] w0 w9 [Q6 5 eU8 b6 b7 b2, Qq m 93 #[(pt m 0), (.slice b6 (List.length b2) b7)], Qq a4 37 #[(.string ⟨List.toArray q.1⟩), (.string ⟨List.toArray q.2.1⟩), (.int .i64 q.2.2)], rdE eU8 (some ⟨m1, 0, none⟩) m2 q.2.1] := m3
            clear m3
            refine ⟨_, Qa p, trivial, ?_⟩
            exact (Exists.intro m1 (Exists.intro m2 (And.intro (And.intro rfl (trivial)) x0)))
          ·refine oH 1 2 ?_
           ·rintro ρ' w' hs s ⟨c8, c9, ⟨m4, -⟩, m5⟩
            refine kN [(73, (.slice (some ⟨c8, 0, none⟩) (List.length q.2.1) c9))] ⟨(Vo (h := 5) K).symm.trans m4, trivial⟩ fun p => ?_
            refine cF 61 #[(.tmp 73)] #[48] 74 Tryz.call61 (B0 (some ⟨c8, 0, none⟩) c9 q.2.1 w' (rdE_rd (SP.get m5 (i := 3) rfl)) a8 v9) ?_
            rintro e af6 ⟨rfl, m6⟩
            refine ⟨_, rfl, ?_⟩
            have x1 := SP.call m5 m6
            clear m6
            refine ⟨_, Qa p, rfl, ?_⟩
            exact (Exists.intro c8 (Exists.intro c9 (And.intro (And.intro m4 (And.intro rfl (trivial))) x1)))
          ·exact oV (hC (hS 10 (pt a4 0)) (h0)) (pt a4 2)
          ·refine Owe.light K [0, 1, 2] K (Qc ?_ (Qc ?_ (Qc ?_ Q8)))
           ·rintro ρ' w' hs s ⟨af7, x2⟩
            refine kM (kc (kA s 7 75) k0) fun p => ?_
            refine sL 2 75 a4 2 2 (.int .i64 q.2.2) 76 x2 rfl ?_
            exact eK p
           ·rintro ρ' w' hs s ⟨c8, c9, ⟨af8, -⟩, x3⟩
            refine kM (kc (kA s 7 75) k0) fun p => ?_
            refine sL 2 75 a4 2 2 (.int .i64 q.2.2) 76 x3 rfl ?_
            exact eK p
           ·rintro ρ' w' hs s ⟨e1, e2, ⟨af9, ag0, -⟩, x4⟩
            refine kM (kc (kA s 7 75) k0) fun p => ?_
            refine sL 2 75 a4 2 2 (.int .i64 q.2.2) 76 x4 rfl ?_
            exact eK p
          ·refine oH 2 3 ?_
           ·rintro ρ' w' hs s ⟨e1, e2, ⟨x5, x6, -⟩, m7⟩
            refine kM (kc (kA s 8 76) k0) fun p => ?_
            refine cF 59 #[(.tmp 76)] #[2] 77 Tryz.call59 (Vz  q.2.2 w' (Q0 hL (SP.keeps m7)) b0 w1) ?_
            rintro e ag1 ⟨rfl, m8⟩
            refine ⟨_, rfl, ?_⟩
            have x7 := SP.call m7 m8
            clear m8
            refine ⟨_, Qa p, rfl, ?_⟩
            exact (Exists.intro e1 (Exists.intro e2 (And.intro (And.intro x5 (And.intro x6 (And.intro rfl (trivial)))) x7)))
          ·refine oH 3 4 ?_
           ·rintro ρ' w' hs s ⟨e5, e6, ⟨x8, m9, n0, -⟩, x9⟩
            refine kN [(70, (.string ⟨List.toArray q.1⟩)), (74, (.string ⟨List.toArray a8⟩)), (77, (.string ⟨List.toArray b0⟩))] ⟨s 2 70 K, (Vo (h := 6) K).symm.trans m9, (Vo (h := 9) K).symm.trans n0, trivial⟩ fun p => ?_
            refine Vt (e := Ql) (T := 79) (E := 9) (len := 4) (parts := #[(0, (.const (.string ⟨List.toArray ([116, 111, 107, 101, 110] : List UInt8)⟩))), (1, (.tmp 70)), (2, (.tmp 74)), (3, (.tmp 77))]) (cs := #[(.string ⟨List.toArray ([116, 111, 107, 101, 110] : List UInt8)⟩), (.string ⟨List.toArray q.1⟩), (.string ⟨List.toArray a8⟩), (.string ⟨List.toArray b0⟩)]) ([([116, 111, 107, 101, 110] : List UInt8), q.1, a8, b0] : List (List UInt8)) (d := (some 78)) (k := 10) K rfl (fun _ => K) x9 rfl rfl rfl rfl ?_
            intro y0 ag2 y1
            refine ⟨_, Qa p, trivial, ?_⟩
            exact (Exists.intro e5 (Exists.intro e6 (Exists.intro y0 (And.intro (And.intro x8 (And.intro m9 (And.intro n0 (And.intro rfl (trivial))))) y1))))
          ·refine oH 4 5 ?_
           ·rintro ρ' w' hs s ⟨e7, e8, d3, ⟨y2, y3, y4, n1, -⟩, i4⟩
            refine kN [(68, (.func (.func 56) #[] #[(pt m 0)])), (78, (.slice (some ⟨d3, 0, none⟩) (List.length ([([116, 111, 107, 101, 110] : List UInt8), q.1, a8, b0] : List (List UInt8))) (List.length ([([116, 111, 107, 101, 110] : List UInt8), q.1, a8, b0] : List (List UInt8)))))] ⟨s 0 68 K, (Vo (h := 10) K).symm.trans n1, trivial⟩ fun p => ?_
            refine X0 (f := 56) (fo := (.tmp 68)) (xs := #[(.tmp 78)]) (tys := #[79]) (first := #[]) (captured := #[(pt m 0)]) (d := (some 79)) (k := 11) K rfl K K Tryz.call56 (Yp (some ⟨d3, 0, none⟩) (List.length ([([116, 111, 107, 101, 110] : List UInt8), q.1, a8, b0] : List (List UInt8))) m (pt m 0) b6 b7 ([([116, 111, 107, 101, 110] : List UInt8), q.1, a8, b0] : List (List UInt8)) b2 w' (Jw i4 [1, 0] rfl rfl) (fun w hm => (Vg (SP.still i4 (l := [1, 0]) (i := 4) rfl rfl rfl hm))) (.inr rfl) e0 w2) ?_
            rintro e y5 ⟨i5, i6, rfl, n2⟩
            refine ⟨_, rfl, ?_⟩
            have y6 : SP [] w0 y5 [Qq a4 37 #[(.string ⟨List.toArray q.1⟩), (.string ⟨List.toArray q.2.1⟩), (.int .i64 q.2.2)], rdE eU8 (some ⟨e7, 0, none⟩) e8 q.2.1, Q6 9 Ql (some ⟨d3, 0, none⟩) (List.length ([([116, 111, 107, 101, 110] : List UInt8), q.1, a8, b0] : List (List UInt8))) ([([116, 111, 107, 101, 110] : List UInt8), q.1, a8, b0] : List (List UInt8)), Qq m 93 #[(pt m 0), (.slice i5 (List.length e0) i6)], Q6 5 eU8 i5 i6 e0] := Z2 i4 [1, 0] [2, 3, 4] rfl rfl n2 rfl
            clear n2
            refine ⟨_, Qa p, rfl, ?_⟩
            exact (Exists.intro e7 (Exists.intro e8 (Exists.intro d3 (Exists.intro i5 (Exists.intro i6 (And.intro (And.intro y2 (And.intro y3 (And.intro y4 (And.intro n1 (And.intro rfl (trivial)))))) y6))))))
          ·rintro ρ' w' hs hf ⟨i1, i2, i3, f7, f8, ⟨ag3, ag4, ag5, ag6, ag7, -⟩, n3⟩
           refine V2 [(3, (pt m 0)), (4, (.func (.func 56) #[] #[(pt m 0)])), (31, (.slice A6 (List.length (List.map stT d9)) c7)), (32, (.int .i64 ((List.length (List.map stT d9) : Nat) : Int))), (33, (.int .i64 a1)), (62, (.slice a.2.2.2.2.1 (List.length (stT a).2.2.2.2) a.2.2.2.2.2.1)), (63, (.int .i64 ((List.length (stT a).2.2.2.2 : Nat) : Int))), (64, (.int .i64 c1))] ⟨(hs 3 K).trans K, (hs 4 K).trans K, (hs 31 K).trans K, (hs 32 K).trans K, (hs 33 K).trans K, (hs 62 K).trans K, (hs 63 K).trans K, (hs 64 K).trans K, trivial⟩ ?_
           obtain ⟨ag8, y7⟩ : ∃ x, w' = x := ⟨_, rfl⟩
           rw [y7] at n3 ⊢
           refine aR ?_
           refine iR 2 2 [(80, (.int .i64 (IntKind.wrap .i64 (c1 + 1)))), (64, (.int .i64 (IntKind.wrap .i64 (c1 + 1))))] ?_
           refine iF ?_
           exact ⟨e0, (IntKind.wrap .i64 (c1 + 1)), f7, f8, ⟨K, K, K, K, K, K, K, K, trivial⟩, SP.sel n3 [4, 3] rfl rfl, H⟩
         ·have H := cf H i0
          refine At.exit K (id := 4) K ?_
          refine aR ?_
          refine iR 2 2 [(81, (.int .i64 (IntKind.wrap .i64 (a1 + 1)))), (33, (.int .i64 (IntKind.wrap .i64 (a1 + 1))))] ?_
          refine iF ?_
          exact ⟨b2, (IntKind.wrap .i64 (a1 + 1)), b6, b7, ⟨K, K, K, K, K, trivial⟩, SP.sel f6 [0, 1] rfl rfl, H⟩
        ·exact ⟨c6, 0, d7, d8, ⟨K, K, K, K, K, K, K, K, trivial⟩, SP.sel e4 [0, 1] rfl rfl, H⟩
      ·exact ⟨d5, 0, f3, f4, ⟨K, K, K, K, K, K, K, K, K, trivial⟩, SP.sel h2 [3, 2, 0] rfl rfl, H⟩
    ·have H := cf H g6
     refine At.exit K (id := 0) K ?_
     refine aQ ?_
     refine aR ?_
     refine iS 1 ?_
     refine cF 62 #[(.tmp 3)] #[93] 82 Tryz.call62 (Lu (g := m) (v := (pt m 0)) (A := b9) (c := c0) (l := b5) f2 (i := 1) (j := 0) rfl rfl (by decide) (.inr rfl)) ?_
     rintro e y8 ⟨rfl, n4⟩
     refine ⟨_, rfl, ?_⟩
     have y9 : SP [] w0 y8 [] := n4
     clear n4
     refine iR 1 2 [(2, (.string ⟨List.toArray b5⟩))] ?_
     refine iF ?_
     refine At.ret K ?_
     refine ⟨(.string ⟨List.toArray b5⟩), K, ?_⟩
     obtain rfl := Qg H
     exact ⟨rfl, SP.sel y9 [] rfl rfl⟩
   ·exact ⟨d4, 0, f0, f1, ⟨K, K, K, K, K, trivial⟩, SP.sel g5 [3, 2] rfl rfl, H⟩
end Go.Proofs.YtoflbpmbkmephaaGreatDoor
namespace Go.Proofs.YtoflbpmbkmephaaGreatDoor
open Go.RowKit
def Jh (ws : List Str) : Str := Nr 32 ws ++ [10]
def Ij (n : H0) : List Str := [Gy, Gg n.1.toNat n.2]
def Ie (x : C6) : List Str := [Js, x.1, Fh x.2.1, G7 x.2.2]
def B1 (t : Qb) : List Str := [Zd, t.1, G7 t.2.1, G7 t.2.2.1]
def Ng (c : Nj) : List Str := [Za, G7 c.1, G7 c.2.1, G7 c.2.2.1, G7 c.2.2.2.1]
def Rj (t : Qb) : List (List Str) := B1 t :: (t.2.2.2.1.map Ij ++ t.2.2.2.2.map Ie)
def Nl (c : Nj) : List (List Str) := Ng c :: c.2.2.2.2.flatMap Rj
def Uu (c : Nj) : Str := if okC c = true then (Nl c).flatMap Jh else []
theorem Lv (a : Nat) (b : Int) : (Gg a b).length ≤ 5000 := by
  unfold Gg
  cases h : Nn a b with
  | false => simp
  | true =>
    have h1 := C5 a
    have h2 := Np h
    have h3 := Gh b
    unfold G7 at h3
    rw [if_pos (by omega)] at h3
    simp only [List.length_append, List.length_cons]
    omega
theorem If {ws : List Str} {m k : Nat} (h : ∀ w ∈ ws, w.length ≤ m) (hk : ws.length ≤ k) : (Jh ws).length ≤ k * m + k + 1 := by
  have h1 := H8 32 ws
  have h2 : (ws.map List.length).sum ≤ ws.length * m := by
    clear h1 hk
    induction ws with
    | nil => simp
    | cons w ws ih =>
      have := ih fun x hx => h x (by simp [hx])
      have := h w (by simp)
      simp only [List.map_cons, List.sum_cons, List.length_cons, Nat.succ_mul]
      omega
  have h3 : ws.length * m ≤ k * m := Nat.mul_le_mul_right _ hk
  unfold Jh
  simp only [List.length_append, List.length_cons, List.length_nil]
  omega
theorem Ky (ws : List Str) (out : Str) (h : ∀ w ∈ ws, w.length ≤ 10000) (hk : ws.length ≤ 5) (ho : out.length ≤ 2000000000) : Xd ws out = some (out ++ Jh ws) := by
  have hl := If h hk
  unfold Jh at hl ⊢
  simp only [List.length_append, List.length_cons, List.length_nil] at hl
  unfold Xd Jb Zr
  rw [Fk, Nat.ble_eq_true_of_le (show ws.length ≤ 140737488355328 by omega), Nat.ble_eq_true_of_le (show (Nr 32 ws).length ≤ 140737488355328 by omega)]
  simp only [Bool.and_true, cond_true, Option.bind_some]
  rw [Nm (by simp; omega), Option.bind_some, Nm (by simp; omega)]
  rfl
def SmT (t : Qb) : Prop := t.1.length ≤ 5000 ∧ t.2.2.2.1.length ≤ 4 ∧ t.2.2.2.2.length ≤ 4 ∧ (∀ n ∈ t.2.2.2.1, 0 ≤ n.1 ∧ n.1 < 4294967296) ∧ ∀ x ∈ t.2.2.2.2, x.1.length ≤ 5000 ∧ x.2.1.length ≤ 5000
theorem netW_ok (n : H0) : (∀ w ∈ Ij n, w.length ≤ 10000) ∧ (Ij n).length ≤ 5 := by
  refine ⟨fun w hw => ?_, by simp [Ij]⟩
  have := Lv n.1.toNat n.2
  simp only [Ij, List.mem_cons, List.not_mem_nil, or_false] at hw
  rcases hw with rfl | rfl
  · decide
  · omega
theorem tokW_ok {x : C6} (h : x.1.length ≤ 5000 ∧ x.2.1.length ≤ 5000) : (∀ w ∈ Ie x, w.length ≤ 10000) ∧ (Ie x).length ≤ 5 := by
  refine ⟨fun w hw => ?_, by simp [Ie]⟩
  have h1 := Gh x.2.2
  have h2 := N6 x.2.1
  simp only [Ie, List.mem_cons, List.not_mem_nil, or_false] at hw
  rcases hw with rfl | rfl | rfl | rfl
  · decide
  · omega
  · omega
  · omega
theorem tenW_ok {t : Qb} (h : t.1.length ≤ 5000) : (∀ w ∈ B1 t, w.length ≤ 10000) ∧ (B1 t).length ≤ 5 := by
  refine ⟨fun w hw => ?_, by simp [B1]⟩
  have h1 := Gh t.2.1
  have h2 := Gh t.2.2.1
  simp only [B1, List.mem_cons, List.not_mem_nil, or_false] at hw
  rcases hw with rfl | rfl | rfl | rfl
  · decide
  · omega
  · omega
  · omega
theorem Ig (c : Nj) : (∀ w ∈ Ng c, w.length ≤ 10000) ∧ (Ng c).length ≤ 5 := by
  refine ⟨fun w hw => ?_, by simp [Ng]⟩
  have h1 := Gh c.1
  have h2 := Gh c.2.1
  have h3 := Gh c.2.2.1
  have h4 := Gh c.2.2.2.1
  simp only [Ng, List.mem_cons, List.not_mem_nil, or_false] at hw
  rcases hw with rfl | rfl | rfl | rfl | rfl
  · decide
  · omega
  · omega
  · omega
  · omega
theorem Rk {ws : List Str} (h : (∀ w ∈ ws, w.length ≤ 10000) ∧ ws.length ≤ 5) : (Jh ws).length ≤ 60000 := by
  have := If h.1 h.2
  omega
theorem Kc {α : Type} (g : α → List Str) : ∀ l : List α, (∀ x ∈ l, (∀ w ∈ g x, w.length ≤ 10000) ∧ (g x).length ≤ 5) → (l.flatMap fun x => Jh (g x)).length ≤ l.length * 60000
  | [], _ => by simp
  | x :: l, h => by
    have h1 := Kc g l fun y hy => h y (by simp [hy])
    have h2 := Rk (h x (by simp))
    simp only [List.flatMap_cons, List.length_append, List.length_cons, Nat.succ_mul]
    omega
theorem Fo (t : Qb) : (Rj t).flatMap Jh = Jh (B1 t) ++ ((t.2.2.2.1.flatMap fun n => Jh (Ij n)) ++ t.2.2.2.2.flatMap fun x => Jh (Ie x)) := by
  unfold Rj
  rw [List.flatMap_cons, List.flatMap_append, List.flatMap_map, List.flatMap_map]
theorem Kz {t : Qb} (h : SmT t) : ((Rj t).flatMap Jh).length ≤ 600000 := by
  obtain ⟨h1, h2, h3, h4, h5⟩ := h
  have a1 := Rk (tenW_ok h1)
  have a2 := Kc Ij t.2.2.2.1 fun n _ => netW_ok n
  have a3 := Kc Ie t.2.2.2.2 fun x hx => tokW_ok (h5 x hx)
  rw [Fo]
  simp only [List.length_append]
  have : t.2.2.2.1.length * 60000 ≤ 4 * 60000 := Nat.mul_le_mul_right _ h2
  have : t.2.2.2.2.length * 60000 ≤ 4 * 60000 := Nat.mul_le_mul_right _ h3
  omega
theorem pTok_loop (r16 r20 : Str → Int → Option Str) (v : Int) (t : Qb) (ht : SmT t) : ∀ (d i f : Nat) (out : Str), d = t.2.2.2.2.length - i → i ≤ t.2.2.2.2.length → d < f → out.length + d * 60000 ≤ 2000000000 →
    Z8 r16 r20 v t f out (i : Int) = r16 (out ++ (t.2.2.2.2.drop i).flatMap fun x => Jh (Ie x)) (IntKind.wrap .i64 (v + 1)) := by
  intro d
  induction d with
  | zero =>
    intro i f out hd hi hf ho
    obtain ⟨f, rfl⟩ : ∃ g, f = g + 1 := ⟨f - 1, by omega⟩
    show Z7 r16 r20 (Z8 r16 r20 v t f) v t out (i : Int) = _
    unfold Z7
    rw [show decide ((i : Int) < ((List.length t.2.2.2.2 : Nat) : Int)) = false from decide_eq_false (by omega), cond_false, List.drop_of_length_le (by omega)]
    simp
  | succ d ih =>
    intro i f out hd hi hf ho
    obtain ⟨f, rfl⟩ : ∃ g, f = g + 1 := ⟨f - 1, by omega⟩
    have hlt : i < t.2.2.2.2.length := by omega
    have h2 := ht.2.2.1
    have hx := ht.2.2.2.2 _ (List.getElem_mem hlt)
    have hw := tokW_ok hx
    have hle := Rk hw
    show Z7 r16 r20 (Z8 r16 r20 v t f) v t out (i : Int) = _
    unfold Z7
    rw [show decide ((i : Int) < ((List.length t.2.2.2.2 : Nat) : Int)) = true from decide_eq_true (by omega), cond_true, Y3 hlt, Option.bind_some, Nat.ble_eq_true_of_le (show (t.2.2.2.2[i]).2.1.length ≤ 281474976710656 by omega), show chk true = some () from rfl, Option.bind_some, prog_hex _ (by omega), Option.bind_some, U6, Option.bind_some]
    have hp := Ky (Ie t.2.2.2.2[i]) out hw.1 hw.2 (by omega)
    unfold Ie at hp
    rw [hp, Option.bind_some, show ((i : Int) + 1) = ((i + 1 : Nat) : Int) by omega, J5 (by omega)]
    have hle' : (Jh [Js, (t.2.2.2.2[i]).1, Fh (t.2.2.2.2[i]).2.1, G7 (t.2.2.2.2[i]).2.2]).length ≤ 60000 := hle
    rw [ih (i + 1) f _ (by omega) (by omega) (by omega) (by simp only [List.length_append]; omega), List.drop_eq_getElem_cons hlt, List.flatMap_cons, ← List.append_assoc]
    rfl
theorem pNet_loop (r16 : Str → Int → Option Str) (v : Int) (t : Qb) (ht : SmT t) : ∀ (d i f : Nat) (out : Str), d = t.2.2.2.1.length - i → i ≤ t.2.2.2.1.length → d < f → out.length + d * 60000 + 300000 ≤ 2000000000 →
    Vu r16 v t f out (i : Int) = r16 (out ++ ((t.2.2.2.1.drop i).flatMap fun n => Jh (Ij n)) ++ t.2.2.2.2.flatMap fun x => Jh (Ie x)) (IntKind.wrap .i64 (v + 1)) := by
  intro d
  induction d with
  | zero =>
    intro i f out hd hi hf ho
    obtain ⟨f, rfl⟩ : ∃ g, f = g + 1 := ⟨f - 1, by omega⟩
    show Z9 r16 (Vu r16 v t f) v t out (i : Int) = _
    unfold Z9
    have := pTok_loop r16 (Vu r16 v t f) v t ht t.2.2.2.2.length 0 Xx out (by omega) (by omega) (by have := ht.2.2.1; unfold Xx; omega) (by have := ht.2.2.1; omega)
    rw [show ((0 : Nat) : Int) = 0 from rfl, List.drop_zero] at this
    rw [show decide ((i : Int) < ((List.length t.2.2.2.1 : Nat) : Int)) = false from decide_eq_false (by omega), cond_false, List.drop_of_length_le (by omega), this]
    simp
  | succ d ih =>
    intro i f out hd hi hf ho
    obtain ⟨f, rfl⟩ : ∃ g, f = g + 1 := ⟨f - 1, by omega⟩
    have hlt : i < t.2.2.2.1.length := by omega
    have h2 := ht.2.1
    obtain ⟨hn0, hn1⟩ := ht.2.2.2.1 _ (List.getElem_mem hlt)
    have hw := netW_ok t.2.2.2.1[i]
    have hle := Rk hw
    show Z9 r16 (Vu r16 v t f) v t out (i : Int) = _
    unfold Z9
    have hs := lSlash (t.2.2.2.1[i]).1.toNat (by omega) (t.2.2.2.1[i]).2
    rw [show (((t.2.2.2.1[i]).1.toNat : Nat) : Int) = (t.2.2.2.1[i]).1 by omega] at hs
    rw [show decide ((i : Int) < ((List.length t.2.2.2.1 : Nat) : Int)) = true from decide_eq_true (by omega), cond_true, Y3 hlt, Option.bind_some, hs, Option.bind_some]
    have hp := Ky (Ij t.2.2.2.1[i]) out hw.1 hw.2 (by omega)
    unfold Ij at hp
    rw [hp, Option.bind_some, show ((i : Int) + 1) = ((i + 1 : Nat) : Int) by omega, J5 (by omega)]
    have hle' : (Jh [Gy, Gg (t.2.2.2.1[i]).1.toNat (t.2.2.2.1[i]).2]).length ≤ 60000 := hle
    rw [ih (i + 1) f _ (by omega) (by omega) (by omega) (by simp only [List.length_append]; omega), List.drop_eq_getElem_cons hlt, List.flatMap_cons, ← List.append_assoc]
    rfl
theorem pTen_loop (l : List Qb) (hl : l.length ≤ 8) (ht : ∀ t ∈ l, SmT t) : ∀ (d i f : Nat) (out : Str), d = l.length - i → i ≤ l.length → d < f → out.length + d * 600000 ≤ 1000000000 →
    Qz l f out (i : Int) = some (out ++ (l.drop i).flatMap fun t => (Rj t).flatMap Jh) := by
  intro d
  induction d with
  | zero =>
    intro i f out hd hi hf ho
    obtain ⟨f, rfl⟩ : ∃ g, f = g + 1 := ⟨f - 1, by omega⟩
    show Xa (Qz l f) l out (i : Int) = _
    unfold Xa
    rw [show decide ((i : Int) < ((List.length l : Nat) : Int)) = false from decide_eq_false (by omega), cond_false, List.drop_of_length_le (by omega)]
    simp
  | succ d ih =>
    intro i f out hd hi hf ho
    obtain ⟨f, rfl⟩ : ∃ g, f = g + 1 := ⟨f - 1, by omega⟩
    have hlt : i < l.length := by omega
    have hs := ht _ (List.getElem_mem hlt)
    have hw := tenW_ok hs.1
    have hle := Rk hw
    have htl := Kz hs
    show Xa (Qz l f) l out (i : Int) = _
    unfold Xa
    rw [show decide ((i : Int) < ((List.length l : Nat) : Int)) = true from decide_eq_true (by omega), cond_true, Y3 hlt, Option.bind_some, U6, Option.bind_some, U6, Option.bind_some]
    have hp := Ky (B1 l[i]) out hw.1 hw.2 (by omega)
    unfold B1 at hp
    have hle' : (Jh [Zd, (l[i]).1, G7 (l[i]).2.1, G7 (l[i]).2.2.1]).length ≤ 60000 := hle
    have hnet := pNet_loop (Qz l f) (i : Int) l[i] hs l[i].2.2.2.1.length 0 Xx (out ++ Jh [Zd, (l[i]).1, G7 (l[i]).2.1, G7 (l[i]).2.2.1]) (by omega) (by omega) (by have := hs.2.1; unfold Xx; omega) (by have := hs.2.1; simp only [List.length_append]; omega)
    rw [show ((0 : Nat) : Int) = 0 from rfl, List.drop_zero] at hnet
    rw [hp, Option.bind_some, hnet, show ((i : Int) + 1) = ((i + 1 : Nat) : Int) by omega, J5 (by omega), List.append_assoc, List.append_assoc]
    have he : Jh [Zd, (l[i]).1, G7 (l[i]).2.1, G7 (l[i]).2.2.1] ++ ((l[i].2.2.2.1.flatMap fun n => Jh (Ij n)) ++ l[i].2.2.2.2.flatMap fun x => Jh (Ie x)) = (Rj l[i]).flatMap Jh := (Fo l[i]).symm
    rw [he, ih (i + 1) f _ (by omega) (by omega) (by omega) (by simp only [List.length_append]; omega), List.drop_eq_getElem_cons hlt, List.flatMap_cons, ← List.append_assoc]
theorem okC_sm {c : Nj} (hq : ∀ t ∈ c.2.2.2.2, TenQ t) (ho : okC c = true) : c.2.2.2.2.length ≤ 8 ∧ ∀ t ∈ c.2.2.2.2, SmT t ∧ D2 t = true := by
  unfold okC H3 at ho
  simp only [Bool.and_eq_true, decide_eq_true_eq, List.all_eq_true] at ho
  obtain ⟨_, h1, h2, _⟩ := ho
  refine ⟨h1, fun t ht => ⟨?_, h2 t ht⟩⟩
  have h3 := h2 t ht
  obtain ⟨q1, q2, q3, q4, q5⟩ := hq t ht
  unfold D2 at h3
  simp only [Bool.and_eq_true, decide_eq_true_eq, List.all_eq_true] at h3
  obtain ⟨⟨_, hk⟩, ⟨hn, h4, h5⟩, _⟩ := h3
  refine ⟨by have := Kp hn; omega, h4, h5, q4, fun x hx => ?_⟩
  have hx' := hk x hx
  unfold C7 at hx'
  simp only [Bool.and_eq_true, decide_eq_true_eq] at hx'
  exact ⟨by have := Kp hx'.1; omega, by omega⟩
theorem pPrint (c : Nj) (hl : c.2.2.2.2.length ≤ 140737488355328) (hq : ∀ t ∈ c.2.2.2.2, TenQ t) : Jf c.1 c.2.1 c.2.2.1 c.2.2.2.1 c.2.2.2.2 = some (Uu c) := by
  unfold Jf Uu
  rw [lCfg _ _ _ _ _ hl hq, Option.bind_some]
  show cond (!okC c) _ _ = _
  cases ho : okC c with
  | false => rfl
  | true =>
    obtain ⟨h1, h2⟩ := okC_sm hq ho
    have hw := Ig c
    have hle := Rk hw
    have hp := Ky (Ng c) [] hw.1 hw.2 (by simp)
    unfold Ng at hp
    have hle' : (Jh [Za, G7 c.1, G7 c.2.1, G7 c.2.2.1, G7 c.2.2.2.1]).length ≤ 60000 := hle
    have ht := pTen_loop c.2.2.2.2 h1 (fun t ht => (h2 t ht).1) c.2.2.2.2.length 0 Xx (Jh (Ng c)) (by omega) (by omega) (by unfold Xx; omega) (by omega)
    rw [show ((0 : Nat) : Int) = 0 from rfl, List.drop_zero] at ht
    rw [Bool.not_true, cond_false, U6, Option.bind_some, U6, Option.bind_some, U6, Option.bind_some, U6, Option.bind_some, hp, Option.bind_some, List.nil_append, if_pos rfl]
    unfold Nl
    rw [List.flatMap_cons, List.flatMap_assoc]
    exact ht
end Go.Proofs.YtoflbpmbkmephaaGreatDoor
namespace Go.Proofs.YtoflbpmbkmephaaGreatDoor
open Go.RowKit
open Go.Lib (decDigits)
theorem G0 (c : Nj) (l : List Qb) (t : Qb) : Nl (Rh c (l ++ [t])) = (Ng c :: l.flatMap Rj) ++ Rj t := by
  unfold Nl Rh
  simp [Ng]
theorem tenLs_net {t : Qb} (n : H0) (h : t.2.2.2.2 = []) : Rj (Cc t n) = Rj t ++ [Ij n] := by
  unfold Rj Cc
  simp [h, B1]
theorem tenLs_tok (t : Qb) (x : C6) : Rj (Ej t x) = Rj t ++ [Ie x] := by
  unfold Rj Ej
  simp [B1]
theorem Ep (p : Str) (ps : List Str) (c : Nj) (n : Nat) : Kb (p :: ps) c n = match Ek c (decide (n = 0)) (Qx 32 p) with
    | none => .inl n
    | some c' => Kb ps c' (n + 1) := rfl
theorem Ha : ∀ (ps qs : List Str) (c : Nj) (n : Nat), Kb (ps ++ qs) c n = match Kb ps c n with | .inl a => .inl a | .inr (c', n') => Kb qs c' n'
  | [], qs, c, n => rfl
  | p :: ps, qs, c, n => by
    rw [List.cons_append, Ep, Ep]
    cases Ek c (decide (n = 0)) (Qx 32 p) with
    | none => rfl
    | some c1 => exact Ha ps qs c1 (n + 1)
def noW (w : Str) : Prop := (32 : UInt8) ∉ w ∧ (10 : UInt8) ∉ w
theorem K0 (n : Int) : noW (G7 n) := ⟨dec_no' (by decide) n, dec_no' (by decide) n⟩
theorem no_hex (s : Str) : noW (Fh s) := ⟨hex_no (by decide) s, hex_no (by decide) s⟩
theorem no_name {s : Str} (h : R2 s = true) : noW s := ⟨name_no (by decide) h, name_no (by decide) h⟩
theorem no_slash (a : Nat) (b : Int) : noW (Gg a b) := by
  unfold Gg
  cases Nn a b with
  | false => exact ⟨by simp, by simp⟩
  | true =>
    refine ⟨?_, ?_⟩
    · simp only [List.mem_append, List.mem_cons, not_or]
      exact ⟨dots_no (by decide) (by decide) a, by decide, Bk (by decide)⟩
    · simp only [List.mem_append, List.mem_cons, not_or]
      exact ⟨dots_no (by decide) (by decide) a, by decide, Bk (by decide)⟩
theorem no_tok {x : C6} (h : C7 x = true) : ∀ w ∈ Ie x, noW w := by
  unfold C7 at h
  simp only [Bool.and_eq_true] at h
  intro w hw
  simp only [Ie, List.mem_cons, List.not_mem_nil, or_false] at hw
  rcases hw with rfl | rfl | rfl | rfl
  · exact ⟨by decide, by decide⟩
  · exact no_name h.1
  · exact no_hex _
  · exact K0 _
theorem no_net (n : H0) : ∀ w ∈ Ij n, noW w := by
  intro w hw
  simp only [Ij, List.mem_cons, List.not_mem_nil, or_false] at hw
  rcases hw with rfl | rfl
  · exact ⟨by decide, by decide⟩
  · exact no_slash _ _
theorem no_ten {t : Qb} (h : R2 t.1 = true) : ∀ w ∈ B1 t, noW w := by
  intro w hw
  simp only [B1, List.mem_cons, List.not_mem_nil, or_false] at hw
  rcases hw with rfl | rfl | rfl | rfl
  · exact ⟨by decide, by decide⟩
  · exact no_name h
  · exact K0 _
  · exact K0 _
theorem K1 (c : Nj) : ∀ w ∈ Ng c, noW w := by
  intro w hw
  simp only [Ng, List.mem_cons, List.not_mem_nil, or_false] at hw
  rcases hw with rfl | rfl | rfl | rfl | rfl
  · exact ⟨by decide, by decide⟩
  all_goals exact K0 _
theorem Cn {c d : UInt8} (hd : d ≠ c) : ∀ l : List Str, (∀ w ∈ l, d ∉ w) → d ∉ Nr c l
  | [], _ => by simp [Nr]
  | [p], h => by simpa [Nr] using h p (by simp)
  | p :: q :: ps, h => by
    have ih := Cn hd (q :: ps) fun w hw => h w (by simp [hw])
    rw [Nr, List.mem_append, List.mem_cons]
    rintro (e | e | e)
    · exact h p (by simp) e
    · exact hd e
    · exact ih e
def Fp (c : Nj) : Prop := ∀ t ∈ c.2.2.2.2, ∀ n ∈ t.2.2.2.1, 0 ≤ n.1 ∧ n.1 < 4294967296
theorem Er : ∀ (l m : List Str), Br (l ++ m) = true → Br l = true
  | [], _, _ => rfl
  | [_], _, _ => rfl
  | a :: b :: r, m, h => by
    have h : (Op.bytesLess a b && Br (b :: r ++ m)) = true := h
    rw [Bool.and_eq_true] at h
    show (Op.bytesLess a b && Br (b :: r)) = true
    rw [h.1, Er (b :: r) m h.2]
    rfl
theorem B2 (c : Nj) : okC c = true ↔ (Nb c.1 = true ∧ Nb c.2.1 = true ∧ Nb c.2.2.1 = true ∧ Nb c.2.2.2.1 = true) ∧ c.2.2.2.2.length ≤ 8 ∧ (∀ t ∈ c.2.2.2.2, D2 t = true) ∧ Br (c.2.2.2.2.map (·.1)) = true := by
  unfold okC H3
  simp only [Bool.and_eq_true, decide_eq_true_eq, List.all_eq_true]
theorem G1 (t : Qb) : D2 t = true ↔ (∀ n ∈ t.2.2.2.1, I3 n = true) ∧ (∀ x ∈ t.2.2.2.2, C7 x = true) ∧ R2 t.1 = true ∧ t.2.2.2.1.length ≤ 4 ∧ t.2.2.2.2.length ≤ 4 ∧ qOk t.2.1 = true ∧ qOk t.2.2.1 = true ∧ Br (t.2.2.2.2.map (·.1)) = true := by
  unfold D2
  simp only [Bool.and_eq_true, decide_eq_true_eq, List.all_eq_true]
  constructor
  · rintro ⟨⟨a, b⟩, ⟨c, d, e⟩, ⟨f, g⟩, h⟩
    exact ⟨a, b, c, d, e, f, g, h⟩
  · rintro ⟨a, b, c, d, e, f, g, h⟩
    exact ⟨⟨a, b⟩, ⟨c, d, e⟩, ⟨f, g⟩, h⟩
theorem Co {c c' : Nj} {k : Str} {q : List Str} {f : Bool} (hf : ((k == Za) == f) = true) (hw : Nk c k q = some c') (ho : okC c' = true) : Ek c f (k :: q) = some c' := by
  show (if (k == Za) == f then (Nk c k q).filter okC else none) = some c'
  rw [if_pos hf, hw, Option.filter_some_pos ho]
theorem Hb {n : Int} (h : qOk n = true) : finB n = true := by
  unfold qOk at h
  unfold finB
  simp only [Bool.and_eq_true, decide_eq_true_eq] at h ⊢
  omega
theorem Df {n : Int} (h : Nb n = true) : finB n = true := by
  unfold Nb at h
  unfold finB
  simp only [Bool.and_eq_true, decide_eq_true_eq] at h ⊢
  omega
theorem tokOk_fin {x : C6} (h : C7 x = true) : finB x.2.2 = true := by
  unfold C7 at h
  unfold finB
  simp only [Bool.and_eq_true, decide_eq_true_eq] at h ⊢
  exact h.2.2
theorem one_less (c : Nj) (ho : okC c = true) (hr : Fp c) :
    (c.2.2.2.2 = [] ∧ Nl c = [Ng c] ∧ Ek c0C true (Ng c) = some c) ∨
    ∃ c1 ws, okC c1 = true ∧ Fp c1 ∧ Nl c = Nl c1 ++ [ws] ∧ Ek c1 false ws = some c ∧ (∀ w ∈ ws, noW w) ∧ ws ≠ [] := by
  obtain ⟨⟨t1, t2, t3, t4⟩, h8, hts, hris⟩ := (B2 c).1 ho
  rcases List.eq_nil_or_concat c.2.2.2.2 with h0 | ⟨l, t, hl⟩
  · refine .inl ⟨h0, by unfold Nl; rw [h0]; rfl, ?_⟩
    obtain ⟨n1, p1, e1⟩ := Ns (Df t1)
    obtain ⟨n2, p2, e2⟩ := Ns (Df t2)
    obtain ⟨n3, p3, e3⟩ := Ns (Df t3)
    obtain ⟨n4, p4, e4⟩ := Ns (Df t4)
    refine Co rfl ?_ ho
    rw [El, p1, Option.bind_some, p2, Option.bind_some, p3, Option.bind_some, p4, Option.map_some, e1, e2, e3, e4, ← h0]
  · rw [List.concat_eq_append] at hl
    have ht : t ∈ c.2.2.2.2 := by rw [hl]; simp
    obtain ⟨a1, a2, a3, a4, a5, a6, a7, a8⟩ := (G1 t).1 (hts t ht)
    have hc : c = Rh c (l ++ [t]) := by rw [← hl]; rfl
    have hlast : ∀ t' : Qb, (Rh c (l ++ [t'])).2.2.2.2.getLast? = some t' := fun t' => by simp [Rh]
    have hdrop : ∀ t' : Qb, (Rh c (l ++ [t'])).2.2.2.2.dropLast = l := fun t' => by simp [Rh]
    have okput : ∀ t' : Qb, t'.1 = t.1 → D2 t' = true → okC (Rh c (l ++ [t'])) = true := by
      intro t' hn hok
      rw [B2]
      refine ⟨⟨t1, t2, t3, t4⟩, by rw [hl] at h8; simpa [Rh] using h8, fun y hy => ?_, ?_⟩
      · rcases List.mem_append.1 hy with hy | hy
        · exact hts y (by rw [hl]; simp [hy])
        · rw [List.mem_singleton] at hy
          subst hy
          exact hok
      · rw [hl] at hris
        simpa [Rh, hn] using hris
    have raput : ∀ t' : Qb, (∀ n ∈ t'.2.2.2.1, n ∈ t.2.2.2.1) → Fp (Rh c (l ++ [t'])) := by
      intro t' hn y hy n hm
      rcases List.mem_append.1 hy with hy | hy
      · exact hr y (by rw [hl]; simp [hy]) n hm
      · rw [List.mem_singleton] at hy
        subst hy
        exact hr t ht n (hn n hm)
    right
    rcases List.eq_nil_or_concat t.2.2.2.2 with k0 | ⟨tk, x, hx⟩
    · rcases List.eq_nil_or_concat t.2.2.2.1 with m0 | ⟨ns, n, hn⟩
      ·
        obtain ⟨n1, p1, e1⟩ := Ns (Hb a6)
        obtain ⟨n2, p2, e2⟩ := Ns (Hb a7)
        refine ⟨Rh c l, B1 t, ?_, ?_, ?_, ?_, no_ten a3, by simp [B1]⟩
        · rw [B2]
          refine ⟨⟨t1, t2, t3, t4⟩, by rw [hl] at h8; simp at h8; show l.length ≤ 8; omega, fun y hy => hts y (by rw [hl]; exact List.mem_append_left _ hy), ?_⟩
          rw [hl, List.map_append] at hris
          exact Er _ _ hris
        · intro y hy n hm
          exact hr y (by rw [hl]; exact List.mem_append_left _ hy) n hm
        · conv => lhs; rw [hc, G0]
          unfold Nl Rj Rh
          rw [k0, m0]
          rfl
        · refine Co rfl ?_ ho
          rw [R7, p1, Option.bind_some, p2, Option.map_some, e1, e2]
          congr 1
          conv => rhs; rw [hc]
          show Rh c (l ++ [(t.1, t.2.1, t.2.2.1, [], [])]) = Rh c (l ++ [t])
          rw [← k0, ← m0]
      ·
        rw [List.concat_eq_append] at hn
        have hnm : n ∈ t.2.2.2.1 := by rw [hn]; simp
        have hno := a1 n hnm
        obtain ⟨r0, r1⟩ := hr t ht n hnm
        let t' : Qb := (t.1, t.2.1, t.2.2.1, ns, t.2.2.2.2)
        have hadd : Cc t' n = t := by
          show (t.1, t.2.1, t.2.2.1, ns ++ [n], t.2.2.2.2) = t
          rw [← hn]
        refine ⟨Rh c (l ++ [t']), Ij n, okput t' rfl ?_, raput t' (fun y hy => by rw [hn]; exact List.mem_append_left _ hy), ?_, ?_, no_net n, by simp [Ij]⟩
        · rw [G1]
          refine ⟨fun y hy => a1 y (by rw [hn]; exact List.mem_append_left _ hy), a2, a3, ?_, a5, a6, a7, a8⟩
          rw [hn] at a4
          simp at a4
          show ns.length ≤ 4
          omega
        · conv => lhs; rw [hc, ← hadd, G0, tenLs_net (t := t') n k0]
          rw [G0, List.append_assoc]
        · refine Co rfl ?_ ho
          have hs := net_slash (a := n.1.toNat) (by omega) n.2
          unfold I3 at hno
          rw [hno] at hs
          have hb := Np hno
          rw [Ib, hlast, Option.bind_some, if_pos k0, hs, Option.map_some, hdrop]
          congr 1
          conv => rhs; rw [hc, ← hadd]
          show Rh c (l ++ [Cc t' ((n.1.toNat : Int), (n.2.toNat : Int))]) = _
          rw [show ((n.1.toNat : Nat) : Int) = n.1 by omega, show ((n.2.toNat : Nat) : Int) = n.2 by omega]
    ·
      rw [List.concat_eq_append] at hx
      have hxm : x ∈ t.2.2.2.2 := by rw [hx]; simp
      have hxo := a2 x hxm
      let t' : Qb := (t.1, t.2.1, t.2.2.1, t.2.2.2.1, tk)
      have hadd : Ej t' x = t := by
        show (t.1, t.2.1, t.2.2.1, t.2.2.2.1, tk ++ [x]) = t
        rw [← hx]
      refine ⟨Rh c (l ++ [t']), Ie x, okput t' rfl ?_, raput t' (fun y hy => hy), ?_, ?_, no_tok hxo, by simp [Ie]⟩
      · rw [G1]
        refine ⟨a1, fun y hy => a2 y (by rw [hx]; exact List.mem_append_left _ hy), a3, a4, ?_, a6, a7, ?_⟩
        · rw [hx] at a5
          simp at a5
          show tk.length ≤ 4
          omega
        · rw [hx, List.map_append] at a8
          exact Er _ _ a8
      · conv => lhs; rw [hc, ← hadd, G0, tenLs_tok t' x]
        rw [G0, List.append_assoc]
      · refine Co rfl ?_ ho
        obtain ⟨n1, p1, e1⟩ := Ns (tokOk_fin hxo)
        rw [Em, hlast, Option.bind_some, H7, Option.bind_some, p1, Option.map_some, hdrop, e1]
        congr 1
        conv => rhs; rw [hc, ← hadd]
        rfl
theorem K2 : ∀ (N : Nat) (c : Nj), (Nl c).length = N → okC c = true → Fp c → Kb ((Nl c).map (Nr 32)) c0C 0 = .inr (c, N) ∧ ∀ ws ∈ Nl c, (∀ w ∈ ws, noW w) ∧ ws ≠ [] := by
  intro N
  induction N with
  | zero =>
    intro c hN
    simp [Nl] at hN
  | succ N ih =>
    intro c hN ho hr
    rcases one_less c ho hr with ⟨h0, h1, h2⟩ | ⟨c1, ws, o1, r1, e1, l1, n1, n2⟩
    · rw [h1] at hN ⊢
      have hN : N = 0 := by simpa using hN.symm
      subst hN
      refine ⟨?_, fun ws hws => ?_⟩
      · rw [List.map_cons, List.map_nil]
        unfold Kb
        rw [De 32 (Ng c) (by simp [Ng]) fun w hw => (K1 c w hw).1, show decide ((0 : Nat) = 0) = true from rfl, h2]
        rfl
      · rw [List.mem_singleton] at hws
        subst hws
        exact ⟨K1 c, by simp [Ng]⟩
    · rw [e1] at hN ⊢
      have hN1 : (Nl c1).length = N := by simpa using hN
      obtain ⟨h1, h2⟩ := ih c1 hN1 o1 r1
      have hpos : N ≠ 0 := by
        rw [← hN1]
        simp [Nl]
      refine ⟨?_, fun w hw => ?_⟩
      · rw [List.map_append, Ha, h1]
        show Kb [Nr 32 ws] c1 N = _
        unfold Kb
        rw [De 32 ws n2 fun w hw => (n1 w hw).1, decide_eq_false hpos, l1]
        rfl
      · rcases List.mem_append.1 hw with hw | hw
        · exact h2 w hw
        · rw [List.mem_singleton] at hw
          subst hw
          exact ⟨n1, n2⟩
theorem B3 : ∀ ps : List Str, (∀ p ∈ ps, (10 : UInt8) ∉ p) → ∀ r : Str, Qx 10 (ps.flatMap (fun p => p ++ [10]) ++ r) = ps ++ Qx 10 r
  | [], _, r => rfl
  | p :: ps, h, r => by
    rw [List.flatMap_cons, List.append_assoc, List.append_assoc, List.cons_append, List.nil_append, Nu 10 p _ (h p (by simp)), B3 ps (fun q hq => h q (by simp [hq])) r]
    rfl
theorem Cd {c : Nj} (ho : okC c = true) : Uu c = ((Nl c).map (Nr 32)).flatMap (fun p => p ++ [10]) := by
  unfold Uu
  rw [if_pos ho, List.flatMap_map]
  rfl
theorem Kd {c : Nj} (ho : okC c = true) (hr : Fp c) (hl : (Uu c).length ≤ 4096) : En (Uu c) = (c.1, c.2.1, c.2.2.1, c.2.2.2.1, c.2.2.2.2, 0, 0) := by
  obtain ⟨h1, h2⟩ := K2 _ c rfl ho hr
  have h10 : ∀ p ∈ (Nl c).map (Nr 32), (10 : UInt8) ∉ p := by
    intro p hp
    obtain ⟨ws, hws, rfl⟩ := List.mem_map.1 hp
    exact Cn (by decide) ws fun w hw => ((h2 ws hws).1 w hw).2
  have hs := B3 _ h10 []
  rw [List.append_nil, ← Cd ho, show Qx 10 ([] : Str) = [[]] from rfl] at hs
  unfold En
  rw [if_neg (by omega), hs, List.dropLast_concat, h1]
  unfold finC
  dsimp only
  rw [List.getLastD_concat, if_neg (by simp [Nl])]
end Go.Proofs.YtoflbpmbkmephaaGreatDoor
namespace Go.Proofs.YtoflbpmbkmephaaGreatDoor
open Go.RowKit
def Ur (a : (List UInt8)) (c : Int) (d : Int) (e : (List (Int × Int))) (f : (List ((List UInt8) × (List UInt8) × Int))) (b : (List UInt8)) : Option (Bool) :=
  (some ((a == b)))
set_option maxHeartbeats 40000000 in
theorem Dn (A5 : Option Addr) (c6 : Nat) (A9 : Option Addr) (j : Nat) (l : Nat) (c : (List UInt8)) (m : Int) (o : Int) (h : (List (Int × Int))) (i : (List ((List UInt8) × (List UInt8) × Int))) (f : (List UInt8)) (w0 : World) (u : RdT (Qf (Q4 .u32) (Q4 .i64)) w0 A5 c6 h) (w : RdT (Qf Ql (Qf Ql (Q4 .i64))) w0 A9 j i) (hg13 : w0.heap[l]? = some (.cells #[(.string ⟨List.toArray f⟩)] 9 (0, 0))) (r : (Bool)) (H : Ur c m o h i f = some r) :
  Calls Tryz.prog 45 #[(.agg #[(.string ⟨List.toArray c⟩), (.int .i64 m), (.int .i64 o), (.slice A5 (List.length h) c6), (.slice A9 (List.length i) j)]), (pt l 0)] w0 (fun e w' => e = .returned (.bool r) ∧ SP [] w0 w' []) := by
 unfold Ur at H
 refine Qv (n := 8) Tryz.func45 K K K ?_
 have s := Q1 [] w0
 refine aQ ?_
 refine aR ?_
 refine iS 1 ?_
 refine Z0 (t := 33) (x := (.tmp 0)) (v := (.agg #[(.string ⟨List.toArray c⟩), (.int .i64 m), (.int .i64 o), (.slice A5 (List.length h) c6), (.slice A9 (List.length i) j)])) (d := (some 2)) (k := 0) K rfl K s ?_
 intro q z p
 refine iR 1 2 [(3, (.bool false))] ?_
 refine iF ?_
 refine aQ ?_
 refine aR ?_
 refine iR 1 1 [(4, (pt q 0))] ?_
 refine iS 2 ?_
 refine sL 9 4 q 0 0 (.string ⟨List.toArray c⟩) 5 p rfl ?_
 refine iS 3 ?_
 refine E5 (t := 9) (t' := 9) (x := (.tmp 1)) (g := l) (off := 0) (cs := #[(.string ⟨List.toArray f⟩)]) (v := (.string ⟨List.toArray f⟩)) (d := (some 6)) (k := 2) K rfl K (D8 hg13 (SP.keeps p)) K ?_
 refine iS 4 ?_
 refine Xp (op := .eql) (T := 9) (T' := 9) (x := (.tmp 5)) (y := (.tmp 6)) (a := c) (b := f) (r := (.bool (c == f))) (d := (some 7)) (k := 3) K rfl K K rfl ?_
 refine iR 1 5 [(3, (.bool (c == f)))] ?_
 refine iF ?_
 refine At.ret K ?_
 refine ⟨(.bool (c == f)), K, ?_⟩
 obtain rfl := Qg H
 exact ⟨rfl, SP.sel p [] rfl rfl⟩
def Rm (e : Int) (f : Int) (g : Int) (h : Int) (b : (List Qb)) (d : (List UInt8)) : Option ((List UInt8) × Int × Int × (List (Int × Int)) × (List ((List UInt8) × (List UInt8) × Int)) × Bool) :=
  ((Vc b (fun y0 y1 y2 y3 y4 => Ur y0 y1 y2 y3 y4 d)).bind fun c => (cond (decide (c < 0)) (some (([] : List UInt8), 0, 0, ([] : List (Int × Int)), ([] : List ((List UInt8) × (List UInt8) × Int)), false)) ((idx b c).bind fun a => (some (a.1, a.2.1, a.2.2.1, a.2.2.2.1, a.2.2.2.2, true)))))
set_option maxHeartbeats 40000000 in
theorem Bo {R : World → Prop} (A6 : Option Addr) (c7 : Nat) (a1 : Int) (a2 : Int) (a3 : Int) (a4 : Int) (d9 : (List Qh)) (j : (List UInt8)) (w0 : World) (hR : ∀ w, Below w0.heap.size w0 w → R w) (m : ∀ w, R w → (dDS V1 Fc).ok w (A6, c7, d9)) (r : ((List UInt8) × Int × Int × (List (Int × Int)) × (List ((List UInt8) × (List UInt8) × Int)) × Bool)) (H : Rm a1 a2 a3 a4 (List.map stT d9) j = some r) :
  Calls Tryz.prog 18 #[(.agg #[(.int .i64 a1), (.int .i64 a2), (.int .i64 a3), (.int .i64 a4), (.slice A6 (List.length (List.map stT d9)) c7)]), (.string ⟨List.toArray j⟩)] w0 (fun e w' => ∃ (a8 : Option Addr) (a9 : Nat) (b0 : Option Addr) (b1 : Nat), e = .returned (.tuple #[(.agg #[(.string ⟨List.toArray r.1⟩), (.int .i64 r.2.1), (.int .i64 r.2.2.1), (.slice a8 (List.length r.2.2.2.1) a9), (.slice b0 (List.length r.2.2.2.2.1) b1)]), (.bool r.2.2.2.2.2)]) ∧ (∀ w, R w → RdT (Qf (Q4 .u32) (Q4 .i64)) w a8 a9 r.2.2.2.1) ∧ (∀ w, R w → RdT (Qf Ql (Qf Ql (Q4 .i64))) w b0 b1 r.2.2.2.2.1) ∧ SP [] w0 w' []) := by
 unfold Rm at H
 refine Qv (n := 19) Tryz.func18 K K K ?_
 have b8 := Q1 [] w0
 refine aQ ?_
 refine aR ?_
 refine iS 1 ?_
 refine Z0 (t := 24) (x := (.tmp 0)) (v := (.agg #[(.int .i64 a1), (.int .i64 a2), (.int .i64 a3), (.int .i64 a4), (.slice A6 (List.length (List.map stT d9)) c7)])) (d := (some 2)) (k := 0) K rfl K b8 ?_
 intro q c5 b9
 refine iS 2 ?_
 refine Z0 (t := 9) (x := (.tmp 1)) (v := (.string ⟨List.toArray j⟩)) (d := (some 3)) (k := 1) K rfl K b9 ?_
 intro s c6 c0
 refine iS 3 ?_
 refine Qi.alloc (t := 33) (z := (.agg #[(.string ⟨List.toArray ([] : List UInt8)⟩), (.int .i64 0), (.int .i64 0), (.slice none (List.length ([] : List (Int × Int))) 0), (.slice none (List.length ([] : List ((List UInt8) × (List UInt8) × Int))) 0)])) (d := (some 4)) (k := 2) K rfl K c0 ?_
 intro u a5 a0
 refine iR 1 4 [(5, (.bool false))] ?_
 refine iF ?_
 refine aQ ?_
 refine aR ?_
 refine iR 1 1 [(7, (pt q 4))] ?_
 refine iS 2 ?_
 refine sL 22 7 q 4 0 (.slice A6 (List.length (List.map stT d9)) c7) 8 a0 rfl ?_
 refine iR 1 3 [(9, (.func (.func 45) #[] #[(pt s 0)]))] ?_
 obtain ⟨h, c1, H⟩ := Qd H
 refine iS 4 ?_
 refine cF 44 #[(.tmp 8), (.tmp 9)] #[22, 82] 10 Tryz.call44 (Zt A6 c7 45 #[(pt s 0)] d9 (fun y0 y1 y2 y3 y4 => Ur y0 y1 y2 y3 y4 j) a5 (m a5 (hR _ (SP.keeps a0))) Tryz.call45 (fun y0 y1 y2 y3 y4 z w Ay3 cy3 Ay4 cy4 hw hy3 hy4 hz => Dn Ay3 cy3 Ay4 cy4 s y0 y1 y2 y3 y4 j w hy3 hy4 (D8 (show a5.heap[s]? = some (.cells #[(.string ⟨List.toArray j⟩)] 9 (0, 0)) from SP.get a0 (i := 1) rfl) hw) z hz) h c1) ?_
 rintro e b2 ⟨rfl, b3⟩
 refine ⟨_, rfl, ?_⟩
 have p := SP.call a0 b3
 clear b3
 refine iR 1 5 [(6, (.int .i64 h))] ?_
 refine iF ?_
 refine aQ ?_
 refine aQ ?_
 refine aR ?_
 refine iR 2 2 [(11, (.int .i64 h)), (12, (.bool (decide (h < 0))))] ?_
 refine iF ?_
 refine Xe K (o := (.tmp 12)) K (b := (decide (h < 0))) K (fun a6 => ?_) (fun a6 => ?_)
 ·have H := ct H a6
  refine aQ ?_
  refine aR ?_
  refine iR 1 1 [(13, (.agg #[(.string ⟨List.toArray ([] : List UInt8)⟩), (.int .i64 0), (.int .i64 0), (.slice none (List.length ([] : List (Int × Int))) 0), (.slice none (List.length ([] : List ((List UInt8) × (List UInt8) × Int))) 0)]))] ?_
  refine iS 2 ?_
  refine Qi.store (t := 33) (x := (.tmp 4)) (y := (.tmp 13)) (g := u) (off := 0) (i := 2) (v := (.agg #[(.string ⟨List.toArray ([] : List UInt8)⟩), (.int .i64 0), (.int .i64 0), (.slice none (List.length ([] : List (Int × Int))) 0), (.slice none (List.length ([] : List ((List UInt8) × (List UInt8) × Int))) 0)])) (cs' := #[(.string ⟨List.toArray ([] : List UInt8)⟩), (.int .i64 0), (.int .i64 0), (.slice none (List.length ([] : List (Int × Int))) 0), (.slice none (List.length ([] : List ((List UInt8) × (List UInt8) × Int))) 0)]) (d := none) (k := 1) K rfl K K p rfl K ?_
  intro c8 b4
  refine iR 1 3 [(5, (.bool false))] ?_
  refine iF ?_
  refine At.ret K ?_
  refine ⟨(.tuple #[(.agg #[(.string ⟨List.toArray ([] : List UInt8)⟩), (.int .i64 0), (.int .i64 0), (.slice none (List.length ([] : List (Int × Int))) 0), (.slice none (List.length ([] : List ((List UInt8) × (List UInt8) × Int))) 0)]), (.bool false)]), La K (Bs (a := 4) (t := 33) (g := u) (off := 0) K (SP.get b4 (i := 2) rfl) K) (E8 (t := 5) K), ?_⟩
  obtain rfl := Qg H
  exact ⟨none, 0, none, 0, rfl, (fun w _ => RdT.nil (Qf (Q4 .u32) (Q4 .i64)) w), (fun w _ => RdT.nil (Qf Ql (Qf Ql (Q4 .i64))) w), SP.sel b4 [] rfl rfl⟩
 ·have H := cf H a6
  refine At.skip K ?_
  refine aQ ?_
  refine aR ?_
  refine iR 1 1 [(14, (pt q 4))] ?_
  refine iS 2 ?_
  refine sL 22 14 q 4 0 (.slice A6 (List.length (List.map stT d9)) c7) 15 p rfl ?_
  refine iR 1 3 [(16, (.int .i64 h))] ?_
  obtain ⟨f, b5, b6, a7, H⟩ := J6 H
  refine iS 4 ?_
  refine Yu stT (e := V1) (l := d9) (A := A6) (c := c7) (T := 22) (E := 33) (x := (.tmp 15)) (ix := (.tmp 16)) (ki := .i64) (iz := h) (d := (some 17)) (k := 3) K rfl K K K K ((fun w hm => (Yh (m w hm))) b2 (hR _ (SP.keeps p))) b5 b6 ?_
  intro c2 c3 c4 c9 hc46
  refine iS 5 ?_
  refine Qi.cells (t := 33) (x := (.tmp 17)) (b := c2) (off := (c3 + Int.toNat h * V1.sz)) (xs := [(.string ⟨List.toArray (stT f).1⟩), (.int .i64 (stT f).2.1), (.int .i64 (stT f).2.2.1), (.slice f.2.2.2.1.1 (List.length (stT f).2.2.2.1) f.2.2.2.1.2.1), (.slice f.2.2.2.2.1 (List.length (stT f).2.2.2.2) f.2.2.2.2.2.1)]) (d := (some 18)) (k := 4) K rfl K K K (Vv (e := V1) (Qj ((fun w hm => (Yh (m w hm))) b2 (hR _ (SP.keeps p))) c4 b5 b6) a7 rfl) ?_
  refine iS 6 ?_
  refine Qi.store (t := 33) (x := (.tmp 4)) (y := (.tmp 18)) (g := u) (off := 0) (i := 2) (v := (.agg #[(.string ⟨List.toArray (stT f).1⟩), (.int .i64 (stT f).2.1), (.int .i64 (stT f).2.2.1), (.slice f.2.2.2.1.1 (List.length (stT f).2.2.2.1) f.2.2.2.1.2.1), (.slice f.2.2.2.2.1 (List.length (stT f).2.2.2.2) f.2.2.2.2.2.1)])) (cs' := #[(.string ⟨List.toArray (stT f).1⟩), (.int .i64 (stT f).2.1), (.int .i64 (stT f).2.2.1), (.slice f.2.2.2.1.1 (List.length (stT f).2.2.2.1) f.2.2.2.1.2.1), (.slice f.2.2.2.2.1 (List.length (stT f).2.2.2.2) f.2.2.2.2.2.1)]) (d := none) (k := 5) K rfl K K p rfl K ?_
  intro d0 b7
  refine iR 1 7 [(5, (.bool true))] ?_
  refine iF ?_
  refine At.ret K ?_
  refine ⟨(.tuple #[(.agg #[(.string ⟨List.toArray (stT f).1⟩), (.int .i64 (stT f).2.1), (.int .i64 (stT f).2.2.1), (.slice f.2.2.2.1.1 (List.length (stT f).2.2.2.1) f.2.2.2.1.2.1), (.slice f.2.2.2.2.1 (List.length (stT f).2.2.2.2) f.2.2.2.2.2.1)]), (.bool true)]), La K (Bs (a := 4) (t := 33) (g := u) (off := 0) K (SP.get b7 (i := 2) rfl) K) (E8 (t := 5) K), ?_⟩
  obtain rfl := Qg H
  exact ⟨f.2.2.2.1.1, f.2.2.2.1.2.1, f.2.2.2.2.1, f.2.2.2.2.2.1, rfl, (fun w hm => (Yh ((fun w hm => (dp1 (dp2 (dp2 (dp2 (Gr (m w hm) a7)))))) w hm))), (fun w hm => (Yh ((fun w hm => (dp2 (dp2 (dp2 (dp2 (Gr (m w hm) a7)))))) w hm))), SP.sel b7 [] rfl rfl⟩
def Ud (a : (List UInt8)) (b : (List UInt8)) (c : Int) (c6 : (List UInt8)) : Option (Bool) :=
  (some ((a == c6)))
set_option maxHeartbeats 40000000 in
theorem R8 (g4 : Nat) (c : (List UInt8)) (f : (List UInt8)) (h : Int) (c6 : (List UInt8)) (w0 : World) (hg5 : w0.heap[g4]? = some (.cells #[(.string ⟨List.toArray c6⟩)] 9 (0, 0))) (r : (Bool)) (H : Ud c f h c6 = some r) :
  Calls Tryz.prog 47 #[(.agg #[(.string ⟨List.toArray c⟩), (.string ⟨List.toArray f⟩), (.int .i64 h)]), (pt g4 0)] w0 (fun e w' => e = .returned (.bool r) ∧ SP [] w0 w' []) := by
 unfold Ud at H
 refine Qv (n := 8) Tryz.func47 K K K ?_
 have j := Q1 [] w0
 refine aQ ?_
 refine aR ?_
 refine iS 1 ?_
 refine Z0 (t := 37) (x := (.tmp 0)) (v := (.agg #[(.string ⟨List.toArray c⟩), (.string ⟨List.toArray f⟩), (.int .i64 h)])) (d := (some 2)) (k := 0) K rfl K j ?_
 intro g7 w8 i
 refine iR 1 2 [(3, (.bool false))] ?_
 refine iF ?_
 refine aQ ?_
 refine aR ?_
 refine iR 1 1 [(4, (pt g7 0))] ?_
 refine iS 2 ?_
 refine sL 9 4 g7 0 0 (.string ⟨List.toArray c⟩) 5 i rfl ?_
 refine iS 3 ?_
 refine E5 (t := 9) (t' := 9) (x := (.tmp 1)) (g := g4) (off := 0) (cs := #[(.string ⟨List.toArray c6⟩)]) (v := (.string ⟨List.toArray c6⟩)) (d := (some 6)) (k := 2) K rfl K (D8 hg5 (SP.keeps i)) K ?_
 refine iS 4 ?_
 refine Xp (op := .eql) (T := 9) (T' := 9) (x := (.tmp 5)) (y := (.tmp 6)) (a := c) (b := c6) (r := (.bool (c == c6))) (d := (some 7)) (k := 3) K rfl K K rfl ?_
 refine iR 1 5 [(3, (.bool (c == c6)))] ?_
 refine iF ?_
 refine At.ret K ?_
 refine ⟨(.bool (c == c6)), K, ?_⟩
 obtain rfl := Qg H
 exact ⟨rfl, SP.sel i [] rfl rfl⟩
def Gm (e : (List UInt8)) (f : Int) (g : Int) (h : (List (Int × Int))) (b : (List ((List UInt8) × (List UInt8) × Int))) (d : (List UInt8)) : Option ((List UInt8) × (List UInt8) × Int × Bool) :=
  ((Vf b (fun y0 y1 y2 => Ud y0 y1 y2 d)).bind fun c => (cond (decide (c < 0)) (some (([] : List UInt8), ([] : List UInt8), 0, false)) ((idx b c).bind fun a => (some (a.1, a.2.1, a.2.2, true)))))
set_option maxHeartbeats 40000000 in
theorem D5 (A5 : Option Addr) (c6 : Nat) (A9 : Option Addr) (m : Nat) (a3 : (List UInt8)) (a4 : Int) (a5 : Int) (s : (List (Int × Int))) (h : (List ((List UInt8) × (List UInt8) × Int))) (p : (List UInt8)) (w0 : World) (c2 : RdT (Qf (Q4 .u32) (Q4 .i64)) w0 A5 c6 s) (a6 : RdT (Qf Ql (Qf Ql (Q4 .i64))) w0 A9 m h) (r : ((List UInt8) × (List UInt8) × Int × Bool)) (H : Gm a3 a4 a5 s h p = some r) :
  Calls Tryz.prog 20 #[(.agg #[(.string ⟨List.toArray a3⟩), (.int .i64 a4), (.int .i64 a5), (.slice A5 (List.length s) c6), (.slice A9 (List.length h) m)]), (.string ⟨List.toArray p⟩)] w0 (fun e w' => e = .returned (.tuple #[(.agg #[(.string ⟨List.toArray r.1⟩), (.string ⟨List.toArray r.2.1⟩), (.int .i64 r.2.2.1)]), (.bool r.2.2.2)]) ∧ SP [] w0 w' []) := by
 unfold Gm at H
 refine Qv (n := 19) Tryz.func20 K K K ?_
 have b4 := Q1 [] w0
 refine aQ ?_
 refine aR ?_
 refine iS 1 ?_
 refine Z0 (t := 33) (x := (.tmp 0)) (v := (.agg #[(.string ⟨List.toArray a3⟩), (.int .i64 a4), (.int .i64 a5), (.slice A5 (List.length s) c6), (.slice A9 (List.length h) m)])) (d := (some 2)) (k := 0) K rfl K b4 ?_
 intro u c3 b5
 refine iS 2 ?_
 refine Z0 (t := 9) (x := (.tmp 1)) (v := (.string ⟨List.toArray p⟩)) (d := (some 3)) (k := 1) K rfl K b5 ?_
 intro a0 c4 b6
 refine iS 3 ?_
 refine Qi.alloc (t := 37) (z := (.agg #[(.string ⟨List.toArray ([] : List UInt8)⟩), (.string ⟨List.toArray ([] : List UInt8)⟩), (.int .i64 0)])) (d := (some 4)) (k := 2) K rfl K b6 ?_
 intro a1 a8 a2
 refine iR 1 4 [(5, (.bool false))] ?_
 refine iF ?_
 refine aQ ?_
 refine aR ?_
 refine iR 1 1 [(7, (pt u 4))] ?_
 refine iS 2 ?_
 refine sL 31 7 u 4 0 (.slice A9 (List.length h) m) 8 a2 rfl ?_
 refine iR 1 3 [(9, (.func (.func 47) #[] #[(pt a0 0)]))] ?_
 obtain ⟨j, b7, H⟩ := Qd H
 refine iS 4 ?_
 refine cF 46 #[(.tmp 8), (.tmp 9)] #[31, 84] 10 Tryz.call46 (Z4 A9 m 47 #[(pt a0 0)] h (fun y0 y1 y2 => Ud y0 y1 y2 p) a8 (RdT.sp a6 a2) Tryz.call47 (fun y0 y1 y2 z w  hw  hz => R8 a0 y0 y1 y2 p w (D8 (show a8.heap[a0]? = some (.cells #[(.string ⟨List.toArray p⟩)] 9 (0, 0)) from SP.get a2 (i := 1) rfl) hw) z hz) j b7) ?_
 rintro e c5 ⟨rfl, a9⟩
 refine ⟨_, rfl, ?_⟩
 have q := SP.call a2 a9
 clear a9
 refine iR 1 5 [(6, (.int .i64 j))] ?_
 refine iF ?_
 refine aQ ?_
 refine aQ ?_
 refine aR ?_
 refine iR 2 2 [(11, (.int .i64 j)), (12, (.bool (decide (j < 0))))] ?_
 refine iF ?_
 refine Xe K (o := (.tmp 12)) K (b := (decide (j < 0))) K (fun a7 => ?_) (fun a7 => ?_)
 ·have H := ct H a7
  refine aQ ?_
  refine aR ?_
  refine iR 1 1 [(13, (.agg #[(.string ⟨List.toArray ([] : List UInt8)⟩), (.string ⟨List.toArray ([] : List UInt8)⟩), (.int .i64 0)]))] ?_
  refine iS 2 ?_
  refine Qi.store (t := 37) (x := (.tmp 4)) (y := (.tmp 13)) (g := a1) (off := 0) (i := 2) (v := (.agg #[(.string ⟨List.toArray ([] : List UInt8)⟩), (.string ⟨List.toArray ([] : List UInt8)⟩), (.int .i64 0)])) (cs' := #[(.string ⟨List.toArray ([] : List UInt8)⟩), (.string ⟨List.toArray ([] : List UInt8)⟩), (.int .i64 0)]) (d := none) (k := 1) K rfl K K q rfl K ?_
  intro w32 b0
  refine iR 1 3 [(5, (.bool false))] ?_
  refine iF ?_
  refine At.ret K ?_
  refine ⟨(.tuple #[(.agg #[(.string ⟨List.toArray ([] : List UInt8)⟩), (.string ⟨List.toArray ([] : List UInt8)⟩), (.int .i64 0)]), (.bool false)]), La K (Bs (a := 4) (t := 37) (g := a1) (off := 0) K (SP.get b0 (i := 2) rfl) K) (E8 (t := 5) K), ?_⟩
  obtain rfl := Qg H
  exact ⟨rfl, SP.sel b0 [] rfl rfl⟩
 ·have H := cf H a7
  refine At.skip K ?_
  refine aQ ?_
  refine aR ?_
  refine iR 1 1 [(14, (pt u 4))] ?_
  refine iS 2 ?_
  refine sL 31 14 u 4 0 (.slice A9 (List.length h) m) 15 q rfl ?_
  refine iR 1 3 [(16, (.int .i64 j))] ?_
  obtain ⟨f, b1, b2, b8, H⟩ := Ve H
  refine iS 4 ?_
  refine Qn (e := (Qf Ql (Qf Ql (Q4 .i64)))) (l := h) (A := A9) (c := m) (T := 31) (E := 37) (x := (.tmp 15)) (ix := (.tmp 16)) (ki := .i64) (iz := j) (d := (some 17)) (k := 3) K rfl K K K K (RdT.sp a6 q) b1 b2 ?_
  intro b9 c0 c1 c7 hc41
  refine iS 5 ?_
  refine Qi.cells (t := 37) (x := (.tmp 17)) (b := b9) (off := (c0 + Int.toNat j * (Qf Ql (Qf Ql (Q4 .i64))).sz)) (xs := [(.string ⟨List.toArray f.1⟩), (.string ⟨List.toArray f.2.1⟩), (.int .i64 f.2.2)]) (d := (some 18)) (k := 4) K rfl K K K (Vv (e := (Qf Ql (Qf Ql (Q4 .i64)))) (Qj (RdT.sp a6 q) c1 b1 b2) b8 rfl) ?_
  refine iS 6 ?_
  refine Qi.store (t := 37) (x := (.tmp 4)) (y := (.tmp 18)) (g := a1) (off := 0) (i := 2) (v := (.agg #[(.string ⟨List.toArray f.1⟩), (.string ⟨List.toArray f.2.1⟩), (.int .i64 f.2.2)])) (cs' := #[(.string ⟨List.toArray f.1⟩), (.string ⟨List.toArray f.2.1⟩), (.int .i64 f.2.2)]) (d := none) (k := 5) K rfl K K q rfl K ?_
  intro c8 b3
  refine iR 1 7 [(5, (.bool true))] ?_
  refine iF ?_
  refine At.ret K ?_
  refine ⟨(.tuple #[(.agg #[(.string ⟨List.toArray f.1⟩), (.string ⟨List.toArray f.2.1⟩), (.int .i64 f.2.2)]), (.bool true)]), La K (Bs (a := 4) (t := 37) (g := a1) (off := 0) K (SP.get b3 (i := 2) rfl) K) (E8 (t := 5) K), ?_⟩
  obtain rfl := Qg H
  exact ⟨rfl, SP.sel b3 [] rfl rfl⟩
end Go.Proofs.YtoflbpmbkmephaaGreatDoor
namespace Go.Proofs.YtoflbpmbkmephaaGreatDoor
open Go.RowKit
theorem stok_loop (r4 : Int → Option Bool) (l : List C6) (hl : l.length ≤ 140737488355328) : ∀ (d i f : Nat), d = l.length - i → i ≤ l.length → d < f → Vr r4 l l f (i : Int) = some true := by
  intro d
  induction d with
  | zero =>
    intro i f hd hi hf
    obtain ⟨f, rfl⟩ : ∃ g, f = g + 1 := ⟨f - 1, by omega⟩
    show Vq r4 (Vr r4 l l f) l l (i : Int) = _
    unfold Vq
    rw [decide_eq_false (show ¬ ((i : Int) < ((l.length : Nat) : Int)) by omega), cond_false]
  | succ d ih =>
    intro i f hd hi hf
    obtain ⟨f, rfl⟩ : ∃ g, f = g + 1 := ⟨f - 1, by omega⟩
    have hlt : i < l.length := by omega
    show Vq r4 (Vr r4 l l f) l l (i : Int) = _
    unfold Vq
    rw [decide_eq_true (show (i : Int) < ((l.length : Nat) : Int) by omega), cond_true, Y3 hlt]
    simp only [Option.bind_some, beq_self_eq_true, Bool.and_self, Bool.not_true, cond_false]
    rw [show (i : Int) + 1 = ((i + 1 : Nat) : Int) by omega, J5 (by omega)]
    exact ih (i + 1) f (by omega) (by omega) (by omega)
theorem snet_loop (l : List H0) (k : List C6) (hl : l.length ≤ 140737488355328) (hk : k.length ≤ 140737488355328) : ∀ (d i f : Nat), d = l.length - i → i ≤ l.length → d < f → Q2 l k l k f (i : Int) = some true := by
  intro d
  induction d with
  | zero =>
    intro i f hd hi hf
    obtain ⟨f, rfl⟩ : ∃ g, f = g + 1 := ⟨f - 1, by omega⟩
    show Vs (Q2 l k l k f) l k l k (i : Int) = _
    unfold Vs
    rw [decide_eq_false (show ¬ ((i : Int) < ((l.length : Nat) : Int)) by omega), cond_false]
    exact stok_loop _ k hk k.length 0 Xx (by omega) (by omega) (by unfold Xx; omega)
  | succ d ih =>
    intro i f hd hi hf
    obtain ⟨f, rfl⟩ : ∃ g, f = g + 1 := ⟨f - 1, by omega⟩
    have hlt : i < l.length := by omega
    show Vs (Q2 l k l k f) l k l k (i : Int) = _
    unfold Vs
    rw [decide_eq_true (show (i : Int) < ((l.length : Nat) : Int) by omega), cond_true, Y3 hlt]
    simp only [Option.bind_some, beq_self_eq_true, Bool.and_self, Bool.not_true, cond_false]
    rw [show (i : Int) + 1 = ((i + 1 : Nat) : Int) by omega, J5 (by omega)]
    exact ih (i + 1) f (by omega) (by omega) (by omega)
theorem rSameT (n : Str) (a b : Int) (l : List H0) (k : List C6) (hl : l.length ≤ 140737488355328) (hk : k.length ≤ 140737488355328) : Zy n a b l k n a b l k = some true := by
  unfold Zy Vd
  simp only [beq_self_eq_true, Bool.not_true, bne_self_eq_false, cond_false]
  exact snet_loop l k hl hk l.length 0 Xx (by omega) (by omega) (by unfold Xx; omega)
theorem Lw (l : List Qb) (hl : l.length ≤ 140737488355328) (hq : ∀ t ∈ l, t.2.2.2.1.length ≤ 140737488355328 ∧ t.2.2.2.2.length ≤ 140737488355328) : ∀ (d i f : Nat), d = l.length - i → i ≤ l.length → d < f → Zf l l f (i : Int) = some true := by
  intro d
  induction d with
  | zero =>
    intro i f hd hi hf
    obtain ⟨f, rfl⟩ : ∃ g, f = g + 1 := ⟨f - 1, by omega⟩
    show Ze (Zf l l f) l l (i : Int) = _
    unfold Ze
    rw [decide_eq_false (show ¬ ((i : Int) < ((l.length : Nat) : Int)) by omega), cond_false]
  | succ d ih =>
    intro i f hd hi hf
    obtain ⟨f, rfl⟩ : ∃ g, f = g + 1 := ⟨f - 1, by omega⟩
    have hlt : i < l.length := by omega
    obtain ⟨q1, q2⟩ := hq _ (List.getElem_mem hlt)
    show Ze (Zf l l f) l l (i : Int) = _
    unfold Ze
    rw [decide_eq_true (show (i : Int) < ((l.length : Nat) : Int) by omega), cond_true, Y3 hlt]
    simp only [Option.bind_some]
    rw [rSameT _ _ _ _ _ q1 q2, Option.bind_some, Bool.not_true, cond_false, show (i : Int) + 1 = ((i + 1 : Nat) : Int) by omega, J5 (by omega)]
    exact ih (i + 1) f (by omega) (by omega) (by omega)
theorem rSame (w g i e : Int) (l : List Qb) (hl : l.length ≤ 140737488355328) (hq : ∀ t ∈ l, t.2.2.2.1.length ≤ 140737488355328 ∧ t.2.2.2.2.length ≤ 140737488355328) : Xt w g i e l w g i e l = some true := by
  unfold Xt V3
  simp only [bne_self_eq_false, cond_false]
  exact Lw l hl hq l.length 0 Xx (by omega) (by omega) (by unfold Xx; omega)
end Go.Proofs.YtoflbpmbkmephaaGreatDoor
namespace Go.Proofs.YtoflbpmbkmephaaGreatDoor
theorem K3 : ∀ (l : List Str) (x : Str), Br l = true → (∀ y, l.getLast? = some y → Op.bytesLess y x = true) → Br (l ++ [x]) = true
  | [], x, _, _ => rfl
  | [a], x, _, h => by
    show (Op.bytesLess a x && Br [x]) = true
    rw [h a rfl]
    rfl
  | a :: b :: r, x, h, hx => by
    have h : (Op.bytesLess a b && Br (b :: r)) = true := h
    rw [Bool.and_eq_true] at h
    show (Op.bytesLess a b && Br (b :: r ++ [x])) = true
    rw [h.1, K3 (b :: r) x h.2 (fun y hy => hx y (by rw [List.getLast?_cons_cons]; exact hy))]
    rfl
end Go.Proofs.YtoflbpmbkmephaaGreatDoor
namespace Go.Proofs.YtoflbpmbkmephaaGreatDoor
open Go.RowKit
def Qs (a : Bool) : Option (Bool) :=
  (some (a))
def Jn  : Option (Bool) :=
  ((Zp ([116, 105, 109, 101, 115, 32, 57, 32, 56, 32, 55, 32, 54, 10, 116, 101, 110, 97, 110, 116, 32, 97, 32, 50, 32, 51, 10, 110, 101, 116, 32, 49, 48, 46, 48, 46, 48, 46, 48, 47, 56, 10, 116, 111, 107, 101, 110, 32, 107, 32, 48, 48, 102, 102, 32, 53, 10, 116, 101, 110, 97, 110, 116, 32, 98, 32, 48, 32, 48, 10] : List UInt8)).bind fun z1 => ((some z1.2.2.2.2.1).bind fun l9 => ((Zp ([116, 105, 109, 101, 115, 32, 57, 32, 56, 32, 55, 32, 54, 10, 110, 101, 116, 32, 49, 48, 46, 48, 46, 48, 46, 48, 47, 56, 10] : List UInt8)).bind fun b => ((some b.2.2.2.2.1).bind fun h => ((Zp ([116, 105, 109, 101, 115, 32, 57, 32, 56, 32, 55, 32, 54, 10, 116, 101, 110, 97, 110, 116, 32, 98, 32, 49, 32, 49, 10, 116, 101, 110, 97, 110, 116, 32, 97, 32, 49, 32, 49, 10] : List UInt8)).bind fun c => ((some c.2.2.2.2.1).bind fun i => ((Rm z1.1 z1.2.1 z1.2.2.1 z1.2.2.2.1 l9 ([97] : List UInt8)).bind fun a => ((Gm a.1 a.2.1 a.2.2.1 a.2.2.2.1 a.2.2.2.2.1 ([107] : List UInt8)).bind fun d => (cond (z1.2.2.2.2.2.1 == 0) ((Jf z1.1 z1.2.1 z1.2.2.1 z1.2.2.2.1 l9).bind fun e => (cond (e == ([116, 105, 109, 101, 115, 32, 57, 32, 56, 32, 55, 32, 54, 10, 116, 101, 110, 97, 110, 116, 32, 97, 32, 50, 32, 51, 10, 110, 101, 116, 32, 49, 48, 46, 48, 46, 48, 46, 48, 47, 56, 10, 116, 111, 107, 101, 110, 32, 107, 32, 48, 48, 102, 102, 32, 53, 10, 116, 101, 110, 97, 110, 116, 32, 98, 32, 48, 32, 48, 10] : List UInt8)) (cond (((List.length l9 : Nat) : Int) == 2) (cond (z1.2.2.2.1 == 6) (cond (b.2.2.2.2.2.1 == 91) (cond (b.2.2.2.2.2.2 == 1) (cond (c.2.2.2.2.2.1 == 91) (cond (c.2.2.2.2.2.2 == 2) (cond a.2.2.2.2.2 (cond d.2.2.2 (cond (d.2.1 == ([0, 255] : List UInt8)) (cond (d.2.2.1 == 5) ((Z1 z1.1 z1.2.1 z1.2.2.1 z1.2.2.2.1 l9).bind fun f => (cond f ((Z1 0 0 0 0 ([] : List Qb)).bind fun g => (Qs (!g))) (Qs false))) (Qs false)) (Qs false)) (Qs false)) (Qs false)) (Qs false)) (Qs false)) (Qs false)) (Qs false)) (Qs false)) (Qs false)) (Qs false))) (Qs false))))))))))
set_option maxHeartbeats 40000000 in
theorem Rn   (w0 : World) (hL : U9 w0)  (r : (Bool)) (H : Jn  = some r) :
  Calls Tryz.prog 14 #[] w0 (fun e w' => e = .returned (.bool r) ∧ SP [] w0 w' []) := by
 unfold Jn at H
 refine Qv (n := 101) Tryz.func14 K K K ?_
 have d0 := Q1 [] w0
 refine aQ ?_
 refine aR ?_
 refine iR 1 1 [(0, (.bool false))] ?_
 refine iF ?_
 refine aQ ?_
 refine aR ?_
 refine iR 1 1 [(1, (.string ⟨List.toArray ([116, 105, 109, 101, 115, 32, 57, 32, 56, 32, 55, 32, 54, 10, 116, 101, 110, 97, 110, 116, 32, 97, 32, 50, 32, 51, 10, 110, 101, 116, 32, 49, 48, 46, 48, 46, 48, 46, 48, 47, 56, 10, 116, 111, 107, 101, 110, 32, 107, 32, 48, 48, 102, 102, 32, 53, 10, 116, 101, 110, 97, 110, 116, 32, 98, 32, 48, 32, 48, 10] : List UInt8)⟩))] ?_
 refine iF ?_
 refine aQ ?_
 refine aR ?_
 refine iR 1 1 [(16, (.string ⟨List.toArray ([116, 105, 109, 101, 115, 32, 57, 32, 56, 32, 55, 32, 54, 10, 116, 101, 110, 97, 110, 116, 32, 97, 32, 50, 32, 51, 10, 110, 101, 116, 32, 49, 48, 46, 48, 46, 48, 46, 48, 47, 56, 10, 116, 111, 107, 101, 110, 32, 107, 32, 48, 48, 102, 102, 32, 53, 10, 116, 101, 110, 97, 110, 116, 32, 98, 32, 48, 32, 48, 10] : List UInt8)⟩))] ?_
 obtain ⟨z1, e4, H⟩ := Qd H
 refine iS 2 ?_
 refine cF 16 #[(.tmp 16)] #[9] 17 Tryz.call16 (Y7  ([116, 105, 109, 101, 115, 32, 57, 32, 56, 32, 55, 32, 54, 10, 116, 101, 110, 97, 110, 116, 32, 97, 32, 50, 32, 51, 10, 110, 101, 116, 32, 49, 48, 46, 48, 46, 48, 46, 48, 47, 56, 10, 116, 111, 107, 101, 110, 32, 107, 32, 48, 48, 102, 102, 32, 53, 10, 116, 101, 110, 97, 110, 116, 32, 98, 32, 48, 32, 48, 10] : List UInt8) w0 (Q0 hL (SP.keeps d0)) z1 e4) ?_
 rintro e w3 ⟨A5, c6, d7, rfl, e5, d1⟩
 obtain ⟨h7, hll9, H⟩ := Zs H
 rw [e5] at hll9
 subst hll9
 refine ⟨_, rfl, ?_⟩
 have e6 := SP.call d0 d1
 clear d1
 refine iR 4 6 [(15, (.tuple #[(.agg #[(.int .i64 z1.1), (.int .i64 z1.2.1), (.int .i64 z1.2.2.1), (.int .i64 z1.2.2.2.1), (.slice A5 (List.length (List.map stT d7)) c6)]), (.int .i64 z1.2.2.2.2.2.1), (.int .i64 z1.2.2.2.2.2.2)])), (18, (.agg #[(.int .i64 z1.1), (.int .i64 z1.2.1), (.int .i64 z1.2.2.1), (.int .i64 z1.2.2.2.1), (.slice A5 (List.length (List.map stT d7)) c6)])), (19, (.int .i64 z1.2.2.2.2.2.1)), (20, (.int .i64 z1.2.2.2.2.2.2))] ?_
 refine iS 7 ?_
 refine Qi.alloc (t := 24) (z := (.agg #[(.int .i64 0), (.int .i64 0), (.int .i64 0), (.int .i64 0), (.slice none (List.length ([] : List Qb)) 0)])) (d := (some 2)) (k := 6) K rfl K e6 ?_
 intro o h8 e7
 refine iS 8 ?_
 refine Qi.store (t := 24) (x := (.tmp 2)) (y := (.tmp 18)) (g := o) (off := 0) (i := 1) (v := (.agg #[(.int .i64 z1.1), (.int .i64 z1.2.1), (.int .i64 z1.2.2.1), (.int .i64 z1.2.2.2.1), (.slice A5 (List.length (List.map stT d7)) c6)])) (cs' := #[(.int .i64 z1.1), (.int .i64 z1.2.1), (.int .i64 z1.2.2.1), (.int .i64 z1.2.2.2.1), (.slice A5 (List.length (List.map stT d7)) c6)]) (d := none) (k := 7) K rfl K K e7 rfl K ?_
 intro e8 d2
 refine iR 2 10 [(3, (.int .i64 z1.2.2.2.2.2.1)), (4, (.int .i64 z1.2.2.2.2.2.2))] ?_
 refine iF ?_
 refine aQ ?_
 refine aR ?_
 obtain ⟨f, e9, H⟩ := Qd H
 refine iS 1 ?_
 refine cF 16 #[(.const (.string ⟨List.toArray ([116, 105, 109, 101, 115, 32, 57, 32, 56, 32, 55, 32, 54, 10, 110, 101, 116, 32, 49, 48, 46, 48, 46, 48, 46, 48, 47, 56, 10] : List UInt8)⟩))] #[9] 22 Tryz.call16 (Y7  ([116, 105, 109, 101, 115, 32, 57, 32, 56, 32, 55, 32, 54, 10, 110, 101, 116, 32, 49, 48, 46, 48, 46, 48, 46, 48, 47, 56, 10] : List UInt8) e8 (Q0 hL (SP.keeps d2)) f e9) ?_
 rintro e h9 ⟨a6, a7, a8, rfl, f0, d3⟩
 obtain ⟨i0, hll27, H⟩ := Zs H
 rw [f0] at hll27
 subst hll27
 refine ⟨_, rfl, ?_⟩
 have f1 := SP.call d2 d3
 clear d3
 refine iR 4 5 [(21, (.tuple #[(.agg #[(.int .i64 f.1), (.int .i64 f.2.1), (.int .i64 f.2.2.1), (.int .i64 f.2.2.2.1), (.slice a6 (List.length (List.map stT a8)) a7)]), (.int .i64 f.2.2.2.2.2.1), (.int .i64 f.2.2.2.2.2.2)])), (23, (.agg #[(.int .i64 f.1), (.int .i64 f.2.1), (.int .i64 f.2.2.1), (.int .i64 f.2.2.2.1), (.slice a6 (List.length (List.map stT a8)) a7)])), (24, (.int .i64 f.2.2.2.2.2.1)), (25, (.int .i64 f.2.2.2.2.2.2))] ?_
 refine iS 6 ?_
 refine Qi.alloc (t := 24) (z := (.agg #[(.int .i64 0), (.int .i64 0), (.int .i64 0), (.int .i64 0), (.slice none (List.length ([] : List Qb)) 0)])) (d := (some 5)) (k := 5) K rfl K f1 ?_
 intro f2 i1 f3
 refine iS 7 ?_
 refine Qi.store (t := 24) (x := (.tmp 5)) (y := (.tmp 23)) (g := f2) (off := 0) (i := 3) (v := (.agg #[(.int .i64 f.1), (.int .i64 f.2.1), (.int .i64 f.2.2.1), (.int .i64 f.2.2.2.1), (.slice a6 (List.length (List.map stT a8)) a7)])) (cs' := #[(.int .i64 f.1), (.int .i64 f.2.1), (.int .i64 f.2.2.1), (.int .i64 f.2.2.2.1), (.slice a6 (List.length (List.map stT a8)) a7)]) (d := none) (k := 6) K rfl K K f3 rfl K ?_
 intro f4 d4
 refine iR 2 9 [(6, (.int .i64 f.2.2.2.2.2.1)), (7, (.int .i64 f.2.2.2.2.2.2))] ?_
 refine iF ?_
 refine aQ ?_
 refine aR ?_
 obtain ⟨h, f5, H⟩ := Qd H
 refine iS 1 ?_
 refine cF 16 #[(.const (.string ⟨List.toArray ([116, 105, 109, 101, 115, 32, 57, 32, 56, 32, 55, 32, 54, 10, 116, 101, 110, 97, 110, 116, 32, 98, 32, 49, 32, 49, 10, 116, 101, 110, 97, 110, 116, 32, 97, 32, 49, 32, 49, 10] : List UInt8)⟩))] #[9] 27 Tryz.call16 (Y7  ([116, 105, 109, 101, 115, 32, 57, 32, 56, 32, 55, 32, 54, 10, 116, 101, 110, 97, 110, 116, 32, 98, 32, 49, 32, 49, 10, 116, 101, 110, 97, 110, 116, 32, 97, 32, 49, 32, 49, 10] : List UInt8) f4 (Q0 hL (SP.keeps d4)) h f5) ?_
 rintro e i2 ⟨a9, b0, b1, rfl, f6, d5⟩
 obtain ⟨i3, hll45, H⟩ := Zs H
 rw [f6] at hll45
 subst hll45
 refine ⟨_, rfl, ?_⟩
 have f7 := SP.call d4 d5
 clear d5
 refine iR 4 5 [(26, (.tuple #[(.agg #[(.int .i64 h.1), (.int .i64 h.2.1), (.int .i64 h.2.2.1), (.int .i64 h.2.2.2.1), (.slice a9 (List.length (List.map stT b1)) b0)]), (.int .i64 h.2.2.2.2.2.1), (.int .i64 h.2.2.2.2.2.2)])), (28, (.agg #[(.int .i64 h.1), (.int .i64 h.2.1), (.int .i64 h.2.2.1), (.int .i64 h.2.2.2.1), (.slice a9 (List.length (List.map stT b1)) b0)])), (29, (.int .i64 h.2.2.2.2.2.1)), (30, (.int .i64 h.2.2.2.2.2.2))] ?_
 refine iS 6 ?_
 refine Qi.alloc (t := 24) (z := (.agg #[(.int .i64 0), (.int .i64 0), (.int .i64 0), (.int .i64 0), (.slice none (List.length ([] : List Qb)) 0)])) (d := (some 8)) (k := 5) K rfl K f7 ?_
 intro f8 i4 f9
 refine iS 7 ?_
 refine Qi.store (t := 24) (x := (.tmp 8)) (y := (.tmp 28)) (g := f8) (off := 0) (i := 5) (v := (.agg #[(.int .i64 h.1), (.int .i64 h.2.1), (.int .i64 h.2.2.1), (.int .i64 h.2.2.2.1), (.slice a9 (List.length (List.map stT b1)) b0)])) (cs' := #[(.int .i64 h.1), (.int .i64 h.2.1), (.int .i64 h.2.2.1), (.int .i64 h.2.2.2.1), (.slice a9 (List.length (List.map stT b1)) b0)]) (d := none) (k := 6) K rfl K K f9 rfl K ?_
 intro g0 b2
 refine iR 2 9 [(9, (.int .i64 h.2.2.2.2.2.1)), (10, (.int .i64 h.2.2.2.2.2.2))] ?_
 refine iF ?_
 refine aQ ?_
 refine aR ?_
 refine iS 1 ?_
 refine sL 24 2 o 0 1 (.agg #[(.int .i64 z1.1), (.int .i64 z1.2.1), (.int .i64 z1.2.2.1), (.int .i64 z1.2.2.2.1), (.slice A5 (List.length (List.map stT d7)) c6)]) 32 b2 rfl ?_
 obtain ⟨c, g1, H⟩ := Qd H
 refine iS 2 ?_
 refine cF 18 #[(.tmp 32), (.const (.string ⟨List.toArray ([97] : List UInt8)⟩))] #[24, 9] 33 Tryz.call18 (Bo (R := fun w => Below w0.heap.size w0 w ∧ (Yx A5 c6 d7).ok w) A5 c6 z1.1 z1.2.1 z1.2.2.1 z1.2.2.2.1 d7 ([97] : List UInt8) g0 (fun w hb => ⟨Dd b2 hb, SP.get (SP.below b2 hb) (i := 0) rfl⟩) (fun w hr => Rg hr.2) c g1) ?_
 rintro e i5 ⟨p, q, s, u, rfl, g2, g3, d6⟩
 refine ⟨_, rfl, ?_⟩
 have g4 := SP.call b2 d6
 clear d6
 refine iR 3 5 [(31, (.tuple #[(.agg #[(.string ⟨List.toArray c.1⟩), (.int .i64 c.2.1), (.int .i64 c.2.2.1), (.slice p (List.length c.2.2.2.1) q), (.slice s (List.length c.2.2.2.2.1) u)]), (.bool c.2.2.2.2.2)])), (34, (.agg #[(.string ⟨List.toArray c.1⟩), (.int .i64 c.2.1), (.int .i64 c.2.2.1), (.slice p (List.length c.2.2.2.1) q), (.slice s (List.length c.2.2.2.2.1) u)])), (35, (.bool c.2.2.2.2.2))] ?_
 refine iS 6 ?_
 refine Qi.alloc (t := 33) (z := (.agg #[(.string ⟨List.toArray ([] : List UInt8)⟩), (.int .i64 0), (.int .i64 0), (.slice none (List.length ([] : List (Int × Int))) 0), (.slice none (List.length ([] : List ((List UInt8) × (List UInt8) × Int))) 0)])) (d := (some 11)) (k := 5) K rfl K g4 ?_
 intro d8 i6 g5
 refine iS 7 ?_
 refine Qi.store (t := 33) (x := (.tmp 11)) (y := (.tmp 34)) (g := d8) (off := 0) (i := 6) (v := (.agg #[(.string ⟨List.toArray c.1⟩), (.int .i64 c.2.1), (.int .i64 c.2.2.1), (.slice p (List.length c.2.2.2.1) q), (.slice s (List.length c.2.2.2.2.1) u)])) (cs' := #[(.string ⟨List.toArray c.1⟩), (.int .i64 c.2.1), (.int .i64 c.2.2.1), (.slice p (List.length c.2.2.2.1) q), (.slice s (List.length c.2.2.2.2.1) u)]) (d := none) (k := 6) K rfl K K g5 rfl K ?_
 intro b4 a0
 refine iR 1 8 [(12, (.bool c.2.2.2.2.2))] ?_
 refine iF ?_
 refine aQ ?_
 refine aR ?_
 refine iS 1 ?_
 refine sL 33 11 d8 0 6 (.agg #[(.string ⟨List.toArray c.1⟩), (.int .i64 c.2.1), (.int .i64 c.2.2.1), (.slice p (List.length c.2.2.2.1) q), (.slice s (List.length c.2.2.2.2.1) u)]) 37 a0 rfl ?_
 obtain ⟨j, g6, H⟩ := Qd H
 refine iS 2 ?_
 refine cF 20 #[(.tmp 37), (.const (.string ⟨List.toArray ([107] : List UInt8)⟩))] #[33, 9] 38 Tryz.call20 (D5 p q s u c.1 c.2.1 c.2.2.1 c.2.2.2.1 c.2.2.2.2.1 ([107] : List UInt8) b4 (g2 b4 ⟨SP.keeps a0, SP.get a0 (i := 0) rfl⟩) (g3 b4 ⟨SP.keeps a0, SP.get a0 (i := 0) rfl⟩) j g6) ?_
 rintro e i7 ⟨rfl, d9⟩
 refine ⟨_, rfl, ?_⟩
 have g7 := SP.call a0 d9
 clear d9
 refine iR 3 5 [(36, (.tuple #[(.agg #[(.string ⟨List.toArray j.1⟩), (.string ⟨List.toArray j.2.1⟩), (.int .i64 j.2.2.1)]), (.bool j.2.2.2)])), (39, (.agg #[(.string ⟨List.toArray j.1⟩), (.string ⟨List.toArray j.2.1⟩), (.int .i64 j.2.2.1)])), (40, (.bool j.2.2.2))] ?_
 refine iS 6 ?_
 refine Qi.alloc (t := 37) (z := (.agg #[(.string ⟨List.toArray ([] : List UInt8)⟩), (.string ⟨List.toArray ([] : List UInt8)⟩), (.int .i64 0)])) (d := (some 13)) (k := 5) K rfl K g7 ?_
 intro a3 i8 g8
 refine iS 7 ?_
 refine Qi.store (t := 37) (x := (.tmp 13)) (y := (.tmp 39)) (g := a3) (off := 0) (i := 7) (v := (.agg #[(.string ⟨List.toArray j.1⟩), (.string ⟨List.toArray j.2.1⟩), (.int .i64 j.2.2.1)])) (cs' := #[(.string ⟨List.toArray j.1⟩), (.string ⟨List.toArray j.2.1⟩), (.int .i64 j.2.2.1)]) (d := none) (k := 6) K rfl K K g8 rfl K ?_
 intro g9 a4
 refine iR 1 8 [(14, (.bool j.2.2.2))] ?_
 refine iF ?_
 refine aQ ?_
 refine At.join (fun ρ w => ∃ (a1 : Bool), Zm ρ [(0, (.bool a1))] ∧ SP [] w0 w [] ∧ Qs a1 = some r) ?_ ?_
 ·refine aR ?_
  refine iR 3 3 [(41, (.int .i64 z1.2.2.2.2.2.1)), (42, (.bool (z1.2.2.2.2.2.1 == 0))), (43, (.bool (z1.2.2.2.2.2.1 == 0)))] ?_
  refine In.guard (t := 43) (b := (z1.2.2.2.2.2.1 == 0)) K (fun b5 => ?_) (fun b5 => ?_)
  ·have H := ct H b5
   refine iS 4 ?_
   refine sL 24 2 o 0 1 (.agg #[(.int .i64 z1.1), (.int .i64 z1.2.1), (.int .i64 z1.2.2.1), (.int .i64 z1.2.2.2.1), (.slice A5 (List.length (List.map stT d7)) c6)]) 44 a4 rfl ?_
   obtain ⟨a2, h1, H⟩ := Qd H
   refine iS 5 ?_
   refine cF 24 #[(.tmp 44)] #[24] 45 Tryz.call24 (N8 A5 c6 z1.1 z1.2.1 z1.2.2.1 z1.2.2.2.1 d7 g9 (Q0 hL (SP.keeps a4)) (Rg (SP.get a4 (i := 0) rfl)) a2 h1) ?_
   rintro e h2 ⟨rfl, e0⟩
   refine ⟨_, rfl, ?_⟩
   have m := SP.call a4 e0
   clear e0
   refine iR 1 6 [(46, (.string ⟨List.toArray ([116, 105, 109, 101, 115, 32, 57, 32, 56, 32, 55, 32, 54, 10, 116, 101, 110, 97, 110, 116, 32, 97, 32, 50, 32, 51, 10, 110, 101, 116, 32, 49, 48, 46, 48, 46, 48, 46, 48, 47, 56, 10, 116, 111, 107, 101, 110, 32, 107, 32, 48, 48, 102, 102, 32, 53, 10, 116, 101, 110, 97, 110, 116, 32, 98, 32, 48, 32, 48, 10] : List UInt8)⟩))] ?_
   refine iS 7 ?_
   refine Xp (op := .eql) (T := 9) (T' := 9) (x := (.tmp 45)) (y := (.tmp 46)) (a := a2) (b := ([116, 105, 109, 101, 115, 32, 57, 32, 56, 32, 55, 32, 54, 10, 116, 101, 110, 97, 110, 116, 32, 97, 32, 50, 32, 51, 10, 110, 101, 116, 32, 49, 48, 46, 48, 46, 48, 46, 48, 47, 56, 10, 116, 111, 107, 101, 110, 32, 107, 32, 48, 48, 102, 102, 32, 53, 10, 116, 101, 110, 97, 110, 116, 32, 98, 32, 48, 32, 48, 10] : List UInt8)) (r := (.bool (a2 == ([116, 105, 109, 101, 115, 32, 57, 32, 56, 32, 55, 32, 54, 10, 116, 101, 110, 97, 110, 116, 32, 97, 32, 50, 32, 51, 10, 110, 101, 116, 32, 49, 48, 46, 48, 46, 48, 46, 48, 47, 56, 10, 116, 111, 107, 101, 110, 32, 107, 32, 48, 48, 102, 102, 32, 53, 10, 116, 101, 110, 97, 110, 116, 32, 98, 32, 48, 32, 48, 10] : List UInt8)))) (d := (some 47)) (k := 6) K rfl K K rfl ?_
   refine iR 2 9 [(48, (.bool (a2 == ([116, 105, 109, 101, 115, 32, 57, 32, 56, 32, 55, 32, 54, 10, 116, 101, 110, 97, 110, 116, 32, 97, 32, 50, 32, 51, 10, 110, 101, 116, 32, 49, 48, 46, 48, 46, 48, 46, 48, 47, 56, 10, 116, 111, 107, 101, 110, 32, 107, 32, 48, 48, 102, 102, 32, 53, 10, 116, 101, 110, 97, 110, 116, 32, 98, 32, 48, 32, 48, 10] : List UInt8)))), (49, (.bool (a2 == ([116, 105, 109, 101, 115, 32, 57, 32, 56, 32, 55, 32, 54, 10, 116, 101, 110, 97, 110, 116, 32, 97, 32, 50, 32, 51, 10, 110, 101, 116, 32, 49, 48, 46, 48, 46, 48, 46, 48, 47, 56, 10, 116, 111, 107, 101, 110, 32, 107, 32, 48, 48, 102, 102, 32, 53, 10, 116, 101, 110, 97, 110, 116, 32, 98, 32, 48, 32, 48, 10] : List UInt8))))] ?_
   refine In.guard (t := 49) (b := (a2 == ([116, 105, 109, 101, 115, 32, 57, 32, 56, 32, 55, 32, 54, 10, 116, 101, 110, 97, 110, 116, 32, 97, 32, 50, 32, 51, 10, 110, 101, 116, 32, 49, 48, 46, 48, 46, 48, 46, 48, 47, 56, 10, 116, 111, 107, 101, 110, 32, 107, 32, 48, 48, 102, 102, 32, 53, 10, 116, 101, 110, 97, 110, 116, 32, 98, 32, 48, 32, 48, 10] : List UInt8))) K (fun b6 => ?_) (fun b6 => ?_)
   ·have H := ct H b6
    refine iR 1 10 [(50, (pt o 4))] ?_
    refine iS 11 ?_
    refine sL 22 50 o 4 1 (.slice A5 (List.length (List.map stT d7)) c6) 51 m rfl ?_
    refine iR 4 15 [(52, (.int .i64 ((List.length (List.map stT d7) : Nat) : Int))), (53, (.bool (((List.length (List.map stT d7) : Nat) : Int) == 2))), (54, (.bool (((List.length (List.map stT d7) : Nat) : Int) == 2))), (55, (.bool (((List.length (List.map stT d7) : Nat) : Int) == 2)))] ?_
    refine In.guard (t := 55) (b := (((List.length (List.map stT d7) : Nat) : Int) == 2)) K (fun b7 => ?_) (fun b7 => ?_)
    ·have H := ct H b7
     refine iR 1 16 [(56, (pt o 3))] ?_
     refine iS 17 ?_
     refine sL 2 56 o 3 1 (.int .i64 z1.2.2.2.1) 57 m rfl ?_
     refine iR 3 20 [(58, (.bool (z1.2.2.2.1 == 6))), (59, (.bool (z1.2.2.2.1 == 6))), (60, (.bool (z1.2.2.2.1 == 6)))] ?_
     refine In.guard (t := 60) (b := (z1.2.2.2.1 == 6)) K (fun b8 => ?_) (fun b8 => ?_)
     ·have H := ct H b8
      refine iR 4 24 [(61, (.int .i64 f.2.2.2.2.2.1)), (62, (.bool (f.2.2.2.2.2.1 == 91))), (63, (.bool (f.2.2.2.2.2.1 == 91))), (64, (.bool (f.2.2.2.2.2.1 == 91)))] ?_
      refine In.guard (t := 64) (b := (f.2.2.2.2.2.1 == 91)) K (fun b9 => ?_) (fun b9 => ?_)
      ·have H := ct H b9
       refine iR 4 28 [(65, (.int .i64 f.2.2.2.2.2.2)), (66, (.bool (f.2.2.2.2.2.2 == 1))), (67, (.bool (f.2.2.2.2.2.2 == 1))), (68, (.bool (f.2.2.2.2.2.2 == 1)))] ?_
       refine In.guard (t := 68) (b := (f.2.2.2.2.2.2 == 1)) K (fun c0 => ?_) (fun c0 => ?_)
       ·have H := ct H c0
        refine iR 4 32 [(69, (.int .i64 h.2.2.2.2.2.1)), (70, (.bool (h.2.2.2.2.2.1 == 91))), (71, (.bool (h.2.2.2.2.2.1 == 91))), (72, (.bool (h.2.2.2.2.2.1 == 91)))] ?_
        refine In.guard (t := 72) (b := (h.2.2.2.2.2.1 == 91)) K (fun c1 => ?_) (fun c1 => ?_)
        ·have H := ct H c1
         refine iR 4 36 [(73, (.int .i64 h.2.2.2.2.2.2)), (74, (.bool (h.2.2.2.2.2.2 == 2))), (75, (.bool (h.2.2.2.2.2.2 == 2))), (76, (.bool (h.2.2.2.2.2.2 == 2)))] ?_
         refine In.guard (t := 76) (b := (h.2.2.2.2.2.2 == 2)) K (fun c2 => ?_) (fun c2 => ?_)
         ·have H := ct H c2
          refine iR 3 39 [(77, (.bool c.2.2.2.2.2)), (78, (.bool c.2.2.2.2.2)), (79, (.bool c.2.2.2.2.2))] ?_
          refine In.guard (t := 79) (b := c.2.2.2.2.2) K (fun c3 => ?_) (fun c3 => ?_)
          ·have H := ct H c3
           refine iR 3 42 [(80, (.bool j.2.2.2)), (81, (.bool j.2.2.2)), (82, (.bool j.2.2.2))] ?_
           refine In.guard (t := 82) (b := j.2.2.2) K (fun c4 => ?_) (fun c4 => ?_)
           ·have H := ct H c4
            refine iR 1 43 [(83, (pt a3 1))] ?_
            refine iS 44 ?_
            refine sL 9 83 a3 1 7 (.string ⟨List.toArray j.2.1⟩) 84 m rfl ?_
            refine iS 45 ?_
            refine Xp (op := .eql) (T := 9) (T' := 9) (x := (.tmp 84)) (y := (.const (.string ⟨List.toArray ([0, 255] : List UInt8)⟩))) (a := j.2.1) (b := ([0, 255] : List UInt8)) (r := (.bool (j.2.1 == ([0, 255] : List UInt8)))) (d := (some 85)) (k := 44) K rfl K K rfl ?_
            refine iR 2 47 [(86, (.bool (j.2.1 == ([0, 255] : List UInt8)))), (87, (.bool (j.2.1 == ([0, 255] : List UInt8))))] ?_
            refine In.guard (t := 87) (b := (j.2.1 == ([0, 255] : List UInt8))) K (fun c5 => ?_) (fun c5 => ?_)
            ·have H := ct H c5
             refine iR 1 48 [(88, (pt a3 2))] ?_
             refine iS 49 ?_
             refine sL 2 88 a3 2 7 (.int .i64 j.2.2.1) 89 m rfl ?_
             refine iR 3 52 [(90, (.bool (j.2.2.1 == 5))), (91, (.bool (j.2.2.1 == 5))), (92, (.bool (j.2.2.1 == 5)))] ?_
             refine In.guard (t := 92) (b := (j.2.2.1 == 5)) K (fun c7 => ?_) (fun c7 => ?_)
             ·have H := ct H c7
              refine iS 53 ?_
              refine sL 24 2 o 0 1 (.agg #[(.int .i64 z1.1), (.int .i64 z1.2.1), (.int .i64 z1.2.2.1), (.int .i64 z1.2.2.2.1), (.slice A5 (List.length (List.map stT d7)) c6)]) 93 m rfl ?_
              obtain ⟨b3, h3, H⟩ := Qd H
              refine iS 54 ?_
              refine cF 22 #[(.tmp 93)] #[24] 94 Tryz.call22 (X5 A5 c6 z1.1 z1.2.1 z1.2.2.1 z1.2.2.2.1 d7 h2 (Q0 hL (SP.keeps m)) (Rg (SP.get m (i := 0) rfl)) b3 h3) ?_
              rintro e e1 ⟨rfl, e2⟩
              refine ⟨_, rfl, ?_⟩
              have c8 := SP.call m e2
              clear e2
              refine iR 2 56 [(95, (.bool b3)), (96, (.bool b3))] ?_
              refine In.guard (t := 96) (b := b3) K (fun c9 => ?_) (fun c9 => ?_)
              ·have H := ct H c9
               refine iR 1 57 [(97, (.agg #[(.int .i64 0), (.int .i64 0), (.int .i64 0), (.int .i64 0), (.slice none (List.length ([] : List Qb)) 0)]))] ?_
               obtain ⟨a5, h4, H⟩ := Qd H
               refine iS 58 ?_
               refine cF 22 #[(.tmp 97)] #[24] 98 Tryz.call22 (X5 none 0 0 0 0 0 ([] : List Qh) e1 (Q0 hL (SP.keeps c8)) (ds_nil V1 Fc e1) a5 h4) ?_
               rintro e i9 ⟨rfl, e3⟩
               refine ⟨_, rfl, ?_⟩
               have h5 := SP.call c8 e3
               clear e3
               refine iR 3 61 [(99, (.bool (!a5))), (100, (.bool (!a5))), (0, (.bool (!a5)))] ?_
               refine iF ?_
               exact ⟨(!a5), ⟨K, trivial⟩, SP.sel h5 [] rfl rfl, H⟩
              ·have H := cf H c9
               refine iR 5 61 [(97, undef), (98, undef), (99, undef), (100, (.bool false)), (0, (.bool false))] ?_
               refine iF ?_
               exact ⟨false, ⟨K, trivial⟩, SP.sel c8 [] rfl rfl, H⟩
             ·have H := cf H c7
              refine iR 9 61 [(93, undef), (94, undef), (95, (.bool false)), (96, (.bool false)), (97, undef), (98, undef), (99, undef), (100, (.bool false)), (0, (.bool false))] ?_
              refine iF ?_
              exact ⟨false, ⟨K, trivial⟩, SP.sel m [] rfl rfl, H⟩
            ·have H := cf H c5
             refine iR 14 61 [(88, undef), (89, undef), (90, undef), (91, (.bool false)), (92, (.bool false)), (93, undef), (94, undef), (95, (.bool false)), (96, (.bool false)), (97, undef), (98, undef), (99, undef), (100, (.bool false)), (0, (.bool false))] ?_
             refine iF ?_
             exact ⟨false, ⟨K, trivial⟩, SP.sel m [] rfl rfl, H⟩
           ·have H := cf H c4
            refine iR 19 61 [(83, undef), (84, undef), (85, undef), (86, (.bool false)), (87, (.bool false)), (88, undef), (89, undef), (90, undef), (91, (.bool false)), (92, (.bool false)), (93, undef), (94, undef), (95, (.bool false)), (96, (.bool false)), (97, undef), (98, undef), (99, undef), (100, (.bool false)), (0, (.bool false))] ?_
            refine iF ?_
            exact ⟨false, ⟨K, trivial⟩, SP.sel m [] rfl rfl, H⟩
          ·have H := cf H c3
           refine iR 22 61 [(80, undef), (81, (.bool false)), (82, (.bool false)), (83, undef), (84, undef), (85, undef), (86, (.bool false)), (87, (.bool false)), (88, undef), (89, undef), (90, undef), (91, (.bool false)), (92, (.bool false)), (93, undef), (94, undef), (95, (.bool false)), (96, (.bool false)), (97, undef), (98, undef), (99, undef), (100, (.bool false)), (0, (.bool false))] ?_
           refine iF ?_
           exact ⟨false, ⟨K, trivial⟩, SP.sel m [] rfl rfl, H⟩
         ·have H := cf H c2
          refine iR 25 61 [(77, undef), (78, (.bool false)), (79, (.bool false)), (80, undef), (81, (.bool false)), (82, (.bool false)), (83, undef), (84, undef), (85, undef), (86, (.bool false)), (87, (.bool false)), (88, undef), (89, undef), (90, undef), (91, (.bool false)), (92, (.bool false)), (93, undef), (94, undef), (95, (.bool false)), (96, (.bool false)), (97, undef), (98, undef), (99, undef), (100, (.bool false)), (0, (.bool false))] ?_
          refine iF ?_
          exact ⟨false, ⟨K, trivial⟩, SP.sel m [] rfl rfl, H⟩
        ·have H := cf H c1
         refine iR 29 61 [(73, undef), (74, undef), (75, (.bool false)), (76, (.bool false)), (77, undef), (78, (.bool false)), (79, (.bool false)), (80, undef), (81, (.bool false)), (82, (.bool false)), (83, undef), (84, undef), (85, undef), (86, (.bool false)), (87, (.bool false)), (88, undef), (89, undef), (90, undef), (91, (.bool false)), (92, (.bool false)), (93, undef), (94, undef), (95, (.bool false)), (96, (.bool false)), (97, undef), (98, undef), (99, undef), (100, (.bool false)), (0, (.bool false))] ?_
         refine iF ?_
         exact ⟨false, ⟨K, trivial⟩, SP.sel m [] rfl rfl, H⟩
       ·have H := cf H c0
        refine iR 33 61 [(69, undef), (70, undef), (71, (.bool false)), (72, (.bool false)), (73, undef), (74, undef), (75, (.bool false)), (76, (.bool false)), (77, undef), (78, (.bool false)), (79, (.bool false)), (80, undef), (81, (.bool false)), (82, (.bool false)), (83, undef), (84, undef), (85, undef), (86, (.bool false)), (87, (.bool false)), (88, undef), (89, undef), (90, undef), (91, (.bool false)), (92, (.bool false)), (93, undef), (94, undef), (95, (.bool false)), (96, (.bool false)), (97, undef), (98, undef), (99, undef), (100, (.bool false)), (0, (.bool false))] ?_
        refine iF ?_
        exact ⟨false, ⟨K, trivial⟩, SP.sel m [] rfl rfl, H⟩
      ·have H := cf H b9
       refine iR 37 61 [(65, undef), (66, undef), (67, (.bool false)), (68, (.bool false)), (69, undef), (70, undef), (71, (.bool false)), (72, (.bool false)), (73, undef), (74, undef), (75, (.bool false)), (76, (.bool false)), (77, undef), (78, (.bool false)), (79, (.bool false)), (80, undef), (81, (.bool false)), (82, (.bool false)), (83, undef), (84, undef), (85, undef), (86, (.bool false)), (87, (.bool false)), (88, undef), (89, undef), (90, undef), (91, (.bool false)), (92, (.bool false)), (93, undef), (94, undef), (95, (.bool false)), (96, (.bool false)), (97, undef), (98, undef), (99, undef), (100, (.bool false)), (0, (.bool false))] ?_
       refine iF ?_
       exact ⟨false, ⟨K, trivial⟩, SP.sel m [] rfl rfl, H⟩
     ·have H := cf H b8
      refine iR 41 61 [(61, undef), (62, undef), (63, (.bool false)), (64, (.bool false)), (65, undef), (66, undef), (67, (.bool false)), (68, (.bool false)), (69, undef), (70, undef), (71, (.bool false)), (72, (.bool false)), (73, undef), (74, undef), (75, (.bool false)), (76, (.bool false)), (77, undef), (78, (.bool false)), (79, (.bool false)), (80, undef), (81, (.bool false)), (82, (.bool false)), (83, undef), (84, undef), (85, undef), (86, (.bool false)), (87, (.bool false)), (88, undef), (89, undef), (90, undef), (91, (.bool false)), (92, (.bool false)), (93, undef), (94, undef), (95, (.bool false)), (96, (.bool false)), (97, undef), (98, undef), (99, undef), (100, (.bool false)), (0, (.bool false))] ?_
      refine iF ?_
      exact ⟨false, ⟨K, trivial⟩, SP.sel m [] rfl rfl, H⟩
    ·have H := cf H b7
     refine iR 46 61 [(56, undef), (57, undef), (58, undef), (59, (.bool false)), (60, (.bool false)), (61, undef), (62, undef), (63, (.bool false)), (64, (.bool false)), (65, undef), (66, undef), (67, (.bool false)), (68, (.bool false)), (69, undef), (70, undef), (71, (.bool false)), (72, (.bool false)), (73, undef), (74, undef), (75, (.bool false)), (76, (.bool false)), (77, undef), (78, (.bool false)), (79, (.bool false)), (80, undef), (81, (.bool false)), (82, (.bool false)), (83, undef), (84, undef), (85, undef), (86, (.bool false)), (87, (.bool false)), (88, undef), (89, undef), (90, undef), (91, (.bool false)), (92, (.bool false)), (93, undef), (94, undef), (95, (.bool false)), (96, (.bool false)), (97, undef), (98, undef), (99, undef), (100, (.bool false)), (0, (.bool false))] ?_
     refine iF ?_
     exact ⟨false, ⟨K, trivial⟩, SP.sel m [] rfl rfl, H⟩
   ·have H := cf H b6
    refine iR 52 61 [(50, undef), (51, undef), (52, undef), (53, undef), (54, (.bool false)), (55, (.bool false)), (56, undef), (57, undef), (58, undef), (59, (.bool false)), (60, (.bool false)), (61, undef), (62, undef), (63, (.bool false)), (64, (.bool false)), (65, undef), (66, undef), (67, (.bool false)), (68, (.bool false)), (69, undef), (70, undef), (71, (.bool false)), (72, (.bool false)), (73, undef), (74, undef), (75, (.bool false)), (76, (.bool false)), (77, undef), (78, (.bool false)), (79, (.bool false)), (80, undef), (81, (.bool false)), (82, (.bool false)), (83, undef), (84, undef), (85, undef), (86, (.bool false)), (87, (.bool false)), (88, undef), (89, undef), (90, undef), (91, (.bool false)), (92, (.bool false)), (93, undef), (94, undef), (95, (.bool false)), (96, (.bool false)), (97, undef), (98, undef), (99, undef), (100, (.bool false)), (0, (.bool false))] ?_
    refine iF ?_
    exact ⟨false, ⟨K, trivial⟩, SP.sel m [] rfl rfl, H⟩
  ·have H := cf H b5
   refine iR 58 61 [(44, undef), (45, undef), (46, undef), (47, undef), (48, (.bool false)), (49, (.bool false)), (50, undef), (51, undef), (52, undef), (53, undef), (54, (.bool false)), (55, (.bool false)), (56, undef), (57, undef), (58, undef), (59, (.bool false)), (60, (.bool false)), (61, undef), (62, undef), (63, (.bool false)), (64, (.bool false)), (65, undef), (66, undef), (67, (.bool false)), (68, (.bool false)), (69, undef), (70, undef), (71, (.bool false)), (72, (.bool false)), (73, undef), (74, undef), (75, (.bool false)), (76, (.bool false)), (77, undef), (78, (.bool false)), (79, (.bool false)), (80, undef), (81, (.bool false)), (82, (.bool false)), (83, undef), (84, undef), (85, undef), (86, (.bool false)), (87, (.bool false)), (88, undef), (89, undef), (90, undef), (91, (.bool false)), (92, (.bool false)), (93, undef), (94, undef), (95, (.bool false)), (96, (.bool false)), (97, undef), (98, undef), (99, undef), (100, (.bool false)), (0, (.bool false))] ?_
   refine iF ?_
   exact ⟨false, ⟨K, trivial⟩, SP.sel a4 [] rfl rfl, H⟩
 ·rintro ρ j0 ⟨a1, hk, h6, H⟩
  unfold Qs at H
  first | refine At.known [(0, (.bool a1))] hk ?_ | rw [← Q3 (l := [(0, (.bool a1))]) hk]
  refine At.ret K ?_
  refine ⟨(.bool a1), K, ?_⟩
  obtain rfl := Qg H
  exact ⟨rfl, SP.sel h6 [] rfl rfl⟩
end Go.Proofs.YtoflbpmbkmephaaGreatDoor
namespace Go.Proofs.YtoflbpmbkmephaaGreatDoor
open Go.RowKit
set_option maxRecDepth 1000000 in
theorem cfgHead : Jn = some true := by decide +kernel
end Go.Proofs.YtoflbpmbkmephaaGreatDoor
namespace Go.Proofs.YtoflbpmbkmephaaGreatDoor
open Go.RowKit
def Vw (a : Bool) : Option (Bool) :=
  (some (a))
def Vx (a : Bool) : Option (Bool) :=
  (some (a))
def Q5 (d : Int) (e : Int) (f : Int) (g : Int) (c : (List Qb)) (h : UInt8) (i : UInt8) (b : (Bool)) (l : Bool) : Option (Bool) :=
  (cond l (some (b)) ((Jf d e f g c).bind fun j => ((app ([116, 101, 110, 97, 110, 116, 32, 122, 122, 32] : List UInt8) ([(Ug (IntKind.wrap .u8 (48 + (Int.tmod ((h).toNat : Int) 9))))] : List UInt8)).bind fun m => ((app m ([32] : List UInt8)).bind fun n => ((app n ([(Ug (IntKind.wrap .u8 (48 + (Int.tmod ((i).toNat : Int) 9))))] : List UInt8)).bind fun o => ((app o ([10] : List UInt8)).bind fun k => (cond (decide ((IntKind.wrap .i64 (((List.length j : Nat) : Int) + ((List.length k : Nat) : Int))) > 4096)) (some (b)) ((app j k).bind fun p => ((Zp p).bind fun a => ((some a.2.2.2.2.1).bind fun q => (cond (decide (((List.length c : Nat) : Int) ≥ 8)) (cond b (cond (a.2.2.2.2.2.1 == 91) (Vw (decide (a.2.2.2.2.2.2 > 0))) (Vw false)) (Vw false)) ((app ([] : List Qb) c).bind fun r => ((app r ([(([122, 122] : List UInt8), (IntKind.wrap .i64 (Int.tmod ((h).toNat : Int) 9)), (IntKind.wrap .i64 (Int.tmod ((i).toNat : Int) 9)), ([] : List (Int × Int)), ([] : List ((List UInt8) × (List UInt8) × Int)))] : List Qb)).bind fun s => (cond b (cond (a.2.2.2.2.2.1 == 0) ((Xt a.1 a.2.1 a.2.2.1 a.2.2.2.1 q d e f g s).bind fun t => (Vx t)) (Vx false)) (Vx false)))))))))))))))
def Xk (b : Int) (c : Int) (d : Int) (e : Int) (a : (List Qb)) (f : UInt8) (g : UInt8) : Option (Bool) :=
  ((Jn ).bind fun h => ((Y4 b c d e a).bind fun i => (cond i (Q5 b c d e a f g h true) ((Z1 b c d e a).bind fun j => (cond (!j) (Q5 b c d e a f g h true) (cond (decide (((List.length a : Nat) : Int) > 0)) ((idx a (IntKind.wrap .i64 (((List.length a : Nat) : Int) - 1))).bind fun k => (Q5 b c d e a f g h (!(Op.bytesLess k.1 ([122, 122] : List UInt8))))) (Q5 b c d e a f g h false)))))))
set_option maxHeartbeats 40000000 in
theorem Nh (A6 : Option Addr) (c7 : Nat) (u : Int) (a0 : Int) (a1 : Int) (a2 : Int) (d9 : (List Qh)) (f : UInt8) (p : UInt8) (w0 : World) (hL : U9 w0) (b9 : (dDS V1 Fc).ok w0 (A6, c7, d9)) (r : (Bool)) (H : Xk u a0 a1 a2 (List.map stT d9) f p = some r) :
  Calls Tryz.prog 8 #[(.agg #[(.int .i64 u), (.int .i64 a0), (.int .i64 a1), (.int .i64 a2), (.slice A6 (List.length (List.map stT d9)) c7)]), (.int .u8 ((f).toNat : Int)), (.int .u8 ((p).toNat : Int))] w0 (fun e w' => e = .returned (.bool r) ∧ SP [] w0 w' []) := by
 unfold Xk at H
 refine Qv (n := 112) Tryz.func8 K K K ?_
 have j3 := Q1 [] w0
 refine aQ ?_
 refine aR ?_
 refine iS 1 ?_
 refine Z0 (t := 24) (x := (.tmp 0)) (v := (.agg #[(.int .i64 u), (.int .i64 a0), (.int .i64 a1), (.int .i64 a2), (.slice A6 (List.length (List.map stT d9)) c7)])) (d := (some 3)) (k := 0) K rfl K j3 ?_
 intro a3 j4 g5
 refine iR 1 2 [(6, (.bool false))] ?_
 refine iF ?_
 refine aQ ?_
 refine aR ?_
 obtain ⟨a9, j5, H⟩ := Qd H
 refine iS 1 ?_
 refine cF 14 #[] #[] 15 Tryz.call14 (Rn   j4 (Q0 hL (SP.keeps g5)) a9 j5) ?_
 rintro e j6 ⟨rfl, g6⟩
 refine ⟨_, rfl, ?_⟩
 have e8 := SP.call g5 g6
 clear g6
 refine iR 1 2 [(7, (.bool a9))] ?_
 refine iF ?_
 refine aQ ?_
 refine aQ ?_
 refine At.join (fun ρ w => ∃ (c5 : Bool), Zm ρ [(1, (.int .u8 ((f).toNat : Int))), (2, (.int .u8 ((p).toNat : Int))), (3, (pt a3 0)), (7, (.bool a9)), (40, (.bool c5))] ∧ SP [] w0 w [Qq a3 24 #[(.int .i64 u), (.int .i64 a0), (.int .i64 a1), (.int .i64 a2), (.slice A6 (List.length (List.map stT d9)) c7)]] ∧ Q5 u a0 a1 a2 (List.map stT d9) f p a9 c5 = some r) ?_ ?_
 ·refine aR ?_
  refine iS 1 ?_
  refine sL 24 3 a3 0 0 (.agg #[(.int .i64 u), (.int .i64 a0), (.int .i64 a1), (.int .i64 a2), (.slice A6 (List.length (List.map stT d9)) c7)]) 16 e8 rfl ?_
  obtain ⟨e9, j7, H⟩ := Qd H
  refine iS 2 ?_
  refine cF 15 #[(.tmp 16)] #[24] 17 Tryz.call15 (Gs A6 c7 u a0 a1 a2 d9 j6 (Dp.sp b9 e8) e9 j7) ?_
  rintro e j8 ⟨rfl, g7⟩
  refine ⟨_, rfl, ?_⟩
  have d6 := SP.call e8 g7
  clear g7
  refine iR 1 3 [(18, (.bool e9))] ?_
  refine In.guard (t := 18) (b := e9) K (fun f0 => ?_) (fun f0 => ?_)
  ·have H := ct H f0
   refine iR 22 25 [(19, undef), (20, undef), (21, undef), (22, (.bool true)), (23, (.bool true)), (24, undef), (25, undef), (26, undef), (27, undef), (28, undef), (29, undef), (30, undef), (31, undef), (32, undef), (33, undef), (34, undef), (35, undef), (36, undef), (37, undef), (38, undef), (39, undef), (40, (.bool true))] ?_
   refine iF ?_
   exact ⟨true, ⟨K, K, K, K, K, trivial⟩, SP.sel d6 [0] rfl rfl, H⟩
  ·have H := cf H f0
   refine iS 4 ?_
   refine sL 24 3 a3 0 0 (.agg #[(.int .i64 u), (.int .i64 a0), (.int .i64 a1), (.int .i64 a2), (.slice A6 (List.length (List.map stT d9)) c7)]) 19 d6 rfl ?_
   obtain ⟨d7, j9, H⟩ := Qd H
   refine iS 5 ?_
   refine cF 22 #[(.tmp 19)] #[24] 20 Tryz.call22 (X5 A6 c7 u a0 a1 a2 d9 j8 (Q0 hL (SP.keeps d6)) (Dp.sp b9 d6) d7 j9) ?_
   rintro e q3 ⟨rfl, g8⟩
   refine ⟨_, rfl, ?_⟩
   have c0 := SP.call d6 g8
   clear g8
   refine iR 3 8 [(21, (.bool (!d7))), (22, (.bool (!d7))), (23, (.bool (!d7)))] ?_
   refine In.guard (t := 23) (b := (!d7)) K (fun f1 => ?_) (fun f1 => ?_)
   ·have H := ct H f1
    refine iR 17 25 [(24, undef), (25, undef), (26, undef), (27, undef), (28, undef), (29, undef), (30, undef), (31, undef), (32, undef), (33, undef), (34, undef), (35, undef), (36, undef), (37, undef), (38, undef), (39, undef), (40, (.bool true))] ?_
    refine iF ?_
    exact ⟨true, ⟨K, K, K, K, K, trivial⟩, SP.sel c0 [0] rfl rfl, H⟩
   ·have H := cf H f1
    refine iR 1 9 [(24, (pt a3 4))] ?_
    refine iS 10 ?_
    refine sL 22 24 a3 4 0 (.slice A6 (List.length (List.map stT d9)) c7) 25 c0 rfl ?_
    refine iR 3 13 [(26, (.int .i64 ((List.length (List.map stT d9) : Nat) : Int))), (27, (.bool (decide (((List.length (List.map stT d9) : Nat) : Int) > 0)))), (28, (.bool (decide (((List.length (List.map stT d9) : Nat) : Int) > 0))))] ?_
    refine In.guard (t := 28) (b := (decide (((List.length (List.map stT d9) : Nat) : Int) > 0))) K (fun f2 => ?_) (fun f2 => ?_)
    ·have H := ct H f2
     refine iR 1 14 [(29, (pt a3 4))] ?_
     refine iS 15 ?_
     refine sL 22 29 a3 4 0 (.slice A6 (List.length (List.map stT d9)) c7) 30 c0 rfl ?_
     refine iR 1 16 [(31, (pt a3 4))] ?_
     refine iS 17 ?_
     refine sL 22 31 a3 4 0 (.slice A6 (List.length (List.map stT d9)) c7) 32 c0 rfl ?_
     refine iR 2 19 [(33, (.int .i64 ((List.length (List.map stT d9) : Nat) : Int))), (34, (.int .i64 (IntKind.wrap .i64 (((List.length (List.map stT d9) : Nat) : Int) - 1))))] ?_
     obtain ⟨c6, g9, h1, k1, H⟩ := J6 H
     refine iS 20 ?_
     refine Yu stT (e := V1) (l := d9) (A := A6) (c := c7) (T := 22) (E := 33) (x := (.tmp 30)) (ix := (.tmp 34)) (ki := .i64) (iz := (IntKind.wrap .i64 (((List.length (List.map stT d9) : Nat) : Int) - 1))) (d := (some 35)) (k := 19) K rfl K K K K (RdT.sp (Yh b9) c0) g9 h1 ?_
     intro h2 h3 k2 q4 hc358
     refine iR 1 21 [(36, (.pointer (some ⟨h2, (h3 + Int.toNat (IntKind.wrap .i64 (((List.length (List.map stT d9) : Nat) : Int) - 1)) * V1.sz), none⟩)))] ?_
     refine iS 22 ?_
     refine sC 9 36 h2 (h3 + Int.toNat (IntKind.wrap .i64 (((List.length (List.map stT d9) : Nat) : Int) - 1)) * V1.sz) (.string ⟨List.toArray (stT c6).1⟩) 37 (Qw (e := V1) (Qj (RdT.sp (Yh b9) c0) k2 g9 h1) k1 (j := 0) rfl) ?_
     refine iS 23 ?_
     refine Xp (op := .geq) (T := 9) (T' := 9) (x := (.tmp 37)) (y := (.const (.string ⟨List.toArray ([122, 122] : List UInt8)⟩))) (a := (stT c6).1) (b := ([122, 122] : List UInt8)) (r := (.bool (!(Op.bytesLess (stT c6).1 ([122, 122] : List UInt8))))) (d := (some 38)) (k := 22) K rfl K K rfl ?_
     refine iR 2 25 [(39, (.bool (!(Op.bytesLess (stT c6).1 ([122, 122] : List UInt8))))), (40, (.bool (!(Op.bytesLess (stT c6).1 ([122, 122] : List UInt8)))))] ?_
     refine iF ?_
     exact ⟨(!(Op.bytesLess (stT c6).1 ([122, 122] : List UInt8))), ⟨K, K, K, K, K, trivial⟩, SP.sel c0 [0] rfl rfl, H⟩
    ·have H := cf H f2
     refine iR 12 25 [(29, undef), (30, undef), (31, undef), (32, undef), (33, undef), (34, undef), (35, undef), (36, undef), (37, undef), (38, undef), (39, (.bool false)), (40, (.bool false))] ?_
     refine iF ?_
     exact ⟨false, ⟨K, K, K, K, K, trivial⟩, SP.sel c0 [0] rfl rfl, H⟩
 ·rintro ρ k3 ⟨c5, hk, d8, H⟩
  unfold Q5 at H
  first | refine At.known [(1, (.int .u8 ((f).toNat : Int))), (2, (.int .u8 ((p).toNat : Int))), (3, (pt a3 0)), (7, (.bool a9)), (40, (.bool c5))] hk ?_ | rw [← Q3 (l := [(1, (.int .u8 ((f).toNat : Int))), (2, (.int .u8 ((p).toNat : Int))), (3, (pt a3 0)), (7, (.bool a9)), (40, (.bool c5))]) hk]
  refine Xe K (o := (.tmp 40)) K (b := c5) K (fun f3 => ?_) (fun f3 => ?_)
  ·have H := ct H f3
   refine aQ ?_
   refine aR ?_
   refine iR 2 2 [(41, (.bool a9)), (6, (.bool a9))] ?_
   refine iF ?_
   refine At.ret K ?_
   refine ⟨(.bool a9), K, ?_⟩
   obtain rfl := Qg H
   exact ⟨rfl, SP.sel d8 [] rfl rfl⟩
  ·have H := cf H f3
   refine At.skip K ?_
   refine aQ ?_
   refine aR ?_
   refine iS 1 ?_
   refine sL 24 3 a3 0 0 (.agg #[(.int .i64 u), (.int .i64 a0), (.int .i64 a1), (.int .i64 a2), (.slice A6 (List.length (List.map stT d9)) c7)]) 42 d8 rfl ?_
   obtain ⟨b3, k4, H⟩ := Qd H
   refine iS 2 ?_
   refine cF 24 #[(.tmp 42)] #[24] 43 Tryz.call24 (N8 A6 c7 u a0 a1 a2 d9 k3 (Q0 hL (SP.keeps d8)) (Dp.sp b9 d8) b3 k4) ?_
   rintro e q5 ⟨rfl, h4⟩
   refine ⟨_, rfl, ?_⟩
   have k5 := SP.call d8 h4
   clear h4
   refine iR 1 3 [(8, (.string ⟨List.toArray b3⟩))] ?_
   refine iF ?_
   refine aQ ?_
   refine aR ?_
   refine iR 7 7 [(44, (.int .u8 ((f).toNat : Int))), (45, (.int .u8 (Int.tmod ((f).toNat : Int) 9))), (46, (.int .i64 (IntKind.wrap .i64 (Int.tmod ((f).toNat : Int) 9)))), (47, (.int .u8 ((p).toNat : Int))), (48, (.int .u8 (Int.tmod ((p).toNat : Int) 9))), (49, (.int .i64 (IntKind.wrap .i64 (Int.tmod ((p).toNat : Int) 9)))), (50, (.agg #[(.string ⟨List.toArray ([122, 122] : List UInt8)⟩), (.int .i64 (IntKind.wrap .i64 (Int.tmod ((f).toNat : Int) 9))), (.int .i64 (IntKind.wrap .i64 (Int.tmod ((p).toNat : Int) 9))), (.slice none (List.length ([] : List (Int × Int))) 0), (.slice none (List.length ([] : List ((List UInt8) × (List UInt8) × Int))) 0)]))] ?_
   refine iS 8 ?_
   refine Qi.alloc (t := 33) (z := (.agg #[(.string ⟨List.toArray ([] : List UInt8)⟩), (.int .i64 0), (.int .i64 0), (.slice none (List.length ([] : List (Int × Int))) 0), (.slice none (List.length ([] : List ((List UInt8) × (List UInt8) × Int))) 0)])) (d := (some 9)) (k := 7) K rfl K k5 ?_
   intro b1 q6 k6
   refine iS 9 ?_
   refine Qi.store (t := 33) (x := (.tmp 9)) (y := (.tmp 50)) (g := b1) (off := 0) (i := 1) (v := (.agg #[(.string ⟨List.toArray ([122, 122] : List UInt8)⟩), (.int .i64 (IntKind.wrap .i64 (Int.tmod ((f).toNat : Int) 9))), (.int .i64 (IntKind.wrap .i64 (Int.tmod ((p).toNat : Int) 9))), (.slice none (List.length ([] : List (Int × Int))) 0), (.slice none (List.length ([] : List ((List UInt8) × (List UInt8) × Int))) 0)])) (cs' := #[(.string ⟨List.toArray ([122, 122] : List UInt8)⟩), (.int .i64 (IntKind.wrap .i64 (Int.tmod ((f).toNat : Int) 9))), (.int .i64 (IntKind.wrap .i64 (Int.tmod ((p).toNat : Int) 9))), (.slice none (List.length ([] : List (Int × Int))) 0), (.slice none (List.length ([] : List ((List UInt8) × (List UInt8) × Int))) 0)]) (d := none) (k := 8) K rfl K K k6 rfl K ?_
   intro q7 k7
   refine iF ?_
   refine aQ ?_
   refine aR ?_
   refine iR 3 3 [(51, (.int .u8 ((f).toNat : Int))), (52, (.int .u8 (Int.tmod ((f).toNat : Int) 9))), (53, (.int .u8 (IntKind.wrap .u8 (48 + (Int.tmod ((f).toNat : Int) 9)))))] ?_
   refine iS 4 ?_
   refine Vt (e := eU8) (T := 48) (E := 5) (len := 1) (parts := #[(0, (.tmp 53))]) (cs := #[(.int .u8 (IntKind.wrap .u8 (48 + (Int.tmod ((f).toNat : Int) 9))))]) ([(Ug (IntKind.wrap .u8 (48 + (Int.tmod ((f).toNat : Int) 9))))] : List UInt8) (d := (some 54)) (k := 3) K rfl (fun _ => K) k7 (Cy (Or.inr ⟨rfl, (Is _)⟩) rfl) rfl rfl rfl ?_
   intro b5 q8 h5
   refine iS 5 ?_
   refine Uy (T := 48) (S' := 9) (E := 5) (x := (.tmp 54)) (A := (some ⟨b5, 0, none⟩)) (c := (List.length ([(Ug (IntKind.wrap .u8 (48 + (Int.tmod ((f).toNat : Int) 9))))] : List UInt8))) (l := ([(Ug (IntKind.wrap .u8 (48 + (Int.tmod ((f).toNat : Int) 9))))] : List UInt8)) (d := (some 55)) (k := 4) K rfl K K K K (Vg (SP.get h5 (i := 2) rfl)) ?_
   obtain ⟨hl69, H⟩ := Yf H
   obtain ⟨h6, hyl68⟩ : ∃ y, ([116, 101, 110, 97, 110, 116, 32, 122, 122, 32] : List UInt8) ++ ([(Ug (IntKind.wrap .u8 (48 + (Int.tmod ((f).toNat : Int) 9))))] : List UInt8) = y := ⟨_, rfl⟩
   rw [hyl68] at H
   refine iS 6 ?_
   refine Y1 (T := 9) (T' := 9) (x := (.const (.string ⟨List.toArray ([116, 101, 110, 97, 110, 116, 32, 122, 122, 32] : List UInt8)⟩))) (y := (.tmp 55)) (a := ([116, 101, 110, 97, 110, 116, 32, 122, 122, 32] : List UInt8)) (b := ([(Ug (IntKind.wrap .u8 (48 + (Int.tmod ((f).toNat : Int) 9))))] : List UInt8)) (d := (some 56)) (k := 5) K rfl K K hl69 ?_
   rw [hyl68]
   obtain ⟨hl71, H⟩ := Yf H
   obtain ⟨h7, hyl70⟩ : ∃ y, h6 ++ ([32] : List UInt8) = y := ⟨_, rfl⟩
   rw [hyl70] at H
   refine iS 7 ?_
   refine Y1 (T := 9) (T' := 9) (x := (.tmp 56)) (y := (.const (.string ⟨List.toArray ([32] : List UInt8)⟩))) (a := h6) (b := ([32] : List UInt8)) (d := (some 57)) (k := 6) K rfl K K hl71 ?_
   rw [hyl70]
   refine iR 3 10 [(58, (.int .u8 ((p).toNat : Int))), (59, (.int .u8 (Int.tmod ((p).toNat : Int) 9))), (60, (.int .u8 (IntKind.wrap .u8 (48 + (Int.tmod ((p).toNat : Int) 9)))))] ?_
   refine iS 11 ?_
   refine Vt (e := eU8) (T := 48) (E := 5) (len := 1) (parts := #[(0, (.tmp 60))]) (cs := #[(.int .u8 (IntKind.wrap .u8 (48 + (Int.tmod ((p).toNat : Int) 9))))]) ([(Ug (IntKind.wrap .u8 (48 + (Int.tmod ((p).toNat : Int) 9))))] : List UInt8) (d := (some 61)) (k := 10) K rfl (fun _ => K) h5 (Cy (Or.inr ⟨rfl, (Is _)⟩) rfl) rfl rfl rfl ?_
   intro b6 k8 e4
   refine iS 12 ?_
   refine Uy (T := 48) (S' := 9) (E := 5) (x := (.tmp 61)) (A := (some ⟨b6, 0, none⟩)) (c := (List.length ([(Ug (IntKind.wrap .u8 (48 + (Int.tmod ((p).toNat : Int) 9))))] : List UInt8))) (l := ([(Ug (IntKind.wrap .u8 (48 + (Int.tmod ((p).toNat : Int) 9))))] : List UInt8)) (d := (some 62)) (k := 11) K rfl K K K K (Vg (SP.get e4 (i := 3) rfl)) ?_
   obtain ⟨hl77, H⟩ := Yf H
   obtain ⟨h8, hyl76⟩ : ∃ y, h7 ++ ([(Ug (IntKind.wrap .u8 (48 + (Int.tmod ((p).toNat : Int) 9))))] : List UInt8) = y := ⟨_, rfl⟩
   rw [hyl76] at H
   refine iS 13 ?_
   refine Y1 (T := 9) (T' := 9) (x := (.tmp 57)) (y := (.tmp 62)) (a := h7) (b := ([(Ug (IntKind.wrap .u8 (48 + (Int.tmod ((p).toNat : Int) 9))))] : List UInt8)) (d := (some 63)) (k := 12) K rfl K K hl77 ?_
   rw [hyl76]
   obtain ⟨hl79, H⟩ := Yf H
   obtain ⟨b7, hyl78⟩ : ∃ y, h8 ++ ([10] : List UInt8) = y := ⟨_, rfl⟩
   rw [hyl78] at H
   refine iS 14 ?_
   refine Y1 (T := 9) (T' := 9) (x := (.tmp 63)) (y := (.const (.string ⟨List.toArray ([10] : List UInt8)⟩))) (a := h8) (b := ([10] : List UInt8)) (d := (some 64)) (k := 13) K rfl K K hl79 ?_
   rw [hyl78]
   refine iR 1 15 [(10, (.string ⟨List.toArray b7⟩))] ?_
   refine iF ?_
   refine aQ ?_
   refine aQ ?_
   refine aR ?_
   refine iR 6 6 [(65, (.string ⟨List.toArray b3⟩)), (66, (.int .i64 ((List.length b3 : Nat) : Int))), (67, (.string ⟨List.toArray b7⟩)), (68, (.int .i64 ((List.length b7 : Nat) : Int))), (69, (.int .i64 (IntKind.wrap .i64 (((List.length b3 : Nat) : Int) + ((List.length b7 : Nat) : Int))))), (70, (.bool (decide ((IntKind.wrap .i64 (((List.length b3 : Nat) : Int) + ((List.length b7 : Nat) : Int))) > 4096))))] ?_
   refine iF ?_
   refine Xe K (o := (.tmp 70)) K (b := (decide ((IntKind.wrap .i64 (((List.length b3 : Nat) : Int) + ((List.length b7 : Nat) : Int))) > 4096))) K (fun f4 => ?_) (fun f4 => ?_)
   ·have H := ct H f4
    refine aQ ?_
    refine aR ?_
    refine iR 2 2 [(71, (.bool a9)), (6, (.bool a9))] ?_
    refine iF ?_
    refine At.ret K ?_
    refine ⟨(.bool a9), K, ?_⟩
    obtain rfl := Qg H
    exact ⟨rfl, SP.sel e4 [] rfl rfl⟩
   ·have H := cf H f4
    refine At.skip K ?_
    refine aQ ?_
    refine aR ?_
    refine iR 2 2 [(73, (.string ⟨List.toArray b3⟩)), (74, (.string ⟨List.toArray b7⟩))] ?_
    obtain ⟨hl82, H⟩ := Yf H
    obtain ⟨k9, hyl81⟩ : ∃ y, b3 ++ b7 = y := ⟨_, rfl⟩
    rw [hyl81] at H
    refine iS 3 ?_
    refine Y1 (T := 9) (T' := 9) (x := (.tmp 73)) (y := (.tmp 74)) (a := b3) (b := b7) (d := (some 75)) (k := 2) K rfl K K hl82 ?_
    rw [hyl81]
    obtain ⟨q, l0, H⟩ := Qd H
    refine iS 4 ?_
    refine cF 16 #[(.tmp 75)] #[9] 76 Tryz.call16 (Y7  k9 k8 (Q0 hL (SP.keeps e4)) q l0) ?_
    rintro e q9 ⟨a6, a7, a8, rfl, l1, h9⟩
    obtain ⟨r0, hll91, H⟩ := Zs H
    rw [l1] at hll91
    subst hll91
    refine ⟨_, rfl, ?_⟩
    have l2 := SP.call e4 h9
    clear h9
    refine iR 4 8 [(72, (.tuple #[(.agg #[(.int .i64 q.1), (.int .i64 q.2.1), (.int .i64 q.2.2.1), (.int .i64 q.2.2.2.1), (.slice a6 (List.length (List.map stT a8)) a7)]), (.int .i64 q.2.2.2.2.2.1), (.int .i64 q.2.2.2.2.2.2)])), (77, (.agg #[(.int .i64 q.1), (.int .i64 q.2.1), (.int .i64 q.2.2.1), (.int .i64 q.2.2.2.1), (.slice a6 (List.length (List.map stT a8)) a7)])), (78, (.int .i64 q.2.2.2.2.2.1)), (79, (.int .i64 q.2.2.2.2.2.2))] ?_
    refine iS 9 ?_
    refine Qi.alloc (t := 24) (z := (.agg #[(.int .i64 0), (.int .i64 0), (.int .i64 0), (.int .i64 0), (.slice none (List.length ([] : List Qb)) 0)])) (d := (some 11)) (k := 8) K rfl K l2 ?_
    intro b2 r1 l3
    refine iS 10 ?_
    refine Qi.store (t := 24) (x := (.tmp 11)) (y := (.tmp 77)) (g := b2) (off := 0) (i := 5) (v := (.agg #[(.int .i64 q.1), (.int .i64 q.2.1), (.int .i64 q.2.2.1), (.int .i64 q.2.2.2.1), (.slice a6 (List.length (List.map stT a8)) a7)])) (cs' := #[(.int .i64 q.1), (.int .i64 q.2.1), (.int .i64 q.2.2.1), (.int .i64 q.2.2.2.1), (.slice a6 (List.length (List.map stT a8)) a7)]) (d := none) (k := 9) K rfl K K l3 rfl K ?_
    intro r2 c8
    refine iR 2 12 [(12, (.int .i64 q.2.2.2.2.2.1)), (13, (.int .i64 q.2.2.2.2.2.2))] ?_
    refine iF ?_
    refine aQ ?_
    refine aQ ?_
    refine aR ?_
    refine iR 1 1 [(80, (pt a3 4))] ?_
    refine iS 2 ?_
    refine sL 22 80 a3 4 0 (.slice A6 (List.length (List.map stT d9)) c7) 81 c8 rfl ?_
    refine iR 2 4 [(82, (.int .i64 ((List.length (List.map stT d9) : Nat) : Int))), (83, (.bool (decide (((List.length (List.map stT d9) : Nat) : Int) ≥ 8))))] ?_
    refine iF ?_
    refine Xe K (o := (.tmp 83)) K (b := (decide (((List.length (List.map stT d9) : Nat) : Int) ≥ 8))) K (fun f5 => ?_) (fun f5 => ?_)
    ·have H := ct H f5
     refine aQ ?_
     refine At.join (fun ρ w => ∃ (c9 : Bool), Zm ρ [(6, (.bool c9))] ∧ SP [] w0 w [] ∧ Vw c9 = some r) ?_ ?_
     ·refine aR ?_
      refine iR 2 2 [(84, (.bool a9)), (85, (.bool a9))] ?_
      refine In.guard (t := 85) (b := a9) K (fun f6 => ?_) (fun f6 => ?_)
      ·have H := ct H f6
       refine iR 4 6 [(86, (.int .i64 q.2.2.2.2.2.1)), (87, (.bool (q.2.2.2.2.2.1 == 91))), (88, (.bool (q.2.2.2.2.2.1 == 91))), (89, (.bool (q.2.2.2.2.2.1 == 91)))] ?_
       refine In.guard (t := 89) (b := (q.2.2.2.2.2.1 == 91)) K (fun f7 => ?_) (fun f7 => ?_)
       ·have H := ct H f7
        refine iR 4 10 [(90, (.int .i64 q.2.2.2.2.2.2)), (91, (.bool (decide (q.2.2.2.2.2.2 > 0)))), (92, (.bool (decide (q.2.2.2.2.2.2 > 0)))), (6, (.bool (decide (q.2.2.2.2.2.2 > 0))))] ?_
        refine iF ?_
        exact ⟨(decide (q.2.2.2.2.2.2 > 0)), ⟨K, trivial⟩, SP.sel c8 [] rfl rfl, H⟩
       ·have H := cf H f7
        refine iR 4 10 [(90, undef), (91, undef), (92, (.bool false)), (6, (.bool false))] ?_
        refine iF ?_
        exact ⟨false, ⟨K, trivial⟩, SP.sel c8 [] rfl rfl, H⟩
      ·have H := cf H f6
       refine iR 8 10 [(86, undef), (87, undef), (88, (.bool false)), (89, (.bool false)), (90, undef), (91, undef), (92, (.bool false)), (6, (.bool false))] ?_
       refine iF ?_
       exact ⟨false, ⟨K, trivial⟩, SP.sel c8 [] rfl rfl, H⟩
     ·rintro ρ r3 ⟨c9, hk, l4, H⟩
      unfold Vw at H
      first | refine At.known [(6, (.bool c9))] hk ?_ | rw [← Q3 (l := [(6, (.bool c9))]) hk]
      refine At.ret K ?_
      refine ⟨(.bool c9), K, ?_⟩
      obtain rfl := Qg H
      exact ⟨rfl, SP.sel l4 [] rfl rfl⟩
    ·have H := cf H f5
     refine At.skip K ?_
     refine aQ ?_
     refine aR ?_
     refine iS 1 ?_
     refine sL 24 3 a3 0 0 (.agg #[(.int .i64 u), (.int .i64 a0), (.int .i64 a1), (.int .i64 a2), (.slice A6 (List.length (List.map stT d9)) c7)]) 93 c8 rfl ?_
     refine iS 2 ?_
     refine Qi.alloc (t := 24) (z := (.agg #[(.int .i64 0), (.int .i64 0), (.int .i64 0), (.int .i64 0), (.slice none (List.length ([] : List Qb)) 0)])) (d := (some 14)) (k := 1) K rfl K c8 ?_
     intro b0 r4 l5
     refine iS 3 ?_
     refine Qi.store (t := 24) (x := (.tmp 14)) (y := (.tmp 93)) (g := b0) (off := 0) (i := 6) (v := (.agg #[(.int .i64 u), (.int .i64 a0), (.int .i64 a1), (.int .i64 a2), (.slice A6 (List.length (List.map stT d9)) c7)])) (cs' := #[(.int .i64 u), (.int .i64 a0), (.int .i64 a1), (.int .i64 a2), (.slice A6 (List.length (List.map stT d9)) c7)]) (d := none) (k := 2) K rfl K K l5 rfl K ?_
     intro r5 l6
     refine iF ?_
     refine aQ ?_
     obtain ⟨hl120, H⟩ := Yf H
     rw [show ([] : List Qb) ++ (List.map stT d9) = (List.map stT (([] : List Qh) ++ d9)) from Kt (l := ([] : List Qh)) (m := d9)] at H
     obtain ⟨hl131, H⟩ := Yf H
     rw [show (List.map stT (([] : List Qh) ++ d9)) ++ ([(([122, 122] : List UInt8), (IntKind.wrap .i64 (Int.tmod ((f).toNat : Int) 9)), (IntKind.wrap .i64 (Int.tmod ((p).toNat : Int) 9)), ([] : List (Int × Int)), ([] : List ((List UInt8) × (List UInt8) × Int)))] : List Qb) = (List.map stT ((([] : List Qh) ++ d9) ++ ([(([122, 122] : List UInt8), (IntKind.wrap .i64 (Int.tmod ((f).toNat : Int) 9)), (IntKind.wrap .i64 (Int.tmod ((p).toNat : Int) 9)), (none, 0, ([] : List (Int × Int))), (none, 0, ([] : List ((List UInt8) × (List UInt8) × Int))))] : List Qh))) from Kt (l := (([] : List Qh) ++ d9)) (m := ([(([122, 122] : List UInt8), (IntKind.wrap .i64 (Int.tmod ((f).toNat : Int) 9)), (IntKind.wrap .i64 (Int.tmod ((p).toNat : Int) 9)), (none, 0, ([] : List (Int × Int))), (none, 0, ([] : List ((List UInt8) × (List UInt8) × Int))))] : List Qh))] at H
     refine aG [Rp, GEq (pt a3 4), GEq (.slice A6 (List.length (List.map stT d9)) c7), Rp, GEq (.agg #[(.string ⟨List.toArray ([122, 122] : List UInt8)⟩), (.int .i64 (IntKind.wrap .i64 (Int.tmod ((f).toNat : Int) 9))), (.int .i64 (IntKind.wrap .i64 (Int.tmod ((p).toNat : Int) 9))), (.slice none (List.length ([] : List (Int × Int))) 0), (.slice none (List.length ([] : List ((List UInt8) × (List UInt8) × Int))) 0)]), Rp, Rp, GEq (pt b0 4), Rp] [0, 3, 5, 6, 8] [([], fun vs w => VL vs [] ∧ SP [] w0 w [Qq a3 24 #[(.int .i64 u), (.int .i64 a0), (.int .i64 a1), (.int .i64 a2), (.slice A6 (List.length (List.map stT d9)) c7)], Qq b1 33 #[(.string ⟨List.toArray ([122, 122] : List UInt8)⟩), (.int .i64 (IntKind.wrap .i64 (Int.tmod ((f).toNat : Int) 9))), (.int .i64 (IntKind.wrap .i64 (Int.tmod ((p).toNat : Int) 9))), (.slice none (List.length ([] : List (Int × Int))) 0), (.slice none (List.length ([] : List ((List UInt8) × (List UInt8) × Int))) 0)], Q6 5 eU8 (some ⟨b5, 0, none⟩) (List.length ([(Ug (IntKind.wrap .u8 (48 + (Int.tmod ((f).toNat : Int) 9))))] : List UInt8)) ([(Ug (IntKind.wrap .u8 (48 + (Int.tmod ((f).toNat : Int) 9))))] : List UInt8), Q6 5 eU8 (some ⟨b6, 0, none⟩) (List.length ([(Ug (IntKind.wrap .u8 (48 + (Int.tmod ((p).toNat : Int) 9))))] : List UInt8)) ([(Ug (IntKind.wrap .u8 (48 + (Int.tmod ((p).toNat : Int) 9))))] : List UInt8), Yx a6 a7 a8, Qq b2 24 #[(.int .i64 q.1), (.int .i64 q.2.1), (.int .i64 q.2.2.1), (.int .i64 q.2.2.2.1), (.slice a6 (List.length (List.map stT a8)) a7)], Qq b0 24 #[(.int .i64 u), (.int .i64 a0), (.int .i64 a1), (.int .i64 a2), (.slice A6 (List.length (List.map stT d9)) c7)]]), ([0], fun vs w => ∃ (b4 : Nat), VL vs [(.slice (some ⟨b4, 0, none⟩) (List.length ([] : List Qb)) (List.length ([] : List Qb)))] ∧ SP [] w0 w [Qq a3 24 #[(.int .i64 u), (.int .i64 a0), (.int .i64 a1), (.int .i64 a2), (.slice A6 (List.length (List.map stT d9)) c7)], Qq b1 33 #[(.string ⟨List.toArray ([122, 122] : List UInt8)⟩), (.int .i64 (IntKind.wrap .i64 (Int.tmod ((f).toNat : Int) 9))), (.int .i64 (IntKind.wrap .i64 (Int.tmod ((p).toNat : Int) 9))), (.slice none (List.length ([] : List (Int × Int))) 0), (.slice none (List.length ([] : List ((List UInt8) × (List UInt8) × Int))) 0)], Q6 5 eU8 (some ⟨b5, 0, none⟩) (List.length ([(Ug (IntKind.wrap .u8 (48 + (Int.tmod ((f).toNat : Int) 9))))] : List UInt8)) ([(Ug (IntKind.wrap .u8 (48 + (Int.tmod ((f).toNat : Int) 9))))] : List UInt8), Q6 5 eU8 (some ⟨b6, 0, none⟩) (List.length ([(Ug (IntKind.wrap .u8 (48 + (Int.tmod ((p).toNat : Int) 9))))] : List UInt8)) ([(Ug (IntKind.wrap .u8 (48 + (Int.tmod ((p).toNat : Int) 9))))] : List UInt8), Yx a6 a7 a8, Qq b2 24 #[(.int .i64 q.1), (.int .i64 q.2.1), (.int .i64 q.2.2.1), (.int .i64 q.2.2.2.1), (.slice a6 (List.length (List.map stT a8)) a7)], Qq b0 24 #[(.int .i64 u), (.int .i64 a0), (.int .i64 a1), (.int .i64 a2), (.slice A6 (List.length (List.map stT d9)) c7)], Q6 33 V1 (some ⟨b4, 0, none⟩) (List.length ([] : List Qb)) ([] : List Qh)]), ([5], fun vs w => ∃ (e0 : Nat), VL vs [(.slice (some ⟨e0, 0, none⟩) (List.length ([(([122, 122] : List UInt8), (IntKind.wrap .i64 (Int.tmod ((f).toNat : Int) 9)), (IntKind.wrap .i64 (Int.tmod ((p).toNat : Int) 9)), ([] : List (Int × Int)), ([] : List ((List UInt8) × (List UInt8) × Int)))] : List Qb)) (List.length ([(([122, 122] : List UInt8), (IntKind.wrap .i64 (Int.tmod ((f).toNat : Int) 9)), (IntKind.wrap .i64 (Int.tmod ((p).toNat : Int) 9)), ([] : List (Int × Int)), ([] : List ((List UInt8) × (List UInt8) × Int)))] : List Qb)))] ∧ SP [] w0 w [Qq a3 24 #[(.int .i64 u), (.int .i64 a0), (.int .i64 a1), (.int .i64 a2), (.slice A6 (List.length (List.map stT d9)) c7)], Qq b1 33 #[(.string ⟨List.toArray ([122, 122] : List UInt8)⟩), (.int .i64 (IntKind.wrap .i64 (Int.tmod ((f).toNat : Int) 9))), (.int .i64 (IntKind.wrap .i64 (Int.tmod ((p).toNat : Int) 9))), (.slice none (List.length ([] : List (Int × Int))) 0), (.slice none (List.length ([] : List ((List UInt8) × (List UInt8) × Int))) 0)], Q6 5 eU8 (some ⟨b5, 0, none⟩) (List.length ([(Ug (IntKind.wrap .u8 (48 + (Int.tmod ((f).toNat : Int) 9))))] : List UInt8)) ([(Ug (IntKind.wrap .u8 (48 + (Int.tmod ((f).toNat : Int) 9))))] : List UInt8), Q6 5 eU8 (some ⟨b6, 0, none⟩) (List.length ([(Ug (IntKind.wrap .u8 (48 + (Int.tmod ((p).toNat : Int) 9))))] : List UInt8)) ([(Ug (IntKind.wrap .u8 (48 + (Int.tmod ((p).toNat : Int) 9))))] : List UInt8), Yx a6 a7 a8, Qq b2 24 #[(.int .i64 q.1), (.int .i64 q.2.1), (.int .i64 q.2.2.1), (.int .i64 q.2.2.2.1), (.slice a6 (List.length (List.map stT a8)) a7)], Qq b0 24 #[(.int .i64 u), (.int .i64 a0), (.int .i64 a1), (.int .i64 a2), (.slice A6 (List.length (List.map stT d9)) c7)], Q6 33 V1 (some ⟨e0, 0, none⟩) (List.length ([(([122, 122] : List UInt8), (IntKind.wrap .i64 (Int.tmod ((f).toNat : Int) 9)), (IntKind.wrap .i64 (Int.tmod ((p).toNat : Int) 9)), ([] : List (Int × Int)), ([] : List ((List UInt8) × (List UInt8) × Int)))] : List Qb)) ([(([122, 122] : List UInt8), (IntKind.wrap .i64 (Int.tmod ((f).toNat : Int) 9)), (IntKind.wrap .i64 (Int.tmod ((p).toNat : Int) 9)), (none, 0, ([] : List (Int × Int))), (none, 0, ([] : List ((List UInt8) × (List UInt8) × Int))))] : List Qh)]), ([0, 3], fun vs w => ∃ (e5 : Nat), ∃ (e1 : Option Addr), ∃ (e2 : Nat), VL vs [(.slice (some ⟨e5, 0, none⟩) (List.length ([] : List Qb)) (List.length ([] : List Qb))), (.slice e1 (List.length (List.map stT (([] : List Qh) ++ d9))) e2)] ∧ SP [] w0 w [Qq a3 24 #[(.int .i64 u), (.int .i64 a0), (.int .i64 a1), (.int .i64 a2), (.slice A6 (List.length (List.map stT d9)) c7)], Qq b1 33 #[(.string ⟨List.toArray ([122, 122] : List UInt8)⟩), (.int .i64 (IntKind.wrap .i64 (Int.tmod ((f).toNat : Int) 9))), (.int .i64 (IntKind.wrap .i64 (Int.tmod ((p).toNat : Int) 9))), (.slice none (List.length ([] : List (Int × Int))) 0), (.slice none (List.length ([] : List ((List UInt8) × (List UInt8) × Int))) 0)], Q6 5 eU8 (some ⟨b5, 0, none⟩) (List.length ([(Ug (IntKind.wrap .u8 (48 + (Int.tmod ((f).toNat : Int) 9))))] : List UInt8)) ([(Ug (IntKind.wrap .u8 (48 + (Int.tmod ((f).toNat : Int) 9))))] : List UInt8), Q6 5 eU8 (some ⟨b6, 0, none⟩) (List.length ([(Ug (IntKind.wrap .u8 (48 + (Int.tmod ((p).toNat : Int) 9))))] : List UInt8)) ([(Ug (IntKind.wrap .u8 (48 + (Int.tmod ((p).toNat : Int) 9))))] : List UInt8), Yx a6 a7 a8, Qq b2 24 #[(.int .i64 q.1), (.int .i64 q.2.1), (.int .i64 q.2.2.1), (.int .i64 q.2.2.2.1), (.slice a6 (List.length (List.map stT a8)) a7)], Qq b0 24 #[(.int .i64 u), (.int .i64 a0), (.int .i64 a1), (.int .i64 a2), (.slice A6 (List.length (List.map stT d9)) c7)], Q6 33 V1 e1 e2 (([] : List Qh) ++ d9)]), ([0, 5], fun vs w => ∃ (c1 : Nat), ∃ (e3 : Nat), VL vs [(.slice (some ⟨c1, 0, none⟩) (List.length ([] : List Qb)) (List.length ([] : List Qb))), (.slice (some ⟨e3, 0, none⟩) (List.length ([(([122, 122] : List UInt8), (IntKind.wrap .i64 (Int.tmod ((f).toNat : Int) 9)), (IntKind.wrap .i64 (Int.tmod ((p).toNat : Int) 9)), ([] : List (Int × Int)), ([] : List ((List UInt8) × (List UInt8) × Int)))] : List Qb)) (List.length ([(([122, 122] : List UInt8), (IntKind.wrap .i64 (Int.tmod ((f).toNat : Int) 9)), (IntKind.wrap .i64 (Int.tmod ((p).toNat : Int) 9)), ([] : List (Int × Int)), ([] : List ((List UInt8) × (List UInt8) × Int)))] : List Qb)))] ∧ SP [] w0 w [Qq a3 24 #[(.int .i64 u), (.int .i64 a0), (.int .i64 a1), (.int .i64 a2), (.slice A6 (List.length (List.map stT d9)) c7)], Qq b1 33 #[(.string ⟨List.toArray ([122, 122] : List UInt8)⟩), (.int .i64 (IntKind.wrap .i64 (Int.tmod ((f).toNat : Int) 9))), (.int .i64 (IntKind.wrap .i64 (Int.tmod ((p).toNat : Int) 9))), (.slice none (List.length ([] : List (Int × Int))) 0), (.slice none (List.length ([] : List ((List UInt8) × (List UInt8) × Int))) 0)], Q6 5 eU8 (some ⟨b5, 0, none⟩) (List.length ([(Ug (IntKind.wrap .u8 (48 + (Int.tmod ((f).toNat : Int) 9))))] : List UInt8)) ([(Ug (IntKind.wrap .u8 (48 + (Int.tmod ((f).toNat : Int) 9))))] : List UInt8), Q6 5 eU8 (some ⟨b6, 0, none⟩) (List.length ([(Ug (IntKind.wrap .u8 (48 + (Int.tmod ((p).toNat : Int) 9))))] : List UInt8)) ([(Ug (IntKind.wrap .u8 (48 + (Int.tmod ((p).toNat : Int) 9))))] : List UInt8), Yx a6 a7 a8, Qq b2 24 #[(.int .i64 q.1), (.int .i64 q.2.1), (.int .i64 q.2.2.1), (.int .i64 q.2.2.2.1), (.slice a6 (List.length (List.map stT a8)) a7)], Qq b0 24 #[(.int .i64 u), (.int .i64 a0), (.int .i64 a1), (.int .i64 a2), (.slice A6 (List.length (List.map stT d9)) c7)], Q6 33 V1 (some ⟨c1, 0, none⟩) (List.length ([] : List Qb)) ([] : List Qh), Q6 33 V1 (some ⟨e3, 0, none⟩) (List.length ([(([122, 122] : List UInt8), (IntKind.wrap .i64 (Int.tmod ((f).toNat : Int) 9)), (IntKind.wrap .i64 (Int.tmod ((p).toNat : Int) 9)), ([] : List (Int × Int)), ([] : List ((List UInt8) × (List UInt8) × Int)))] : List Qb)) ([(([122, 122] : List UInt8), (IntKind.wrap .i64 (Int.tmod ((f).toNat : Int) 9)), (IntKind.wrap .i64 (Int.tmod ((p).toNat : Int) 9)), (none, 0, ([] : List (Int × Int))), (none, 0, ([] : List ((List UInt8) × (List UInt8) × Int))))] : List Qh)]), ([0, 3, 5], fun vs w => ∃ (f8 : Nat), ∃ (d0 : Option Addr), ∃ (d1 : Nat), ∃ (d2 : Nat), VL vs [(.slice (some ⟨f8, 0, none⟩) (List.length ([] : List Qb)) (List.length ([] : List Qb))), (.slice d0 (List.length (List.map stT (([] : List Qh) ++ d9))) d1), (.slice (some ⟨d2, 0, none⟩) (List.length ([(([122, 122] : List UInt8), (IntKind.wrap .i64 (Int.tmod ((f).toNat : Int) 9)), (IntKind.wrap .i64 (Int.tmod ((p).toNat : Int) 9)), ([] : List (Int × Int)), ([] : List ((List UInt8) × (List UInt8) × Int)))] : List Qb)) (List.length ([(([122, 122] : List UInt8), (IntKind.wrap .i64 (Int.tmod ((f).toNat : Int) 9)), (IntKind.wrap .i64 (Int.tmod ((p).toNat : Int) 9)), ([] : List (Int × Int)), ([] : List ((List UInt8) × (List UInt8) × Int)))] : List Qb)))] ∧ SP [] w0 w [Qq a3 24 #[(.int .i64 u), (.int .i64 a0), (.int .i64 a1), (.int .i64 a2), (.slice A6 (List.length (List.map stT d9)) c7)], Qq b1 33 #[(.string ⟨List.toArray ([122, 122] : List UInt8)⟩), (.int .i64 (IntKind.wrap .i64 (Int.tmod ((f).toNat : Int) 9))), (.int .i64 (IntKind.wrap .i64 (Int.tmod ((p).toNat : Int) 9))), (.slice none (List.length ([] : List (Int × Int))) 0), (.slice none (List.length ([] : List ((List UInt8) × (List UInt8) × Int))) 0)], Q6 5 eU8 (some ⟨b5, 0, none⟩) (List.length ([(Ug (IntKind.wrap .u8 (48 + (Int.tmod ((f).toNat : Int) 9))))] : List UInt8)) ([(Ug (IntKind.wrap .u8 (48 + (Int.tmod ((f).toNat : Int) 9))))] : List UInt8), Q6 5 eU8 (some ⟨b6, 0, none⟩) (List.length ([(Ug (IntKind.wrap .u8 (48 + (Int.tmod ((p).toNat : Int) 9))))] : List UInt8)) ([(Ug (IntKind.wrap .u8 (48 + (Int.tmod ((p).toNat : Int) 9))))] : List UInt8), Yx a6 a7 a8, Qq b2 24 #[(.int .i64 q.1), (.int .i64 q.2.1), (.int .i64 q.2.2.1), (.int .i64 q.2.2.2.1), (.slice a6 (List.length (List.map stT a8)) a7)], Qq b0 24 #[(.int .i64 u), (.int .i64 a0), (.int .i64 a1), (.int .i64 a2), (.slice A6 (List.length (List.map stT d9)) c7)], Q6 33 V1 d0 d1 (([] : List Qh) ++ d9), Q6 33 V1 (some ⟨d2, 0, none⟩) (List.length ([(([122, 122] : List UInt8), (IntKind.wrap .i64 (Int.tmod ((f).toNat : Int) 9)), (IntKind.wrap .i64 (Int.tmod ((p).toNat : Int) 9)), ([] : List (Int × Int)), ([] : List ((List UInt8) × (List UInt8) × Int)))] : List Qb)) ([(([122, 122] : List UInt8), (IntKind.wrap .i64 (Int.tmod ((f).toNat : Int) 9)), (IntKind.wrap .i64 (Int.tmod ((p).toNat : Int) 9)), (none, 0, ([] : List (Int × Int))), (none, 0, ([] : List ((List UInt8) × (List UInt8) × Int))))] : List Qh)]), ([0, 3, 5, 6], fun vs w => ∃ (f9 : Nat), ∃ (g0 : Option Addr), ∃ (g1 : Nat), ∃ (e6 : Nat), ∃ (c3 : Option Addr), ∃ (c4 : Nat), VL vs [(.slice (some ⟨f9, 0, none⟩) (List.length ([] : List Qb)) (List.length ([] : List Qb))), (.slice g0 (List.length (List.map stT (([] : List Qh) ++ d9))) g1), (.slice (some ⟨e6, 0, none⟩) (List.length ([(([122, 122] : List UInt8), (IntKind.wrap .i64 (Int.tmod ((f).toNat : Int) 9)), (IntKind.wrap .i64 (Int.tmod ((p).toNat : Int) 9)), ([] : List (Int × Int)), ([] : List ((List UInt8) × (List UInt8) × Int)))] : List Qb)) (List.length ([(([122, 122] : List UInt8), (IntKind.wrap .i64 (Int.tmod ((f).toNat : Int) 9)), (IntKind.wrap .i64 (Int.tmod ((p).toNat : Int) 9)), ([] : List (Int × Int)), ([] : List ((List UInt8) × (List UInt8) × Int)))] : List Qb))), (.slice c3 (List.length (List.map stT ((([] : List Qh) ++ d9) ++ ([(([122, 122] : List UInt8), (IntKind.wrap .i64 (Int.tmod ((f).toNat : Int) 9)), (IntKind.wrap .i64 (Int.tmod ((p).toNat : Int) 9)), (none, 0, ([] : List (Int × Int))), (none, 0, ([] : List ((List UInt8) × (List UInt8) × Int))))] : List Qh)))) c4)] ∧ SP [] w0 w [Qq a3 24 #[(.int .i64 u), (.int .i64 a0), (.int .i64 a1), (.int .i64 a2), (.slice A6 (List.length (List.map stT d9)) c7)], Qq b1 33 #[(.string ⟨List.toArray ([122, 122] : List UInt8)⟩), (.int .i64 (IntKind.wrap .i64 (Int.tmod ((f).toNat : Int) 9))), (.int .i64 (IntKind.wrap .i64 (Int.tmod ((p).toNat : Int) 9))), (.slice none (List.length ([] : List (Int × Int))) 0), (.slice none (List.length ([] : List ((List UInt8) × (List UInt8) × Int))) 0)], Q6 5 eU8 (some ⟨b5, 0, none⟩) (List.length ([(Ug (IntKind.wrap .u8 (48 + (Int.tmod ((f).toNat : Int) 9))))] : List UInt8)) ([(Ug (IntKind.wrap .u8 (48 + (Int.tmod ((f).toNat : Int) 9))))] : List UInt8), Q6 5 eU8 (some ⟨b6, 0, none⟩) (List.length ([(Ug (IntKind.wrap .u8 (48 + (Int.tmod ((p).toNat : Int) 9))))] : List UInt8)) ([(Ug (IntKind.wrap .u8 (48 + (Int.tmod ((p).toNat : Int) 9))))] : List UInt8), Yx a6 a7 a8, Qq b2 24 #[(.int .i64 q.1), (.int .i64 q.2.1), (.int .i64 q.2.2.1), (.int .i64 q.2.2.2.1), (.slice a6 (List.length (List.map stT a8)) a7)], Qq b0 24 #[(.int .i64 u), (.int .i64 a0), (.int .i64 a1), (.int .i64 a2), (.slice A6 (List.length (List.map stT d9)) c7)], Q6 33 V1 c3 c4 ((([] : List Qh) ++ d9) ++ ([(([122, 122] : List UInt8), (IntKind.wrap .i64 (Int.tmod ((f).toNat : Int) 9)), (IntKind.wrap .i64 (Int.tmod ((p).toNat : Int) 9)), (none, 0, ([] : List (Int × Int))), (none, 0, ([] : List ((List UInt8) × (List UInt8) × Int))))] : List Qh)), Q6 33 V1 (some ⟨e6, 0, none⟩) (List.length ([(([122, 122] : List UInt8), (IntKind.wrap .i64 (Int.tmod ((f).toNat : Int) 9)), (IntKind.wrap .i64 (Int.tmod ((p).toNat : Int) 9)), ([] : List (Int × Int)), ([] : List ((List UInt8) × (List UInt8) × Int)))] : List Qb)) ([(([122, 122] : List UInt8), (IntKind.wrap .i64 (Int.tmod ((f).toNat : Int) 9)), (IntKind.wrap .i64 (Int.tmod ((p).toNat : Int) 9)), (none, 0, ([] : List (Int × Int))), (none, 0, ([] : List ((List UInt8) × (List UInt8) × Int))))] : List Qh)]), ([0, 3, 5, 6, 8], fun vs w => ∃ (i0 : Nat), ∃ (i1 : Option Addr), ∃ (i2 : Nat), ∃ (g2 : Nat), ∃ (d3 : Option Addr), ∃ (d4 : Nat), VL vs [(.slice (some ⟨i0, 0, none⟩) (List.length ([] : List Qb)) (List.length ([] : List Qb))), (.slice i1 (List.length (List.map stT (([] : List Qh) ++ d9))) i2), (.slice (some ⟨g2, 0, none⟩) (List.length ([(([122, 122] : List UInt8), (IntKind.wrap .i64 (Int.tmod ((f).toNat : Int) 9)), (IntKind.wrap .i64 (Int.tmod ((p).toNat : Int) 9)), ([] : List (Int × Int)), ([] : List ((List UInt8) × (List UInt8) × Int)))] : List Qb)) (List.length ([(([122, 122] : List UInt8), (IntKind.wrap .i64 (Int.tmod ((f).toNat : Int) 9)), (IntKind.wrap .i64 (Int.tmod ((p).toNat : Int) 9)), ([] : List (Int × Int)), ([] : List ((List UInt8) × (List UInt8) × Int)))] : List Qb))), (.slice d3 (List.length (List.map stT ((([] : List Qh) ++ d9) ++ ([(([122, 122] : List UInt8), (IntKind.wrap .i64 (Int.tmod ((f).toNat : Int) 9)), (IntKind.wrap .i64 (Int.tmod ((p).toNat : Int) 9)), (none, 0, ([] : List (Int × Int))), (none, 0, ([] : List ((List UInt8) × (List UInt8) × Int))))] : List Qh)))) d4), undef] ∧ SP [] w0 w [Qq a3 24 #[(.int .i64 u), (.int .i64 a0), (.int .i64 a1), (.int .i64 a2), (.slice A6 (List.length (List.map stT d9)) c7)], Qq b1 33 #[(.string ⟨List.toArray ([122, 122] : List UInt8)⟩), (.int .i64 (IntKind.wrap .i64 (Int.tmod ((f).toNat : Int) 9))), (.int .i64 (IntKind.wrap .i64 (Int.tmod ((p).toNat : Int) 9))), (.slice none (List.length ([] : List (Int × Int))) 0), (.slice none (List.length ([] : List ((List UInt8) × (List UInt8) × Int))) 0)], Q6 5 eU8 (some ⟨b5, 0, none⟩) (List.length ([(Ug (IntKind.wrap .u8 (48 + (Int.tmod ((f).toNat : Int) 9))))] : List UInt8)) ([(Ug (IntKind.wrap .u8 (48 + (Int.tmod ((f).toNat : Int) 9))))] : List UInt8), Q6 5 eU8 (some ⟨b6, 0, none⟩) (List.length ([(Ug (IntKind.wrap .u8 (48 + (Int.tmod ((p).toNat : Int) 9))))] : List UInt8)) ([(Ug (IntKind.wrap .u8 (48 + (Int.tmod ((p).toNat : Int) 9))))] : List UInt8), Yx a6 a7 a8, Qq b2 24 #[(.int .i64 q.1), (.int .i64 q.2.1), (.int .i64 q.2.2.1), (.int .i64 q.2.2.2.1), (.slice a6 (List.length (List.map stT a8)) a7)], Qq b0 24 #[(.int .i64 u), (.int .i64 a0), (.int .i64 a1), (.int .i64 a2), (.slice d3 (List.length (List.map stT ((([] : List Qh) ++ d9) ++ ([(([122, 122] : List UInt8), (IntKind.wrap .i64 (Int.tmod ((f).toNat : Int) 9)), (IntKind.wrap .i64 (Int.tmod ((p).toNat : Int) 9)), (none, 0, ([] : List (Int × Int))), (none, 0, ([] : List ((List UInt8) × (List UInt8) × Int))))] : List Qh)))) d4)], Q6 33 V1 d3 d4 ((([] : List Qh) ++ d9) ++ ([(([122, 122] : List UInt8), (IntKind.wrap .i64 (Int.tmod ((f).toNat : Int) 9)), (IntKind.wrap .i64 (Int.tmod ((p).toNat : Int) 9)), (none, 0, ([] : List (Int × Int))), (none, 0, ([] : List ((List UInt8) × (List UInt8) × Int))))] : List Qh)), Q6 33 V1 (some ⟨g2, 0, none⟩) (List.length ([(([122, 122] : List UInt8), (IntKind.wrap .i64 (Int.tmod ((f).toNat : Int) 9)), (IntKind.wrap .i64 (Int.tmod ((p).toNat : Int) 9)), ([] : List (Int × Int)), ([] : List ((List UInt8) × (List UInt8) × Int)))] : List Qb)) ([(([122, 122] : List UInt8), (IntKind.wrap .i64 (Int.tmod ((f).toNat : Int) 9)), (IntKind.wrap .i64 (Int.tmod ((p).toNat : Int) 9)), (none, 0, ([] : List (Int × Int))), (none, 0, ([] : List ((List UInt8) × (List UInt8) × Int))))] : List Qh)])] 9 7 ⟨trivial, SP.drew l6⟩ ?_ ?_
     iterate 9 refine And.intro ?_ ?_
     exact trivial
     ·refine Owe.heavy K [(0, 1), (2, 4)] K (Qc ⟨K, K, ?_⟩ (Qc ⟨K, K, ?_⟩ Q8))
      ·rintro ρ' w' hs a5 ⟨r6, l7⟩
       refine kN [] trivial fun a4 => ?_
       refine Vt (e := V1) (T := 22) (E := 33) (len := 0) (parts := #[]) (cs := #[]) ([] : List Qh) (d := (some 94)) (k := 0) K rfl (fun _ => K) l7 rfl rfl rfl rfl ?_
       intro l8 r7 l9
       refine ⟨_, Qa a4, trivial, ?_⟩
       exact (Exists.intro l8 (And.intro (And.intro rfl (trivial)) l9))
      ·rintro ρ' w' hs a5 ⟨e0, ⟨m0, -⟩, m1⟩
       refine kN [] trivial fun a4 => ?_
       refine Vt (e := V1) (T := 22) (E := 33) (len := 0) (parts := #[]) (cs := #[]) ([] : List Qh) (d := (some 94)) (k := 0) K rfl (fun _ => K) m1 rfl rfl rfl rfl ?_
       intro m2 r8 m3
       refine ⟨_, Qa a4, trivial, ?_⟩
       exact (Exists.intro m2 (Exists.intro e0 (And.intro (And.intro rfl (And.intro m0 (trivial))) (SP.sel m3 [0, 1, 2, 3, 4, 5, 6, 8, 7] rfl rfl))))
     ·exact oV (hC (hS 3 (pt a3 0)) (h0)) (pt a3 4)
     ·refine Owe.light K [0, 1, 2, 4] K (Qc ?_ (Qc ?_ (Qc ?_ (Qc ?_ Q8))))
      ·rintro ρ' w' hs a5 ⟨r9, m4⟩
       refine kM (kc (kA a5 1 95) k0) fun a4 => ?_
       refine sL 22 95 a3 4 0 (.slice A6 (List.length (List.map stT d9)) c7) 96 m4 rfl ?_
       exact eK a4
      ·rintro ρ' w' hs a5 ⟨b4, ⟨s0, -⟩, m5⟩
       refine kM (kc (kA a5 1 95) k0) fun a4 => ?_
       refine sL 22 95 a3 4 0 (.slice A6 (List.length (List.map stT d9)) c7) 96 m5 rfl ?_
       exact eK a4
      ·rintro ρ' w' hs a5 ⟨e0, ⟨s1, -⟩, m6⟩
       refine kM (kc (kA a5 1 95) k0) fun a4 => ?_
       refine sL 22 95 a3 4 0 (.slice A6 (List.length (List.map stT d9)) c7) 96 m6 rfl ?_
       exact eK a4
      ·rintro ρ' w' hs a5 ⟨c1, e3, ⟨s2, s3, -⟩, m7⟩
       refine kM (kc (kA a5 1 95) k0) fun a4 => ?_
       refine sL 22 95 a3 4 0 (.slice A6 (List.length (List.map stT d9)) c7) 96 m7 rfl ?_
       exact eK a4
     ·refine Owe.heavy K [(1, 3), (4, 5)] K (Qc ⟨K, K, ?_⟩ (Qc ⟨K, K, ?_⟩ Q8))
      ·rintro ρ' w' hs a5 ⟨b4, ⟨i3, -⟩, i4⟩
       refine kN [(94, (.slice (some ⟨b4, 0, none⟩) (List.length ([] : List Qb)) (List.length ([] : List Qb)))), (96, (.slice A6 (List.length (List.map stT d9)) c7))] ⟨(Vo (h := 0) K).symm.trans i3, a5 2 96 K, trivial⟩ fun a4 => ?_
       refine R6 stT (e := V1) (l := ([] : List Qh)) (m := d9) (A := (some ⟨b4, 0, none⟩)) (c := (List.length ([] : List Qb))) (A2 := A6) (c2 := c7) (T := 22) (TX := 22) (E := 33) (E2 := 33) (b := 80) (s := (.tmp 94)) (x := (.tmp 96)) (i := 7) (d := (some 97)) (k := 3) K rfl K K K K rfl i4 rfl K (RdT.sp (Yh b9) i4) hl120 ?_
       intro m8 m9 s4 n0
       refine ⟨_, Qa a4, trivial, ?_⟩
       exact (Exists.intro b4 (Exists.intro m8 (Exists.intro m9 (And.intro (And.intro i3 (And.intro rfl (trivial))) n0))))
      ·rintro ρ' w' hs a5 ⟨c1, e3, ⟨i5, n1, -⟩, i6⟩
       refine kN [(94, (.slice (some ⟨c1, 0, none⟩) (List.length ([] : List Qb)) (List.length ([] : List Qb)))), (96, (.slice A6 (List.length (List.map stT d9)) c7))] ⟨(Vo (h := 0) K).symm.trans i5, a5 2 96 K, trivial⟩ fun a4 => ?_
       refine R6 stT (e := V1) (l := ([] : List Qh)) (m := d9) (A := (some ⟨c1, 0, none⟩)) (c := (List.length ([] : List Qb))) (A2 := A6) (c2 := c7) (T := 22) (TX := 22) (E := 33) (E2 := 33) (b := 80) (s := (.tmp 94)) (x := (.tmp 96)) (i := 7) (d := (some 97)) (k := 3) K rfl K K K K rfl i6 rfl K (RdT.sp (Yh b9) i6) hl120 ?_
       intro n2 n3 s5 n4
       refine ⟨_, Qa a4, trivial, ?_⟩
       exact (Exists.intro c1 (Exists.intro n2 (Exists.intro n3 (Exists.intro e3 (And.intro (And.intro i5 (And.intro rfl (And.intro n1 (trivial)))) n4)))))
     ·refine Owe.light K [0, 1, 3] K (Qc ?_ (Qc ?_ (Qc ?_ Q8)))
      ·rintro ρ' w' hs a5 ⟨s6, n5⟩
       refine kM (kc (kS hs 9 (pt b1 0)) k0) fun a4 => ?_
       refine sL 33 9 b1 0 1 (.agg #[(.string ⟨List.toArray ([122, 122] : List UInt8)⟩), (.int .i64 (IntKind.wrap .i64 (Int.tmod ((f).toNat : Int) 9))), (.int .i64 (IntKind.wrap .i64 (Int.tmod ((p).toNat : Int) 9))), (.slice none (List.length ([] : List (Int × Int))) 0), (.slice none (List.length ([] : List ((List UInt8) × (List UInt8) × Int))) 0)]) 98 n5 rfl ?_
       exact eK a4
      ·rintro ρ' w' hs a5 ⟨b4, ⟨s7, -⟩, n6⟩
       refine kM (kc (kS hs 9 (pt b1 0)) k0) fun a4 => ?_
       refine sL 33 9 b1 0 1 (.agg #[(.string ⟨List.toArray ([122, 122] : List UInt8)⟩), (.int .i64 (IntKind.wrap .i64 (Int.tmod ((f).toNat : Int) 9))), (.int .i64 (IntKind.wrap .i64 (Int.tmod ((p).toNat : Int) 9))), (.slice none (List.length ([] : List (Int × Int))) 0), (.slice none (List.length ([] : List ((List UInt8) × (List UInt8) × Int))) 0)]) 98 n6 rfl ?_
       exact eK a4
      ·rintro ρ' w' hs a5 ⟨e5, e1, e2, ⟨s8, s9, -⟩, n7⟩
       refine kM (kc (kS hs 9 (pt b1 0)) k0) fun a4 => ?_
       refine sL 33 9 b1 0 1 (.agg #[(.string ⟨List.toArray ([122, 122] : List UInt8)⟩), (.int .i64 (IntKind.wrap .i64 (Int.tmod ((f).toNat : Int) 9))), (.int .i64 (IntKind.wrap .i64 (Int.tmod ((p).toNat : Int) 9))), (.slice none (List.length ([] : List (Int × Int))) 0), (.slice none (List.length ([] : List ((List UInt8) × (List UInt8) × Int))) 0)]) 98 n7 rfl ?_
       exact eK a4
     ·refine Owe.heavy K [(0, 2), (1, 4), (3, 5)] K (Qc ⟨K, K, ?_⟩ (Qc ⟨K, K, ?_⟩ (Qc ⟨K, K, ?_⟩ Q8)))
      ·rintro ρ' w' hs a5 ⟨t0, n8⟩
       refine kM (kc (kA a5 4 98) k0) fun a4 => ?_
       refine Vt (e := V1) (T := 22) (E := 33) (len := 1) (parts := #[(0, (.tmp 98))]) (cs := #[(.string ⟨List.toArray ([122, 122] : List UInt8)⟩), (.int .i64 (IntKind.wrap .i64 (Int.tmod ((f).toNat : Int) 9))), (.int .i64 (IntKind.wrap .i64 (Int.tmod ((p).toNat : Int) 9))), (.slice none (List.length ([] : List (Int × Int))) 0), (.slice none (List.length ([] : List ((List UInt8) × (List UInt8) × Int))) 0)]) ([(([122, 122] : List UInt8), (IntKind.wrap .i64 (Int.tmod ((f).toNat : Int) 9)), (IntKind.wrap .i64 (Int.tmod ((p).toNat : Int) 9)), (none, 0, ([] : List (Int × Int))), (none, 0, ([] : List ((List UInt8) × (List UInt8) × Int))))] : List Qh) (d := (some 99)) (k := 5) K rfl (fun _ => K) n8 rfl rfl rfl rfl ?_
       intro n9 t1 o0
       refine ⟨_, Qa a4, trivial, ?_⟩
       exact (Exists.intro n9 (And.intro (And.intro rfl (trivial)) o0))
      ·rintro ρ' w' hs a5 ⟨b4, ⟨o1, -⟩, o2⟩
       refine kM (kc (kA a5 4 98) k0) fun a4 => ?_
       refine Vt (e := V1) (T := 22) (E := 33) (len := 1) (parts := #[(0, (.tmp 98))]) (cs := #[(.string ⟨List.toArray ([122, 122] : List UInt8)⟩), (.int .i64 (IntKind.wrap .i64 (Int.tmod ((f).toNat : Int) 9))), (.int .i64 (IntKind.wrap .i64 (Int.tmod ((p).toNat : Int) 9))), (.slice none (List.length ([] : List (Int × Int))) 0), (.slice none (List.length ([] : List ((List UInt8) × (List UInt8) × Int))) 0)]) ([(([122, 122] : List UInt8), (IntKind.wrap .i64 (Int.tmod ((f).toNat : Int) 9)), (IntKind.wrap .i64 (Int.tmod ((p).toNat : Int) 9)), (none, 0, ([] : List (Int × Int))), (none, 0, ([] : List ((List UInt8) × (List UInt8) × Int))))] : List Qh) (d := (some 99)) (k := 5) K rfl (fun _ => K) o2 rfl rfl rfl rfl ?_
       intro o3 t2 o4
       refine ⟨_, Qa a4, trivial, ?_⟩
       exact (Exists.intro b4 (Exists.intro o3 (And.intro (And.intro o1 (And.intro rfl (trivial))) o4)))
      ·rintro ρ' w' hs a5 ⟨e5, e1, e2, ⟨o5, o6, -⟩, o7⟩
       refine kM (kc (kA a5 4 98) k0) fun a4 => ?_
       refine Vt (e := V1) (T := 22) (E := 33) (len := 1) (parts := #[(0, (.tmp 98))]) (cs := #[(.string ⟨List.toArray ([122, 122] : List UInt8)⟩), (.int .i64 (IntKind.wrap .i64 (Int.tmod ((f).toNat : Int) 9))), (.int .i64 (IntKind.wrap .i64 (Int.tmod ((p).toNat : Int) 9))), (.slice none (List.length ([] : List (Int × Int))) 0), (.slice none (List.length ([] : List ((List UInt8) × (List UInt8) × Int))) 0)]) ([(([122, 122] : List UInt8), (IntKind.wrap .i64 (Int.tmod ((f).toNat : Int) 9)), (IntKind.wrap .i64 (Int.tmod ((p).toNat : Int) 9)), (none, 0, ([] : List (Int × Int))), (none, 0, ([] : List ((List UInt8) × (List UInt8) × Int))))] : List Qh) (d := (some 99)) (k := 5) K rfl (fun _ => K) o7 rfl rfl rfl rfl ?_
       intro o8 t3 o9
       refine ⟨_, Qa a4, trivial, ?_⟩
       exact (Exists.intro e5 (Exists.intro e1 (Exists.intro e2 (Exists.intro o8 (And.intro (And.intro o5 (And.intro o6 (And.intro rfl (trivial)))) o9)))))
     ·refine oH 5 6 ?_
      ·rintro ρ' w' hs a5 ⟨f8, d0, d1, d2, ⟨p0, i7, i8, -⟩, i9⟩
       refine kN [(97, (.slice d0 (List.length (List.map stT (([] : List Qh) ++ d9))) d1)), (99, (.slice (some ⟨d2, 0, none⟩) (List.length ([(([122, 122] : List UInt8), (IntKind.wrap .i64 (Int.tmod ((f).toNat : Int) 9)), (IntKind.wrap .i64 (Int.tmod ((p).toNat : Int) 9)), ([] : List (Int × Int)), ([] : List ((List UInt8) × (List UInt8) × Int)))] : List Qb)) (List.length ([(([122, 122] : List UInt8), (IntKind.wrap .i64 (Int.tmod ((f).toNat : Int) 9)), (IntKind.wrap .i64 (Int.tmod ((p).toNat : Int) 9)), ([] : List (Int × Int)), ([] : List ((List UInt8) × (List UInt8) × Int)))] : List Qb))))] ⟨(Vo (h := 3) K).symm.trans i7, (Vo (h := 5) K).symm.trans i8, trivial⟩ fun a4 => ?_
       refine R6 stT (e := V1) (l := (([] : List Qh) ++ d9)) (m := ([(([122, 122] : List UInt8), (IntKind.wrap .i64 (Int.tmod ((f).toNat : Int) 9)), (IntKind.wrap .i64 (Int.tmod ((p).toNat : Int) 9)), (none, 0, ([] : List (Int × Int))), (none, 0, ([] : List ((List UInt8) × (List UInt8) × Int))))] : List Qh)) (A := d0) (c := d1) (A2 := (some ⟨d2, 0, none⟩)) (c2 := (List.length ([(([122, 122] : List UInt8), (IntKind.wrap .i64 (Int.tmod ((f).toNat : Int) 9)), (IntKind.wrap .i64 (Int.tmod ((p).toNat : Int) 9)), ([] : List (Int × Int)), ([] : List ((List UInt8) × (List UInt8) × Int)))] : List Qb))) (T := 22) (TX := 22) (E := 33) (E2 := 33) (b := 80) (s := (.tmp 97)) (x := (.tmp 99)) (i := 7) (d := (some 100)) (k := 6) K rfl K K K K rfl i9 rfl K (Vg (SP.get i9 (i := 8) rfl)) hl131 ?_
       intro p1 p2 t4 p3
       refine ⟨_, Qa a4, trivial, ?_⟩
       exact (Exists.intro f8 (Exists.intro d0 (Exists.intro d1 (Exists.intro d2 (Exists.intro p1 (Exists.intro p2 (And.intro (And.intro p0 (And.intro i7 (And.intro i8 (And.intro rfl (trivial))))) p3)))))))
     ·exact oV (hC (hS 14 (pt b0 0)) (h0)) (pt b0 4)
     ·refine oH 6 7 ?_
      ·rintro ρ' w' hs a5 ⟨f9, g0, g1, e6, c3, c4, ⟨p4, p5, p6, j0, -⟩, p7⟩
       refine kN [(101, (pt b0 4)), (100, (.slice c3 (List.length (List.map stT ((([] : List Qh) ++ d9) ++ ([(([122, 122] : List UInt8), (IntKind.wrap .i64 (Int.tmod ((f).toNat : Int) 9)), (IntKind.wrap .i64 (Int.tmod ((p).toNat : Int) 9)), (none, 0, ([] : List (Int × Int))), (none, 0, ([] : List ((List UInt8) × (List UInt8) × Int))))] : List Qh)))) c4))] ⟨a5 7 101 K, (Vo (h := 6) K).symm.trans j0, trivial⟩ fun a4 => ?_
       refine Qi.store (t := 22) (x := (.tmp 101)) (y := (.tmp 100)) (g := b0) (off := 4) (i := 6) (v := (.slice c3 (List.length (List.map stT ((([] : List Qh) ++ d9) ++ ([(([122, 122] : List UInt8), (IntKind.wrap .i64 (Int.tmod ((f).toNat : Int) 9)), (IntKind.wrap .i64 (Int.tmod ((p).toNat : Int) 9)), (none, 0, ([] : List (Int × Int))), (none, 0, ([] : List ((List UInt8) × (List UInt8) × Int))))] : List Qh)))) c4)) (cs' := #[(.int .i64 u), (.int .i64 a0), (.int .i64 a1), (.int .i64 a2), (.slice c3 (List.length (List.map stT ((([] : List Qh) ++ d9) ++ ([(([122, 122] : List UInt8), (IntKind.wrap .i64 (Int.tmod ((f).toNat : Int) 9)), (IntKind.wrap .i64 (Int.tmod ((p).toNat : Int) 9)), (none, 0, ([] : List (Int × Int))), (none, 0, ([] : List ((List UInt8) × (List UInt8) × Int))))] : List Qh)))) c4)]) (d := none) (k := 8) K rfl K K p7 rfl K ?_
       intro t5 p8
       refine ⟨_, Qa a4, trivial, ?_⟩
       exact (Exists.intro f9 (Exists.intro g0 (Exists.intro g1 (Exists.intro e6 (Exists.intro c3 (Exists.intro c4 (And.intro (And.intro p4 (And.intro p5 (And.intro p6 (And.intro j0 (And.intro rfl (trivial)))))) p8)))))))
     ·rintro ρ' w' hs hf ⟨i0, i1, i2, g2, d3, d4, ⟨t6, t7, t8, t9, u0, -⟩, b8⟩
      refine V2 [(7, (.bool a9)), (11, (pt b2 0)), (12, (.int .i64 q.2.2.2.2.2.1)), (14, (pt b0 0))] ⟨(hs 7 K).trans K, (hs 11 K).trans K, (hs 12 K).trans K, (hs 14 K).trans K, trivial⟩ ?_
      obtain ⟨j1, p9⟩ : ∃ x, w' = x := ⟨_, rfl⟩
      rw [p9] at b8 ⊢
      refine aQ ?_
      refine At.join (fun ρ w => ∃ (d5 : Bool), Zm ρ [(6, (.bool d5))] ∧ SP [] w0 w [] ∧ Vx d5 = some r) ?_ ?_
      ·refine aR ?_
       refine iR 2 2 [(102, (.bool a9)), (103, (.bool a9))] ?_
       refine In.guard (t := 103) (b := a9) K (fun g3 => ?_) (fun g3 => ?_)
       ·have H := ct H g3
        refine iR 4 6 [(104, (.int .i64 q.2.2.2.2.2.1)), (105, (.bool (q.2.2.2.2.2.1 == 0))), (106, (.bool (q.2.2.2.2.2.1 == 0))), (107, (.bool (q.2.2.2.2.2.1 == 0)))] ?_
        refine In.guard (t := 107) (b := (q.2.2.2.2.2.1 == 0)) K (fun g4 => ?_) (fun g4 => ?_)
        ·have H := ct H g4
         refine iS 7 ?_
         refine sL 24 11 b2 0 5 (.agg #[(.int .i64 q.1), (.int .i64 q.2.1), (.int .i64 q.2.2.1), (.int .i64 q.2.2.2.1), (.slice a6 (List.length (List.map stT a8)) a7)]) 108 b8 rfl ?_
         refine iS 8 ?_
         refine sL 24 14 b0 0 6 (.agg #[(.int .i64 u), (.int .i64 a0), (.int .i64 a1), (.int .i64 a2), (.slice d3 (List.length (List.map stT ((([] : List Qh) ++ d9) ++ ([(([122, 122] : List UInt8), (IntKind.wrap .i64 (Int.tmod ((f).toNat : Int) 9)), (IntKind.wrap .i64 (Int.tmod ((p).toNat : Int) 9)), (none, 0, ([] : List (Int × Int))), (none, 0, ([] : List ((List UInt8) × (List UInt8) × Int))))] : List Qh)))) d4)]) 109 b8 rfl ?_
         obtain ⟨e7, q0, H⟩ := Qd H
         refine iS 9 ?_
         refine cF 26 #[(.tmp 108), (.tmp 109)] #[24, 24] 110 Tryz.call26 (Rc a6 a7 d3 d4 q.1 q.2.1 q.2.2.1 q.2.2.2.1 a8 u a0 a1 a2 ((([] : List Qh) ++ d9) ++ ([(([122, 122] : List UInt8), (IntKind.wrap .i64 (Int.tmod ((f).toNat : Int) 9)), (IntKind.wrap .i64 (Int.tmod ((p).toNat : Int) 9)), (none, 0, ([] : List (Int × Int))), (none, 0, ([] : List ((List UInt8) × (List UInt8) × Int))))] : List Qh)) j1 (Rg (SP.get b8 (i := 4) rfl)) (ds_mk (Vg (SP.get b8 (i := 7) rfl)) ((elq_app (elq_app elq_nil (el_below b9)) (elq_ten (fun w hb => RdT.below (RdT.nil (Qf (Q4 .u32) (Q4 .i64)) w0) hb) (fun w hb => RdT.below (RdT.nil (Qf Ql (Qf Ql (Q4 .i64))) w0) hb))) j1 (SP.keeps b8))) e7 q0) ?_
         rintro e u1 ⟨rfl, j2⟩
         refine ⟨_, rfl, ?_⟩
         have q1 := SP.call b8 j2
         clear j2
         refine iR 2 11 [(111, (.bool e7)), (6, (.bool e7))] ?_
         refine iF ?_
         exact ⟨e7, ⟨K, trivial⟩, SP.sel q1 [] rfl rfl, H⟩
        ·have H := cf H g4
         refine iR 5 11 [(108, undef), (109, undef), (110, undef), (111, (.bool false)), (6, (.bool false))] ?_
         refine iF ?_
         exact ⟨false, ⟨K, trivial⟩, SP.sel b8 [] rfl rfl, H⟩
       ·have H := cf H g3
        refine iR 9 11 [(104, undef), (105, undef), (106, (.bool false)), (107, (.bool false)), (108, undef), (109, undef), (110, undef), (111, (.bool false)), (6, (.bool false))] ?_
        refine iF ?_
        exact ⟨false, ⟨K, trivial⟩, SP.sel b8 [] rfl rfl, H⟩
      ·rintro ρ u2 ⟨d5, hk, q2, H⟩
       unfold Vx at H
       first | refine At.known [(6, (.bool d5))] hk ?_ | rw [← Q3 (l := [(6, (.bool d5))]) hk]
       refine At.ret K ?_
       refine ⟨(.bool d5), K, ?_⟩
       obtain rfl := Qg H
       exact ⟨rfl, SP.sel q2 [] rfl rfl⟩
end Go.Proofs.YtoflbpmbkmephaaGreatDoor
namespace Go.Proofs.YtoflbpmbkmephaaGreatDoor
open Go.RowKit
abbrev w_zz : Str := [122, 122]
theorem dig9 (c : UInt8) : Ug (IntKind.wrap .u8 (48 + Int.tmod ((c.toNat : Nat) : Int) 9)) = UInt8.ofNat (48 + c.toNat % 9) ∧ IntKind.wrap .i64 (Int.tmod ((c.toNat : Nat) : Int) 9) = ((c.toNat % 9 : Nat) : Int) ∧ G7 ((c.toNat % 9 : Nat) : Int) = [UInt8.ofNat (48 + c.toNat % 9)] := by
  have hm := Kj c.toNat 9
  rw [show ((9 : Nat) : Int) = 9 from rfl] at hm
  have h9 : c.toNat % 9 < 9 := Nat.mod_lt _ (by omega)
  rw [hm]
  generalize c.toNat % 9 = n at h9
  refine ⟨?_, ?_, ?_⟩
  · rw [show (48 : Int) + (n : Int) = ((48 + n : Nat) : Int) by omega]
    exact toU8_wrap _
  · exact J5 (by omega)
  · exact (by decide +kernel : ∀ m : Fin 9, G7 ((m.val : Nat) : Int) = [UInt8.ofNat (48 + m.val)]) ⟨n, h9⟩
def zzT (a b : Nat) : Qb := (w_zz, (a : Int), (b : Int), [], [])
theorem zz_ok {a b : Nat} (ha : a < 9) (hb : b < 9) : D2 (zzT a b) = true := by
  rw [G1]
  refine ⟨fun n hn => (by cases hn), fun x hx => (by cases hx), (show R2 w_zz = true by decide), Nat.zero_le _, Nat.zero_le _, ?_, ?_, rfl⟩
  · show qOk (a : Int) = true
    unfold qOk
    rw [decide_eq_true (by omega), decide_eq_true (by omega)]
    rfl
  · show qOk (b : Int) = true
    unfold qOk
    rw [decide_eq_true (by omega), decide_eq_true (by omega)]
    rfl
theorem zz_line (c : Nj) {a b : Nat} (ha : a < 9) (hb : b < 9) : Ek c false (B1 (zzT a b)) = if okC (Rh c (c.2.2.2.2 ++ [zzT a b])) = true then some (Rh c (c.2.2.2.2 ++ [zzT a b])) else none := by
  have ho := (G1 _).1 (zz_ok ha hb)
  obtain ⟨n1, p1, e1⟩ := Ns (Hb ho.2.2.2.2.2.1)
  obtain ⟨n2, p2, e2⟩ := Ns (Hb ho.2.2.2.2.2.2.1)
  show (if (Zd == Za) == false then (Nk c Zd [(zzT a b).1, G7 (zzT a b).2.1, G7 (zzT a b).2.2.1]).filter okC else none) = _
  rw [if_pos (show ((Zd == Za) == false) = true from rfl), R7, p1, Option.bind_some, p2, Option.map_some, e1, e2]
  show (some (Rh c (c.2.2.2.2 ++ [zzT a b]))).filter okC = _
  by_cases h : okC (Rh c (c.2.2.2.2 ++ [zzT a b])) = true
  · rw [if_pos h, Option.filter_some_pos h]
  · rw [if_neg h, Option.filter_some_neg (by simpa using h)]
theorem Lx (c : Nj) (t : Qb) (h1 : okC c = true) (h2 : okC (Rh c (c.2.2.2.2 ++ [t])) = true) (h3 : t.2.2.2.1 = []) (h4 : t.2.2.2.2 = []) : Uu (Rh c (c.2.2.2.2 ++ [t])) = Uu c ++ Jh (B1 t) := by
  unfold Uu
  rw [if_pos h1, if_pos h2, G0, List.flatMap_append]
  have ht : Rj t = [B1 t] := by unfold Rj; rw [h3, h4]; rfl
  rw [ht]
  unfold Nl
  simp
theorem B4 (w g i e : Int) (l : List Qb) (c1 c2 : UInt8) (hl : l.length ≤ 140737488355328) (hq : ∀ t ∈ l, TenQ t) : Xk w g i e l c1 c2 = some true := by
  obtain ⟨b, hb, hb2⟩ := cfg_great w g i e l hl hq
  have k1 : Q5 w g i e l c1 c2 true true = some true := rfl
  unfold Xk
  rw [cfgHead, Option.bind_some, hb, Option.bind_some]
  cases b with
  | true => rw [cond_true, k1]
  | false =>
    obtain ⟨h3, _⟩ := hb2 rfl
    rw [cond_false, lCfg w g i e l hl hq, Option.bind_some]
    cases ho : H3 w g i e l with
    | false => rw [Bool.not_false, cond_true, k1]
    | true =>
      have ho' : okC (w, g, i, e, l) = true := ho
      obtain ⟨ht4, h8, hts, hris⟩ := (B2 (w, g, i, e, l)).1 ho'
      have h8 : l.length ≤ 8 := h8
      have hts : ∀ t ∈ l, D2 t = true := hts
      have hris : Br (l.map (·.1)) = true := hris
      have main : (∀ y, (l.map (·.1)).getLast? = some y → Op.bytesLess y w_zz = true) → Q5 w g i e l c1 c2 true false = some true := by
        intro hless
        obtain ⟨d1, d2, d3⟩ := dig9 c1
        obtain ⟨f1, f2, f3⟩ := dig9 c2
        have h9 : c1.toNat % 9 < 9 := Nat.mod_lt _ (by omega)
        have h9' : c2.toNat % 9 < 9 := Nat.mod_lt _ (by omega)
        have hline : Jh (B1 (zzT (c1.toNat % 9) (c2.toNat % 9))) = [116, 101, 110, 97, 110, 116, 32, 122, 122, 32] ++ [UInt8.ofNat (48 + c1.toNat % 9)] ++ [32] ++ [UInt8.ofNat (48 + c2.toNat % 9)] ++ [10] := by
          show Nr 32 [Zd, w_zz, G7 ((c1.toNat % 9 : Nat) : Int), G7 ((c2.toNat % 9 : Nat) : Int)] ++ [10] = _
          rw [d3, f3]
          rfl
        unfold Q5 Vw Vx
        have hp := pPrint (w, g, i, e, l) hl hq
        dsimp only at hp
        rw [cond_false, hp, Option.bind_some, d1, f1, d2, f2, Nm (by simp), Option.bind_some, Nm (by simp), Option.bind_some, Nm (by simp), Option.bind_some, Nm (by simp), Option.bind_some, ← hline]
        generalize c1.toNat % 9 = a at *
        generalize c2.toNat % 9 = b at *
        have hll : (Jh (B1 (zzT a b))).length ≤ 20 := by rw [hline]; simp
        obtain ⟨hs1, hs2⟩ := okC_sm (c := (w, g, i, e, l)) hq ho'
        have hplen : (Uu (w, g, i, e, l)).length ≤ 1000000000 := by
          unfold Uu
          rw [if_pos ho']
          unfold Nl
          rw [List.flatMap_cons, List.flatMap_assoc, List.length_append]
          have q1 := Rk (Ig (w, g, i, e, l))
          have q2 : ∀ m : List Qb, (∀ t ∈ m, SmT t) → (m.flatMap fun t => (Rj t).flatMap Jh).length ≤ m.length * 600000 := by
            intro m
            induction m with
            | nil => intro _; simp
            | cons t m ih =>
              intro hm
              have r1 := ih fun x hx => hm x (by simp [hx])
              have r2 := Kz (hm t (by simp))
              simp only [List.flatMap_cons, List.length_append, List.length_cons, Nat.succ_mul]
              omega
          have q3 := q2 l fun t ht => (hs2 t ht).1
          have : l.length * 600000 ≤ 8 * 600000 := Nat.mul_le_mul_right _ h8
          show _ + (l.flatMap fun t => (Rj t).flatMap Jh).length ≤ _
          omega
        rw [show IntKind.wrap .i64 (((List.length (Uu (w, g, i, e, l)) : Nat) : Int) + ((List.length (Jh (B1 (zzT a b))) : Nat) : Int)) = (((Uu (w, g, i, e, l)).length + (Jh (B1 (zzT a b))).length : Nat) : Int) by rw [Jk (by omega)]; omega]
        by_cases hbig : (((Uu (w, g, i, e, l)).length + (Jh (B1 (zzT a b))).length : Nat) : Int) > 4096
        · rw [decide_eq_true hbig, cond_true]
        · rw [decide_eq_false hbig, cond_false, Nm (by omega), Option.bind_some, pParse, Option.bind_some, Option.bind_some]
          by_cases hmany : ((List.length l : Nat) : Int) ≥ 8
          ·
            have hno : okC (Rh (w, g, i, e, l) (l ++ [zzT a b])) = false := by
              cases h : okC (Rh (w, g, i, e, l) (l ++ [zzT a b])) with
              | false => rfl
              | true =>
                have := ((B2 _).1 h).2.1
                have this : (l ++ [zzT a b]).length ≤ 8 := this
                simp at this
                omega
            obtain ⟨r1, r2⟩ := K2 _ (w, g, i, e, l) rfl ho' (fun t ht n hn => (hq t ht).2.2.2.1 n hn)
            have hzl := zz_line (w, g, i, e, l) h9 h9'
            rw [if_neg (by show ¬ okC (Rh (w, g, i, e, l) (l ++ [zzT a b])) = true; rw [hno]; decide)] at hzl
            have hzn := no_ten ((G1 _).1 (zz_ok h9 h9')).2.2.1
            have h10 : ∀ p ∈ (Nl (w, g, i, e, l)).map (Nr 32) ++ [Nr 32 (B1 (zzT a b))], (10 : UInt8) ∉ p := by
              intro p hp
              rcases List.mem_append.1 hp with hp | hp
              · obtain ⟨ws, hws, rfl⟩ := List.mem_map.1 hp
                exact Cn (by decide) ws fun x hx => ((r2 ws hws).1 x hx).2
              · rw [List.mem_singleton] at hp
                subst hp
                exact Cn (by decide) _ fun x hx => (hzn x hx).2
            have hpos : 0 < (Nl (w, g, i, e, l)).length := by simp [Nl]
            have hpc : En (Uu (w, g, i, e, l) ++ Jh (B1 (zzT a b))) = failC 91 (Nl (w, g, i, e, l)).length := by
              have hs := B3 _ h10 []
              rw [List.append_nil, List.flatMap_append, ← Cd ho', List.flatMap_cons, List.flatMap_nil, List.append_nil] at hs
              have hs : Qx 10 (Uu (w, g, i, e, l) ++ Jh (B1 (zzT a b))) = _ := hs
              unfold En
              rw [if_neg (by rw [List.length_append]; omega), hs, show Qx 10 ([] : Str) = [[]] from rfl, List.dropLast_concat, Ha, r1]
              dsimp only
              rw [Ep, De 32 _ (by simp [B1]) fun x hx => (hzn x hx).1, decide_eq_false (by omega), hzl]
              rfl
            rw [decide_eq_true hmany, cond_true, hpc]
            show cond true (cond true (some (decide ((((Nl (w, g, i, e, l)).length : Nat) : Int) > 0))) _) _ = _
            rw [cond_true, cond_true, decide_eq_true (by omega)]
          · have hyes : okC (Rh (w, g, i, e, l) (l ++ [zzT a b])) = true := by
              rw [B2]
              refine ⟨ht4, by show (l ++ [zzT a b]).length ≤ 8; simp; omega, fun t ht => ?_, ?_⟩
              · rcases List.mem_append.1 ht with ht | ht
                · exact hts t ht
                · rw [List.mem_singleton] at ht
                  subst ht
                  exact zz_ok h9 h9'
              · show Br ((l ++ [zzT a b]).map (·.1)) = true
                rw [List.map_append]
                exact K3 _ _ hris hless
            have hpr := Lx (w, g, i, e, l) (zzT a b) ho' hyes rfl rfl
            have hra : Fp (Rh (w, g, i, e, l) (l ++ [zzT a b])) := by
              intro t ht n hn
              rcases List.mem_append.1 ht with ht | ht
              · exact (hq t ht).2.2.2.1 n hn
              · rw [List.mem_singleton] at ht
                subst ht
                cases hn
            have hpp := Kd hyes hra (by
              show (Uu (Rh (w, g, i, e, l) ((w, g, i, e, l).2.2.2.2 ++ [zzT a b]))).length ≤ 4096
              rw [hpr, List.length_append]
              omega)
            have hpp : En (Uu (w, g, i, e, l) ++ Jh (B1 (zzT a b))) = (w, g, i, e, l ++ [zzT a b], 0, 0) := by
              rw [← hpr]
              exact hpp
            have hsame := rSame w g i e (l ++ [zzT a b]) (by simp; omega) (fun t ht => by
              rcases List.mem_append.1 ht with ht | ht
              · exact ⟨(hq t ht).2.1, (hq t ht).2.2.1⟩
              · rw [List.mem_singleton] at ht
                subst ht
                exact ⟨Nat.zero_le _, Nat.zero_le _⟩)
            rw [decide_eq_false hmany, cond_false, Nm (by simp; omega), Option.bind_some, List.nil_append, Nm (by simp; omega), Option.bind_some, hpp, cond_true]
            show cond ((0 : Int) == 0) ((Xt w g i e (l ++ [zzT a b]) w g i e (l ++ [zzT a b])).bind _) _ = _
            rw [hsame]
            rfl
      rw [Bool.not_true, cond_false]
      cases hlast : l.getLast? with
      | none =>
        have hz : l = [] := List.getLast?_eq_none_iff.1 hlast
        rw [decide_eq_false (by rw [hz]; decide), cond_false]
        exact main (by rw [hz]; intro y hy; cases hy)
      | some t =>
        have hne : l ≠ [] := fun e => by rw [e] at hlast; cases hlast
        have hp := List.length_pos_iff.2 hne
        rw [decide_eq_true (by omega), cond_true, Kv (by omega) hlast, Option.bind_some]
        cases hb : Op.bytesLess t.1 ([122, 122] : List UInt8) with
        | false => rw [Bool.not_false, k1]
        | true =>
          rw [Bool.not_true]
          refine main fun y hy => ?_
          rw [List.getLast?_map, hlast] at hy
          injection hy with hy
          rw [← hy]
          exact hb
end Go.Proofs.YtoflbpmbkmephaaGreatDoor
namespace Go.Proofs.YtoflbpmbkmephaaGreatDoor
open Go.RowKit Go.ChangeShapes Go.WideShapes Go.Deep
theorem own : ownKnob Tryz.prog.godebug = none := by kernel_rfl
theorem Ke : laidOutB Tryz.prog = true := by kernel_rfl
section
variable {H : Type} {enc : TypeId × Value → H} {W : World} {spare : Nat → Bool} {held : Bool} {base b0 : Nat} {r : Reach}
end
end Go.Proofs.YtoflbpmbkmephaaGreatDoor
namespace Go.Proofs.YtoflbpmbkmephaaGreatDoor
open Go.RowKit Go.ChangeShapes Go.WideShapes Go.Deep
section
variable {H : Type} {enc : TypeId × Value → H} {P : Program} {W : World}
def Rds (enc : TypeId × Value → H) (P : Program) (W : World) (t : TypeId) {α : Type} (e : Enc α) (Q : Nat → α → Prop) : Prop :=
  ∀ (Xx : Nat) (cs : List Value) (x : DataW H × List MemPlace), DataW.trod enc P W 0 (fun _ => true) true Xx t cs = some x → ∃ a, cs = e.enc a ∧ ∀ r, (x.1.weights P t).all (· ≤ r) = true → Q r a
def RdsFs (enc : TypeId × Value → H) (P : Program) (W : World) (o : Nat) (fs : List (TypeId × Nat)) {α : Type} (e : Enc α) (Q : Nat → α → Prop) : Prop :=
  ∀ (Xx : Nat) (cs : List Value) (xs : List (DataW H × List MemPlace)), xs.length = fs.length → (∀ (i : Nat) f, fs[i]? = some f → DataW.trod enc P W 0 (fun _ => true) true Xx f.1 ((cs.drop f.2).take (P.cellsOf f.1)) = xs[i]?) →
    ∃ a, (cs.drop o).take e.sz = e.enc a ∧ ∀ r, (DataW.weightsEach P (fs.map (·.1)) (xs.map (·.1))).all (· ≤ r) = true → Q r a
theorem Ro {t : TypeId} {k : IntKind} (ht : P.underlying t = some (.int k)) : Rds enc P W t (Q4 k) (fun _ n => (Lit.int k n).wf = true) := by
  intro Xx cs x h
  obtain ⟨n, rfl, rfl, hw⟩ := DataW.trod_int ht h
  exact ⟨n, rfl, fun _ _ => hw⟩
theorem Kf {t : TypeId} (ht : P.underlying t = some .string) : Rds enc P W t Ql (fun r s => s.length ≤ r) := by
  intro Xx cs x h
  obtain ⟨s, rfl, rfl, hs⟩ := DataW.trod_string ht h
  refine ⟨s.data.toList, rfl, fun r hr => ?_⟩
  simpa [DataW.weights] using hr
theorem K4 {t : TypeId} {o : Nat} {α : Type} {e : Enc α} {Q : Nat → α → Prop} (h : Rds enc P W t e Q) (hc : P.cellsOf t = e.sz) : RdsFs enc P W o [(t, o)] e Q := by
  intro Xx cs xs hl hf
  match xs, hl with
  | [x], _ =>
    have := hf 0 (t, o) rfl
    obtain ⟨a, ha, hq⟩ := h Xx _ _ this
    rw [hc] at ha
    refine ⟨a, ha, fun r hr => hq r ?_⟩
    simpa [DataW.weightsEach] using hr
theorem N9 {t : TypeId} {o : Nat} {fs : List (TypeId × Nat)} {α β : Type} {e : Enc α} {e' : Enc β} {Q : Nat → α → Prop} {Q' : Nat → β → Prop} (h : Rds enc P W t e Q) (hc : P.cellsOf t = e.sz) (hr : RdsFs enc P W (o + e.sz) fs e' Q') :
    RdsFs enc P W o ((t, o) :: fs) (Qf e e') (fun r a => Q r a.1 ∧ Q' r a.2) := by
  intro Xx cs xs hl hf
  match xs, hl with
  | x :: xs, hl =>
    have := hf 0 (t, o) rfl
    obtain ⟨a, ha, hq⟩ := h Xx _ _ this
    obtain ⟨b, hb, hq'⟩ := hr Xx cs xs (by simpa using hl) (fun i f hi => by have := hf (i + 1) f (by simpa using hi); simpa using this)
    refine ⟨(a, b), ?_, fun r hw => ?_⟩
    · show (cs.drop o).take (e.sz + e'.sz) = e.enc a ++ e'.enc b
      rw [hc] at ha
      rw [← ha, ← hb, List.take_add, List.drop_drop]
    · simp only [List.map_cons, DataW.weightsEach, List.all_append, Bool.and_eq_true] at hw
      exact ⟨hq r hw.1, hq' r hw.2⟩
theorem Dg {t : TypeId} {l : List (TypeId × Nat)} {α : Type} {e : Enc α} {Q : Nat → α → Prop} (hl : (match P.underlying t with | some (.struct fs) => some (fs.toList.map (fun f => (f.type, f.offset))) | _ => none) = some l) (hc : P.cellsOf t = e.sz)
    (hr : RdsFs enc P W 0 l e Q) : Rds enc P W t e Q := by
  intro Xx cs x hx
  split at hl
  · rename_i fs hs
    simp only [Option.some.injEq] at hl
    subst hl
    obtain ⟨xs, n, _, rfl, hlen, hxs, hg⟩ := DataW.trod_struct hs hx
    obtain ⟨a, ha, hq⟩ := hr n cs xs (by simpa using hxs) (fun i f hi => by
      rw [List.getElem?_map, Option.map_eq_some_iff] at hi
      obtain ⟨f', hf', rfl⟩ := hi
      exact hg i f' (by simpa using hf'))
    rw [List.drop_zero, List.take_of_length_le (by omega)] at ha
    refine ⟨a, ha, fun r hw => hq r ?_⟩
    simp only [DataW.weights, hs] at hw
    simpa [List.map_map, Function.comp_def] using hw
  · cases hl
theorem Du {t : TypeId} {n : Nat} : ∀ {ds : List (DataW H)} {d : DataW H}, d ∈ ds → n ∈ d.weights P t → n ∈ DataW.weightsAll P t ds
  | d0 :: ds, d, hd, hn => by
    simp only [DataW.weightsAll, List.mem_append]
    rcases List.mem_cons.1 hd with rfl | h
    · exact .inl hn
    · exact .inr (Du h hn)
theorem rds_row {t te : TypeId} {α : Type} {e : Enc α} {Q : Nat → α → Prop} (ht : P.underlying t = some (.slice te)) (h : Rds enc P W te e Q) (hc : P.cellsOf te = e.sz) (h0 : 0 < e.sz) {Xx : Nat} {cs : List Value} {x : DataW H × List MemPlace}
    (hx : DataW.trod enc P W 0 (fun _ => true) true Xx t cs = some x) :
    ∃ (A : Option Addr) (c : Nat) (l : List α), cs = [.slice A l.length c] ∧ RdT e W A c l ∧ ∀ r, (x.1.weights P t).all (· ≤ r) = true → l.length * P.bytesOf te ≤ r ∧ ∀ a ∈ l, Q r a := by
  rcases DataW.trod_slice ht hx with ⟨rfl, rfl⟩ | ⟨a, len, cap, elems, rest, n, _, rfl, rfl, _, hl, hm, hlen, hel, _, _⟩
  · exact ⟨none, 0, [], rfl, RdT.nil _ W, fun r _ => ⟨by simp, fun a ha => by cases ha⟩⟩
  · have each : ∀ i, i ≤ len → ∃ l : List α, l.length = i ∧ ∀ j (hj : j < l.length), W.cells? 0 (a.add (j * P.cellsOf te)) (P.cellsOf te) = some (e.enc l[j]) ∧ ∀ y, elems[j]? = some y → ∀ r, (y.1.weights P te).all (· ≤ r) = true → Q r l[j] := by
      intro i
      induction i with
      | zero => exact fun _ => ⟨[], rfl, fun j hj => by simp at hj⟩
      | succ i ih =>
        intro hi
        obtain ⟨l, hll, hlg⟩ := ih (by omega)
        have := hel i (by omega)
        rw [List.getElem?_eq_getElem (by omega), Option.bind_eq_some_iff] at this
        obtain ⟨cs', h1, h2⟩ := this
        obtain ⟨b, rfl, hb⟩ := h n cs' _ h2
        refine ⟨l ++ [b], by simp [hll], fun j hj => ?_⟩
        by_cases hji : j < l.length
        · rw [List.getElem_append_left hji]
          exact hlg j hji
        · obtain rfl : j = i := by simp at hj; omega
          subst hll
          rw [List.getElem_concat_length rfl]
          refine ⟨h1, fun y hy => ?_⟩
          rw [List.getElem?_eq_getElem (by omega), Option.some.injEq] at hy
          subst hy
          exact hb
    obtain ⟨l, hll, hlg⟩ := each len (Nat.le_refl _)
    subst hll
    refine ⟨some a, cap, l, rfl, ⟨by rw [Zg], hl, hm, fun hn => ?_⟩, fun r hw => ?_⟩
    · have cell : ∀ j (hj : j < l.length) k, k < e.sz → W.cell? ((a.add (j * e.sz)).add k) = (e.enc l[j])[k]? := by
        intro j hj k hk
        have := (hlg j hj).1
        rw [hc] at this
        exact (World.cells?_some this).2.2 k hk
      have c0 := cell 0 hn 0 h0
      rw [Nat.zero_mul, List.getElem?_eq_getElem (by rw [e.len]; exact h0)] at c0
      obtain ⟨b, off, spot⟩ := a
      obtain rfl : spot = none := by simpa [Addr.add] using World.cell?_spot c0
      have hadd : ∀ i j : Nat, ((⟨b, off, none⟩ : Addr).add i).add j = ⟨b, off + (i + j), none⟩ := by
        intro i j
        unfold Addr.add
        by_cases hi : i = 0 <;> by_cases hj : j = 0 <;> simp [hi, hj, Nat.add_assoc]
      rw [hadd] at c0
      refine ⟨b, off, rfl, block_lt_of_cell c0, fun j u hu => ?_⟩
      have hlen2 := (List.getElem?_eq_some_iff.1 hu).1
      rw [Zg] at hlen2
      have hq : j / e.sz < l.length := Nat.div_lt_of_lt_mul (by rw [Nat.mul_comm]; exact hlen2)
      have hk : j % e.sz < e.sz := Nat.mod_lt _ h0
      have hj : j = j / e.sz * e.sz + j % e.sz := by rw [Nat.mul_comm]; exact (Nat.div_add_mod j e.sz).symm
      have hce := cell (j / e.sz) hq (j % e.sz) hk
      rw [hadd, ← hj] at hce
      rw [hce]
      have hgt := Nw e (l := l) (i := j / e.sz) (x := l[j / e.sz]) (List.getElem?_eq_getElem hq) (j := j % e.sz) (u := (e.enc l[j / e.sz])[j % e.sz]'(by rw [e.len]; exact hk)) (List.getElem?_eq_getElem _)
      rw [← hj, hu] at hgt
      rw [List.getElem?_eq_getElem (by rw [e.len]; exact hk), ← hgt]
    · simp only [DataW.weights, ht, List.all_cons, Bool.and_eq_true, decide_eq_true_eq, List.all_append] at hw
      refine ⟨Nat.le_trans (Nat.mul_le_mul_right _ (by simp; omega)) hw.1, fun b hb => ?_⟩
      obtain ⟨j, hj, rfl⟩ := List.mem_iff_getElem.1 hb
      refine (hlg j hj).2 _ (List.getElem?_eq_getElem (by omega)) r ?_
      rw [List.all_eq_true] at hw ⊢
      intro m hm'
      exact hw.2.1 m (Du (List.mem_map.2 ⟨_, List.getElem_mem (by omega), rfl⟩) hm')
variable {r0 : Reach} {b0 : Nat}
theorem open_agg {t : TypeId} {fs : Array Field} {α : Type} {e : Enc α} {Q : Nat → α → Prop} (hs : P.underlying t = some (.struct fs)) (h : Rds enc P W t e Q) {v : Value} {d : DataW H} {p : List MemPlace} (hv : Value.okWide P W r0 b0 t v)
    (hd : DataW.Trod enc P W 0 (fun _ => true) true t v d p) (hr : ∀ n ∈ d.weights P t, n ≤ reachBytes) : ∃ a, v = .agg ⟨e.enc a⟩ ∧ Q reachBytes a := by
  obtain ⟨cs, rfl, hsz⟩ := okWide_struct hs hv
  obtain ⟨Xx, hf⟩ := hd
  obtain ⟨a, ha, hq⟩ := h Xx _ _ hf
  refine ⟨a, ?_, hq _ (by rw [List.all_eq_true]; intro n hn; exact decide_eq_true (hr n hn))⟩
  simp only [Value.cells] at ha
  rw [← ha]
end
end Go.Proofs.YtoflbpmbkmephaaGreatDoor
namespace Go.Proofs.YtoflbpmbkmephaaGreatDoor
theorem reachM : reachBytes ≤ 140737488355328 := by decide
section
variable {H : Type} {enc : TypeId × Value → H} {P : Program} {W : World}
theorem rds_ds {t te : TypeId} {α : Type} {e : Enc α} {Q : Nat → α → Prop} (p : Dp α) (ht : P.underlying t = some (.slice te)) (h : Rds enc P W te e Q) (hc : P.cellsOf te = e.sz) (h0 : 0 < e.sz) (hb : Nat.ble 1 (P.bytesOf te) = true) (hp : ∀ r a, Q r a → p.ok W a) :
    Rds enc P W t (eDS e) (fun r x => (dDS e p).ok W x ∧ x.2.2.length ≤ r ∧ ∀ a ∈ x.2.2, Q r a) := by
  intro Xx cs x hx
  obtain ⟨A, c, l, rfl, hr, hq⟩ := rds_row ht h hc h0 hx
  refine ⟨(A, c, l), rfl, fun r hw => ?_⟩
  obtain ⟨h1, h2⟩ := hq r hw
  exact ⟨⟨hr, fun y hy => hp r y (h2 y hy)⟩, Nat.le_trans (Nat.le_mul_of_pos_right _ (Nat.le_of_ble_eq_true hb)) h1, h2⟩
def NetQ (r : Nat) (n : Int × Int) : Prop := (Lit.int .u32 n.1).wf = true ∧ (Lit.int .i64 n.2).wf = true
def TokQ (r : Nat) (x : List UInt8 × List UInt8 × Int) : Prop := x.1.length ≤ r ∧ x.2.1.length ≤ r ∧ (Lit.int .i64 x.2.2).wf = true
def TenDQ (W : World) (r : Nat) (y : Qh) : Prop := y.1.length ≤ r ∧ (Lit.int .i64 y.2.1).wf = true ∧ (Lit.int .i64 y.2.2.1).wf = true ∧
  ((dDS eNet dT).ok W y.2.2.2.1 ∧ y.2.2.2.1.2.2.length ≤ r ∧ ∀ n ∈ y.2.2.2.1.2.2, NetQ r n) ∧ ((dDS eTok dT).ok W y.2.2.2.2 ∧ y.2.2.2.2.2.2.length ≤ r ∧ ∀ x ∈ y.2.2.2.2.2.2, TokQ r x)
def CfgQ (W : World) (r : Nat) (c : Int × Int × Int × Int × DS Qh) : Prop := (Lit.int .i64 c.1).wf = true ∧ (Lit.int .i64 c.2.1).wf = true ∧ (Lit.int .i64 c.2.2.1).wf = true ∧ (Lit.int .i64 c.2.2.2.1).wf = true ∧
  ((dDS V1 Fc).ok W c.2.2.2.2 ∧ c.2.2.2.2.2.2.length ≤ r ∧ ∀ y ∈ c.2.2.2.2.2.2, TenDQ W r y)
theorem net_rds : Rds enc Tryz.prog W 102 eNet NetQ :=
  Dg (l := [(50, 0), (3, 1)]) (by kernel_rfl) (by kernel_rfl) (N9 (Ro Tryz.underlying50) (by kernel_rfl) (K4 (Ro Tryz.underlying3) (by kernel_rfl)))
theorem tok_rds : Rds enc Tryz.prog W 37 eTok TokQ :=
  Dg (l := [(9, 0), (9, 1), (2, 2)]) (by kernel_rfl) (by kernel_rfl) (N9 (Kf Tryz.underlying9) (by kernel_rfl) (N9 (Kf Tryz.underlying9) (by kernel_rfl) (K4 (Ro Tryz.underlying2) (by kernel_rfl))))
theorem ten_rds : Rds enc Tryz.prog W 33 V1 (TenDQ W) :=
  Dg (l := [(9, 0), (3, 1), (3, 2), (30, 3), (31, 4)]) (by kernel_rfl) (by kernel_rfl)
    (N9 (Kf Tryz.underlying9) (by kernel_rfl) (N9 (Ro Tryz.underlying3) (by kernel_rfl) (N9 (Ro Tryz.underlying3) (by kernel_rfl)
      (N9 (rds_ds dT Tryz.underlying30 net_rds (by kernel_rfl) (by decide) (by kernel_rfl) (fun _ _ _ => trivial)) (by kernel_rfl) (K4 (rds_ds dT Tryz.underlying31 tok_rds (by kernel_rfl) (by decide) (by kernel_rfl) (fun _ _ _ => trivial)) (by kernel_rfl))))))
theorem cfg_rds : Rds enc Tryz.prog W 24 (Qf (Q4 .i64) (Qf (Q4 .i64) (Qf (Q4 .i64) (Qf (Q4 .i64) (eDS V1))))) (CfgQ W) :=
  Dg (l := [(2, 0), (2, 1), (2, 2), (2, 3), (22, 4)]) (by kernel_rfl) (by kernel_rfl)
    (N9 (Ro Tryz.underlying2) (by kernel_rfl) (N9 (Ro Tryz.underlying2) (by kernel_rfl) (N9 (Ro Tryz.underlying2) (by kernel_rfl) (N9 (Ro Tryz.underlying2) (by kernel_rfl)
      (K4 (rds_ds Fc Tryz.underlying22 ten_rds (by kernel_rfl) (by decide) (by kernel_rfl) (fun _ _ h => ⟨trivial, trivial, trivial, h.2.2.2.1.1, h.2.2.2.2.1⟩)) (by kernel_rfl))))))
theorem open_cfg {r0 : Reach} {b0 : Nat} {v : Value} {d : DataW H} {p : List MemPlace} (hv : Value.okWide Tryz.prog W r0 b0 24 v) (hd : DataW.Trod enc Tryz.prog W 0 (fun _ => true) true 24 v d p) (hr : ∀ n ∈ d.weights Tryz.prog 24, n ≤ reachBytes) :
    ∃ (a b c e : Int) (A : Option Addr) (k : Nat) (l : List Qh), v = .agg #[.int .i64 a, .int .i64 b, .int .i64 c, .int .i64 e, .slice A (List.length (List.map stT l)) k] ∧ CfgQ W reachBytes (a, b, c, e, A, k, l) := by
  obtain ⟨⟨a, b, c, e, A, k, l⟩, rfl, q⟩ := open_agg Tryz.underlying24 cfg_rds hv hd hr
  refine ⟨a, b, c, e, A, k, l, ?_, q⟩
  rw [List.length_map]
  rfl
theorem cfg_q {W : World} {a b c d : Int} {A : Option Addr} {k : Nat} {x : List Qh} (h : CfgQ W reachBytes (a, b, c, d, A, k, x)) : (List.map stT x).length ≤ 140737488355328 ∧ ∀ t ∈ List.map stT x, TenQ t := by
  have hM := reachM
  obtain ⟨_, _, _, _, _, h1, h2⟩ := h
  refine ⟨by rw [List.length_map]; exact Nat.le_trans h1 hM, fun t ht => ?_⟩
  obtain ⟨y, hy, rfl⟩ := List.mem_map.1 ht
  obtain ⟨q1, q2, q3, ⟨_, q4, q5⟩, _, q6, q7⟩ := h2 y hy
  refine ⟨Nat.le_trans q1 hM, Nat.le_trans q4 hM, Nat.le_trans q6 hM, fun n hn => ?_, fun z hz => ⟨Nat.le_trans (q7 z hz).1 hM, Nat.le_trans (q7 z hz).2.1 hM⟩⟩
  have := (q5 n hn).1
  simp [Lit.wf, IntKind.min, IntKind.max, IntKind.signed, IntKind.bits] at this
  omega
end
end Go.Proofs.YtoflbpmbkmephaaGreatDoor
