import Derived.Test.YtoflbpmbkmephaaGreatDoorPkConfigBack3
set_option linter.unusedSimpArgs false
set_option linter.unusedVariables false
set_option linter.unusedSectionVars false
set_option maxRecDepth 100000
set_option maxHeartbeats 40000000
namespace Go.Proofs.YtoflbpmbkmephaaGreatDoor
open Go.RowKit Go.Shelf
attribute [local go_sem] Oper.semAt_some
def bodyKeep {α : Type} (K : List Nat) (I : List α → World → Prop) (Ix : Code → List α → World → Prop) (xs : List α) (W : World) : Exit → Act → World → Prop
  | .normal, _, W' => (∀ k ∈ K, W'.heap[k]? = W.heap[k]?) ∧ I xs W'
  | .ret, _, W' => (∀ k ∈ K, W'.heap[k]? = W.heap[k]?) ∧ Ix .ret xs W'
  | .exit id, _, W' => (∀ k ∈ K, W'.heap[k]? = W.heap[k]?) ∧ Ix (.exit id) xs W'
  | .goto t, _, W' => (∀ k ∈ K, W'.heap[k]? = W.heap[k]?) ∧ Ix (.goto t) xs W'
  | _, _, _ => False
def SeqKeep {α : Type} (P : Program) (m gf : Nat) (lb : Array Value) (encs : α → Array Value) (T : List Nat) (S : List α) (w : World) : Prop :=
  ∀ (l : Nat) (J Jx : List α → World → Prop) (W : World),
    (∀ pre W1 k (v : Value), k ∈ T → J pre W1 → J pre (W1.setCell ⟨k, 0, none⟩ v)) → (∀ pre W1, J pre W1 → J pre W1.drew) →
    (∀ pre x W1, J pre W1 → (∃ q, pre ++ x :: q = S) → YieldAt Fence.wide (m - 1) P l (encs x) W1 fun e W' =>
      (e = .returned (.bool true) ∧ J (pre ++ [x]) W' ∧ ∀ k ∈ T, W'.heap[k]? = W1.heap[k]?) ∨ (e = .returned (.bool false) ∧ Jx (pre ++ [x]) W')) →
    (∀ k ∈ T, W.heap[k]? = w.heap[k]?) → J [] W →
    CallsIn Fence.wide m P gf (#[.func (.yield l) #[] #[]] ++ lb) W fun e W' => (∃ v, e = .returned v) ∧ (J S W' ∨ ∃ pre, pre <+: S ∧ Jx pre W')
theorem Lp {α : Type} {P : Program} {g : Operand} {ps : Array Tmp} {assign body : Code} {Q : Exit → Act → World → Prop} {a : Act} {w : World} {m gf : Nat} {lb : Array Value}
    (hg : a.eval g = .func (.func gf) #[] lb) (eg : ∀ args w, (callFunc gf args).run P w = .ok (.enter gf args) w) {encs : α → Array Value} (hps : ∀ x, (encs x).size = ps.size)
    (T : List Nat) (hT : ∀ k ∈ T, k < w.heap.size) {S : List α} (iter : SeqKeep P (m - 1) gf lb encs T S w)
    (I : List α → World → Prop) (Ix : Code → List α → World → Prop) (hI : ∀ xs W W', I xs W → Mod (T ++ [w.heap.size, w.heap.size + 1]) W W' → I xs W') (hIx : ∀ c xs W W', Ix c xs W → Mod (T ++ [w.heap.size, w.heap.size + 1]) W W' → Ix c xs W')
    (h0 : I [] w) (a₁ : α → Act)
    (hassign : ∀ (l : Nat) (x : α) (W : World) (K : Act → World → Prop), K (a₁ x) W →
      assign.wpIn (Fence.wide.inRound l) (m - 1 - 1) P (Exit.then K (fun _ _ _ => False)) { tmps := (ps.zip (encs x)).foldl (fun t (p, v) => t.setIfInBounds p v) a.tmps, defers := [] } W)
    (hbody : ∀ (l : Nat) (pre : List α) (x : α) (W : World), I pre W → w.heap.size + 2 ≤ W.heap.size → (∃ q, pre ++ x :: q = S) → body.wpIn (Fence.wide.inRound l) (m - 1 - 1) P (bodyKeep (T ++ [w.heap.size, w.heap.size + 1]) I Ix (pre ++ [x]) W) (a₁ x) W)
    (hdone : ∀ (W : World), I S W → W.heap[w.heap.size]? = some (.deferred (some [])) → Q .normal { a with defers := { target := .collected w.heap.size, args := #[] } :: a.defers } W)
    (hstop : ∀ (c : Code) (pre : List α) (W : World), pre <+: S → Ix c pre W → W.heap[w.heap.size]? = some (.deferred (some [])) → c.wpIn Fence.wide m P Q { a with defers := { target := .collected w.heap.size, args := #[] } :: a.defers } W) :
    (Code.rangeFunc g ps assign body).wpIn Fence.wide m P Q a w := by
  refine wpIn_rangeFunc fun fn _ => ?_
  have hnT : ∀ j, w.heap.size ≤ j → j ∉ T := fun j hj hm => by have := hT j hm; omega
  generalize hrec : (fun st pe => ({ state := st, pending := pe, fn, tmps := a.tmps, params := ps, assign, body, defers := w.heap.size } : Loop)) = rec
  have hr1 : ∀ st pe, (rec st pe).state = st := fun st pe => by rw [← hrec]
  generalize hW1 : (w.alloc (.deferred (some []))).alloc (.loop (rec .ready none)) = W1
  have hmod1 : Mod (T ++ [w.heap.size, w.heap.size + 1]) w W1 := by rw [← hW1]; exact ((Mod.refl _ w).alloc _).alloc _
  have hL1 : W1.heap[w.heap.size + 1]? = some (.loop (rec .ready none)) := by
    rw [← hW1]
    have := World.alloc_heap_new (w.alloc (.deferred (some []))) (.loop (rec .ready none))
    rwa [World.size_alloc] at this
  have hK1 : W1.heap[w.heap.size]? = some (.deferred (some [])) := by
    rw [← hW1]
    exact (Below.heap_alloc _ _ _ (by simp)).trans (World.alloc_heap_new w _)
  have pb : ∀ (W : World) (o : Obj), Mod (T ++ [w.heap.size, w.heap.size + 1]) W (W.putObj (w.heap.size + 1) o) := fun W o => (Uf W _ o).more (by simp)
  refine ⟨w.heap.size + 1, [{ target := .collected w.heap.size, args := #[] }], W1, { target := .fn (.func gf) lb, args := #[.func (.yield (w.heap.size + 1)) #[] #[]] }, W1, gf, #[.func (.yield (w.heap.size + 1)) #[] #[]] ++ lb, W1, ?_, ?_, fun _ _ => trivial, ?_, fun h => (by cases h), ?_⟩
  · rw [← hW1, ← hrec]
    exact run_enterLoop_outer _ _ _ _ _
  · simp only [resolve, hg]
    simp [go_sem]
  · simp [invoke, go_sem, eg]
  · refine (iter (w.heap.size + 1) (fun pre W => I pre W ∧ W.heap[w.heap.size + 1]? = some (.loop (rec .ready none)) ∧ W.heap[w.heap.size]? = some (.deferred (some [])))
      (fun pre W => ∃ c, Ix c pre W ∧ W.heap[w.heap.size + 1]? = some (.loop (rec .done (some c))) ∧ W.heap[w.heap.size]? = some (.deferred (some []))) W1 ?_ ?_ ?_ ?_ ⟨hI _ _ _ h0 hmod1, hL1, hK1⟩).mono ?_
    · rintro pre W k v hk ⟨h1, h2, h3⟩
      have hlt := hT k hk
      exact ⟨hI _ _ _ h1 ((C8 W k v).more fun j hj => by
        have : j = k := by simpa using hj
        subst this
        simp [hk]), (Xz (by omega)).trans h2, (Xz (by omega)).trans h3⟩
    · rintro pre W ⟨h1, h2, h3⟩
      exact ⟨hI _ _ _ h1 (Xg ((Below.refl _ W).drew) _), h2, h3⟩
    · rintro pre x W ⟨hi, hl, hk⟩ hq
      have hlt : w.heap.size + 1 < W.heap.size := (Array.getElem?_eq_some_iff.1 hl).1
      have hy := run_yield (P := P) (args := encs x) hl (by rw [← hrec]; exact hps x)
      rw [← hrec] at hy
      dsimp only at hy
      refine ⟨fn, _, assign, body, hy, ?_⟩
      refine roundIn_of_wpIn trivial ?_
      refine hassign _ x W _ ?_
      refine ⟨_, run_beginRound hl (hr1 _ _), ?_⟩
      generalize hW2 : W.putObj (w.heap.size + 1) (.loop { rec .ready none with state := .busy }) = W2
      have hm2 : Mod (T ++ [w.heap.size, w.heap.size + 1]) W W2 := by rw [← hW2]; exact pb W _
      have hs2 : W2.heap.size = W.heap.size := by rw [← hW2]; simp
      have hl2 : W2.heap[w.heap.size + 1]? = some (.loop { rec .ready none with state := .busy }) := by rw [← hW2]; exact World.putObj_heap_same hlt
      have hk2 : W2.heap[w.heap.size]? = some (.deferred (some [])) := by rw [← hW2]; exact (World.putObj_heap_other (by omega)).trans hk
      have hT2 : ∀ k ∈ T, W2.heap[k]? = W.heap[k]? := fun k hkT => by rw [← hW2]; exact World.putObj_heap_other (by have := hT k hkT; omega)
      refine wpIn_mono (hbody _ pre x W2 (hI _ _ _ hi hm2) (by omega) hq) ?_
      have fin : ∀ (jump : Option Code) (W3 : World), (∀ k ∈ T ++ [w.heap.size, w.heap.size + 1], W3.heap[k]? = W2.heap[k]?) → ∃ W4, (Instr.endRound (w.heap.size + 1) jump).run P W3 = .ok (.bool jump.isNone) W4 ∧ Mod (T ++ [w.heap.size, w.heap.size + 1]) W3 W4 ∧
          W4.heap[w.heap.size + 1]? = some (.loop (rec (if jump.isNone then .ready else .done) jump)) ∧ W4.heap[w.heap.size]? = some (.deferred (some [])) ∧ ∀ k ∈ T, W4.heap[k]? = W.heap[k]? := fun jump W3 hk3 => by
        have hl3 : W3.heap[w.heap.size + 1]? = some (.loop { rec .ready none with state := .busy }) := (hk3 _ (by simp)).trans hl2
        have hd3 : W3.heap[w.heap.size]? = some (.deferred (some [])) := (hk3 _ (by simp)).trans hk2
        have hrun := run_endRound (P := P) jump hl3
        refine ⟨_, hrun, pb W3 _, ?_, (World.putObj_heap_other (by omega)).trans hd3, fun k hkT => ?_⟩
        · rw [World.putObj_heap_same (Array.getElem?_eq_some_iff.1 hl3).1, ← hrec]
        · have := hT k hkT
          exact (World.putObj_heap_other (by omega)).trans ((hk3 _ (by simp [hkT])).trans (hT2 k hkT))
      rintro e a3 W3 hp
      cases e with
      | normal =>
        obtain ⟨W4, h1, h2, h3, h4, h5⟩ := fin none W3 hp.1
        exact ⟨_, _, h1, .inl ⟨rfl, ⟨hI _ _ _ hp.2 h2, h3, h4⟩, h5⟩⟩
      | ret =>
        obtain ⟨W4, h1, h2, h3, h4, h5⟩ := fin (some .ret) W3 hp.1
        exact ⟨_, _, h1, .inr ⟨rfl, .ret, hIx _ _ _ _ hp.2 h2, h3, h4⟩⟩
      | exit id =>
        obtain ⟨W4, h1, h2, h3, h4, h5⟩ := fin (some (.exit id)) W3 hp.1
        exact ⟨_, _, h1, .inr ⟨rfl, .exit id, hIx _ _ _ _ hp.2 h2, h3, h4⟩⟩
      | goto t =>
        obtain ⟨W4, h1, h2, h3, h4, h5⟩ := fin (some (.goto t)) W3 hp.1
        exact ⟨_, _, h1, .inr ⟨rfl, .goto t, hIx _ _ _ _ hp.2 h2, h3, h4⟩⟩
      | panic ch => exact hp.elim
      | outgrown => exact hp.elim
    · intro k hk
      have := hT k hk
      rw [← hW1]
      exact (Below.heap_alloc _ _ _ (by simp; omega)).trans (Below.heap_alloc _ _ _ this)
    · rintro e W2 ⟨⟨v, rfl⟩, (⟨hi, hl, hk⟩ | ⟨pre, hpre, c, hi, hl, hk⟩)⟩
      · have hend := run_endLoop (P := P) hl (by rw [hr1]; simp)
        rw [show (rec .ready none).pending = none by rw [← hrec]] at hend
        exact ⟨none, _, hend, hdone _ (hI _ _ _ hi (pb W2 _)) ((World.putObj_heap_other (by omega)).trans hk)⟩
      · have hend := run_endLoop (P := P) hl (by rw [hr1]; simp)
        rw [show (rec .done (some c)).pending = some c by rw [← hrec]] at hend
        exact ⟨some c, _, hend, hstop c pre _ hpre (hIx _ _ _ _ hi (pb W2 _)) ((World.putObj_heap_other (by omega)).trans hk)⟩
end Go.Proofs.YtoflbpmbkmephaaGreatDoor
namespace Go.Proofs.YtoflbpmbkmephaaGreatDoor
open Go.RowKit Go.Shelf
attribute [local go_sem] Oper.semAt_some
def Yt : List UInt8 → List (List UInt8)
  | [] => []
  | x :: r => if x = 10 then [x] :: Yt r else match Yt r with | [] => [[x]] | p :: ps => (x :: p) :: ps
theorem Kc {s : List UInt8} (hs : s ≠ []) : (Lib.indexByte s 10 = -1 ∧ Yt s = [s] ∧ (10 : UInt8) ∉ s) ∨ ∃ i : Nat, Lib.indexByte s 10 = (i : Int) ∧ i < s.length ∧ s[i]? = some 10 ∧ (10 : UInt8) ∉ s.take i ∧ Yt s = s.take (i + 1) :: Yt (s.drop (i + 1)) := by
  induction s with
  | nil => exact absurd rfl hs
  | cons x r ih =>
    by_cases h : x = 10
    · subst h
      refine .inr ⟨0, ?_, by simp, rfl, by simp, ?_⟩
      · simp [Lib.indexByte]
      · simp [Yt]
    · have hb : (x == 10) = false := by simpa using h
      by_cases hr : r = []
      · subst hr
        refine .inl ⟨?_, ?_, ?_⟩
        · simp [Lib.indexByte, hb]
        · unfold Yt; rw [if_neg h]; rfl
        · simp; exact fun e => h e.symm
      · rcases ih hr with ⟨h1, h2, h3⟩ | ⟨i, h1, h2, h3, h4, h5⟩
        · refine .inl ⟨?_, ?_, ?_⟩
          · simp [Lib.indexByte, hb, h1]
          · unfold Yt; rw [if_neg h, h2]
          · simp [h3]; exact fun e => h e.symm
        · refine .inr ⟨i + 1, ?_, by simpa using h2, by simpa using h3, ?_, ?_⟩
          · have h0 : (Lib.indexByte r 10 == -1) = false := by rw [h1, beq_eq_false_iff_ne]; omega
            simp only [Lib.indexByte, hb, h0, h1]
            simp
          · simp [h4]; exact fun e => h e.symm
          · rw [List.take_succ_cons, List.drop_succ_cons]
            conv => lhs; unfold Yt
            rw [if_neg h, h5]
def LBox (W : World) (b : Nat) (r : List UInt8) : Prop := W.heap[b]? = some (.cells #[.string ⟨r.toArray⟩] 9 (0, 0))
theorem Ri {W : World} {b : Nat} {r : List UInt8} (h : LBox W b r) : Bu W b = r.length := by
  unfold Bu
  rw [N4 h]
  exact Ji r
theorem Lq (m : Nat) (l b : Nat) (s : List UInt8) (hs : s.length ≤ maxLen) (J Jx : List (List UInt8) → World → Prop)
    (hJ : ∀ pre W1 (v : Value), J pre W1 → J pre (W1.setCell ⟨b, 0, none⟩ v)) (hJd : ∀ pre W1, J pre W1 → J pre W1.drew)
    (hY : ∀ pre x r W1, J pre W1 → LBox W1 b r → (∃ q, pre ++ x :: q = Yt s) → YieldAt Fence.wide (m - 1) Tryz.prog l #[.string ⟨x.toArray⟩] W1 fun e W' =>
      (e = .returned (.bool true) ∧ J (pre ++ [x]) W' ∧ W'.heap[b]? = W1.heap[b]?) ∨ (e = .returned (.bool false) ∧ Jx (pre ++ [x]) W'))
    (W : World) (hB : LBox W b s) (h0 : J [] W) :
    CallsIn Fence.wide m Tryz.prog 88 #[.func (.yield l) #[] #[], .pointer (some ⟨b, 0, none⟩)] W fun e W' => (∃ v, e = .returned v) ∧
      (J (Yt s) W' ∨ (∃ pre, pre <+: Yt s ∧ Jx pre W')) := by
  have c1 := N4 hB
  refine callsIn_of_wp Tryz.func88 rfl trivial ?_ rfl
  simp only [Tryz.ntmps88, List.size_toArray, List.length_cons, List.length_nil, Nat.reduceAdd, Nat.reduceSub, Array.replicate_succ, Array.replicate_zero, List.push_toArray, List.append_toArray, List.nil_append, List.cons_append]
  gi_wp2
  gi_loopw [4] (fun p wr => ∃ (pre : List (List UInt8)) (r : List UInt8), LBox wr b r ∧ pre ++ Yt r = Yt s ∧ r.length ≤ maxLen ∧ J pre wr) (fun p wr => Bu wr b)
  case atStart => exact ⟨[], s, hB, rfl, hs, h0⟩
  case round =>
    obtain ⟨pre, r, hb, hp, hr, hj⟩ := hrel
    have c1 := N4 hb
    have f1 := Gj hb
    have hrs := Ji r
    unfold maxLen at hr
    by_cases d : r = []
    · subst d
      gi_wp2
      go_end0
      exact ⟨⟨_, rfl⟩, .inl (by rw [← hp]; simpa [Yt] using hj)⟩
    · have hpos : 0 < r.length := List.length_pos_iff.2 d
      rcases Kc d with ⟨h1, h2, h3⟩ | ⟨i, h1, h2, h3, h4, h5⟩
      · have h1' : Lib.indexByte (⟨r.toArray⟩ : ByteArray).data.toList (10 : Int).toNat.toUInt8 = -1 := h1
        have a : LBox (wr.setCell ⟨b, 0, none⟩ (.string ⟨#[]⟩)) b [] := Yz hb
        obtain ⟨fn, tmps, assign, body, hy, hR⟩ := hY pre r [] (wr.setCell ⟨b, 0, none⟩ (.string ⟨#[]⟩)) (hJ _ _ _ hj) a ⟨[], by rw [← hp, h2]⟩
        gi_wp2_with (refine ⟨trivial, fun hh => (by cases hh), ?_⟩; gi_at_call 89; refine (callsIn_wide.2 (Tryz.strings_IndexByte (⟨r.toArray⟩ : ByteArray) 10 wr)).mono ?_; rintro e W3 ⟨rfl, rfl⟩; rw [h1'])
        refine ⟨fun hh => (by cases hh), ?_⟩
        refine hR.mono ?_
        rintro e W3 (⟨rfl, hJ3, hk⟩ | ⟨rfl, hJx3⟩)
        · have c : LBox W3 b [] := hk.trans a
          gi_wp2
          refine ⟨⟨pre ++ [r], [], c, by rw [← hp, h2]; simp [Yt], by simp, hJ3⟩, ?_⟩
          rw [Ri c, Ri hb]
          exact hpos
        · gi_wp2
          refine bodyPost_ret (results_none rfl _ _ _) rfl ?_
          exact ⟨⟨_, rfl⟩, .inr ⟨pre ++ [r], by rw [← hp, h2]; exact List.prefix_refl _, hJx3⟩⟩
      · have h1' : Lib.indexByte (⟨r.toArray⟩ : ByteArray).data.toList (10 : Int).toNat.toUInt8 = (i : Int) := h1
        gi_wp2_with (refine ⟨trivial, fun hh => (by cases hh), ?_⟩; gi_at_call 89; refine (callsIn_wide.2 (Tryz.strings_IndexByte (⟨r.toArray⟩ : ByteArray) 10 wr)).mono ?_; rintro e W3 ⟨rfl, rfl⟩; rw [h1'])
        gi_region
        have hex := Nz r 0 (i + 1) (by omega)
        rw [List.drop_zero] at hex
        have hex2 := Nz r (i + 1) r.length (Nat.le_refl _)
        rw [List.take_length] at hex2
        rw [hex, hex2]
        have a : LBox ((W3.setCell ⟨b, 0, none⟩ (.string ⟨(r.drop (i + 1)).toArray⟩)).drew) b (r.drop (i + 1)) := Yz hb
        obtain ⟨fn, tmps, assign, body, hy, hR⟩ := hY pre (r.take (i + 1)) (r.drop (i + 1)) _ (hJd _ _ (hJ _ _ _ hj)) a ⟨Yt (r.drop (i + 1)), by rw [← hp, h5]⟩
        gi_wp2
        refine ⟨fun hh => (by cases hh), ?_⟩
        refine hR.mono ?_
        rintro e W4 (⟨rfl, hJ3, hk⟩ | ⟨rfl, hJx3⟩)
        · have c : LBox W4 b (r.drop (i + 1)) := hk.trans a
          gi_wp2
          refine ⟨⟨pre ++ [r.take (i + 1)], r.drop (i + 1), c, by rw [← hp, h5]; simp, by unfold maxLen; rw [List.length_drop]; omega, hJ3⟩, ?_⟩
          rw [Ri c, Ri hb, List.length_drop]
          omega
        · gi_wp2
          refine bodyPost_ret (results_none rfl _ _ _) rfl ?_
          exact ⟨⟨_, rfl⟩, .inr ⟨pre ++ [r.take (i + 1)], ⟨Yt (r.drop (i + 1)), by rw [← hp, h5]; simp⟩, hJx3⟩⟩
end Go.Proofs.YtoflbpmbkmephaaGreatDoor
namespace Go.Proofs.YtoflbpmbkmephaaGreatDoor
open Go.RowKit Go.Shelf
attribute [local go_sem] Oper.semAt_some
abbrev StP := Int × Int × Int × Int × List Qb × Int × Bool
def Lr (st : StP) (x : List UInt8) : Option (Bool × StP) := Zo st.1 st.2.1 st.2.2.1 st.2.2.2.1 st.2.2.2.2.1 st.2.2.2.2.2.1 st.2.2.2.2.2.2 x
def Jt : List (List UInt8) → StP → Option (Sum Int StP)
  | [], st => some (.inr st)
  | x :: xs, st => (Lr st x).bind fun r => cond r.1 (Jt xs r.2) (some (.inl st.2.2.2.2.2.1))
theorem G2 : ∀ (pre ys : List (List UInt8)) (st : StP), Jt (pre ++ ys) st = (Jt pre st).bind fun z => match z with | .inl a => some (.inl a) | .inr st => Jt ys st
  | [], ys, st => rfl
  | x :: pre, ys, st => by
    rw [List.cons_append]
    cases h : Lr st x with
    | none => simp only [Jt, h, Option.bind_none]
    | some r =>
      obtain ⟨b, r⟩ := r
      cases b
      · simp only [Jt, h, Option.bind_some, cond_false]
      · simp only [Jt, h, Option.bind_some, cond_true]
        exact G2 pre ys r
def st0P : StP := (0, 0, 0, 0, [], 0, false)
def Zg (s : List UInt8) : Option (Int × Int × Int × Int × List Qb × Int × Int) :=
  cond (decide (((List.length s : Nat) : Int) > 4096)) (some (0, 0, 0, 0, [], 2, 0))
    ((Jt (Yt s) st0P).bind fun z => match z with
      | .inl a => some (0, 0, 0, 0, [], 91, a)
      | .inr st => cond (st.2.2.2.2.2.1 == 0) (some (0, 0, 0, 0, [], 91, 0)) (some (st.1, st.2.1, st.2.2.1, st.2.2.2.1, st.2.2.2.2.1, 0, 0)))
theorem lines_any (s : ByteArray) (w : World) : Calls Tryz.prog 40 #[.string s] w fun e w' =>
    e = .returned (.func (.func 88) #[] #[.pointer (some ⟨w.heap.size, 0, none⟩)]) ∧ w' = w.alloc (.cells #[.string s] 9) := by
  go_enter Tryz.func40, Tryz.ntmps40
  go_wp2
  go_ret
  exact ⟨rfl, rfl⟩
theorem SP.other {w W W' : World} {es : List Ent} {K : List Nat} (h : SP [] w W es) (hm : Mod K W W') (h1 : ∀ k ∈ K, w.heap.size ≤ k) (h2 : ∀ e ∈ es, ∀ k ∈ e.fp, k ∉ K) : SP [] w W' es :=
  ⟨⟨hm.os.trans h.mod.os, hm.tape.trans h.mod.tape, hm.output.trans h.mod.output, Nat.le_trans h.mod.size hm.size, fun k hk hn => (hm.block k (Nat.lt_of_lt_of_le hk h.mod.size) fun hk' => by have := h1 k hk'; omega).trans (h.mod.block k hk hn)⟩,
    h.own.keep hm.size fun e he k hk => hm.block k (h.own.mem he |>.2 k hk).2 (h2 e he k hk)⟩
theorem SP.nilten {S : List Nat} {w W : World} {es : List Ent} (h : SP S w W es) : SP S w W (es ++ [Jh none 0 []]) :=
  h.push (Below.refl _ _) ⟨World.ownsRow_nil W 0 _ _, ⟨fun y hy => (by cases hy), List.nodup_nil⟩, List.nodup_nil⟩ (fun k hk => (by cases hk))
theorem Nb {fn : Func} {P : Program} {w : World} {a b c : Tmp} {ta tb tc : TypeId} (h : fn.results = #[.cell a ta, .cell b tb, .cell c tc]) (tmps : Array Value) {g1 g2 g3 : Nat} {c1 c2 c3 : Array Value} {e1 e2 e3 : TypeId} {v1 v2 v3 : Value}
    (t1 : tmps.getD a undef = .pointer (some ⟨g1, 0, none⟩)) (t2 : tmps.getD b undef = .pointer (some ⟨g2, 0, none⟩)) (t3 : tmps.getD c undef = .pointer (some ⟨g3, 0, none⟩))
    (h1 : w.heap[g1]? = some (.cells c1 e1 (0, 0))) (h2 : w.heap[g2]? = some (.cells c2 e2 (0, 0))) (h3 : w.heap[g3]? = some (.cells c3 e3 (0, 0))) (l1 : Fu P ta 0 c1 = some v1) (l2 : Fu P tb 0 c2 = some v2) (l3 : Fu P tc 0 c3 = some v3) :
    (results fn tmps).run P w = .ok (.tuple #[v1, v2, v3]) w := by
  have k1 := Nu (w := w) l1 h1
  have k2 := Nu (w := w) l2 h2
  have k3 := Nu (w := w) l3 h3
  have t1' : tmps[a]?.getD undef = .pointer (some ⟨g1, 0, none⟩) := by simpa using t1
  have t2' : tmps[b]?.getD undef = .pointer (some ⟨g2, 0, none⟩) := by simpa using t2
  have t3' : tmps[c]?.getD undef = .pointer (some ⟨g3, 0, none⟩) := by simpa using t3
  simp [results, h, t1', t2', t3', asAddr, Sem.run_bind, Result.andThen, k1, k2, k3]
theorem SP.cell1 {S : List Nat} {w w0 : World} {es : List Ent} {i g off : Nat} {t : TypeId} {cs : Array Value} (v : Value) (hs : SP S w0 w es) (hi : es[i]? = some (Qv g t cs)) : SP S w0 (w.setCell ⟨g, off, none⟩ v) (es.set i (Qv g t (cs.setIfInBounds off v))) := by
  have hg : w.heap[g]? = some (.cells cs t (0, 0)) := hs.get hi
  have hlt : g < w.heap.size := (Array.getElem?_eq_some_iff.1 hg).1
  refine hs.set hi (T := [g]) ((Mod.refl [g] w).setCell (p := ⟨g, off, none⟩) (.inl (by simp)) _) (fun k hk => hk) ?_ fun k hk => ⟨.inl hk, ?_⟩
  · show (w.setCell ⟨g, off, none⟩ _).heap[g]? = _
    simp [World.setCell, hg, Array.getElem?_modify]
  · have : k = g := by simpa [Qv] using hk
    subst this
    simpa [World.setCell] using hlt
theorem J9 {W : World} {b off : Nat} {cs : Array Value} {v : Value} {t : TypeId} (h : W.heap[b]? = some (.cells cs t (0, 0))) (hv : cs[off]? = some v) : W.cell? ⟨b, off, none⟩ = some v := by rw [cell_of_row W b off _ t _ h]; exact hv
theorem Jl {W : World} {b off : Nat} {cs : Array Value} {t : TypeId} (h : W.heap[b]? = some (.cells cs t (0, 0))) : W.frozen? ⟨b, off, none⟩ = false := by simp [World.frozen?, h]
theorem V5 {W : World} {b off k : Nat} {v : Value} (h : k ≠ b) : (W.setCell ⟨b, off, none⟩ v).heap[k]? = W.heap[k]? := by
  simp [World.setCell, Array.getElem?_modify, Ne.symm h]
theorem alloc_at' {w : World} {o : Obj} {k : Nat} (h : k = w.heap.size) : (w.alloc o).heap[k]? = some o := by subst h; exact World.alloc_heap_new w o
def cfg0 : Array Value := #[.int .i64 0, .int .i64 0, .int .i64 0, .int .i64 0, .slice none 0 0]
def Ia (g : Nat) (st : StP) (A : Option Addr) (c : Nat) (d : List Qs) : List Ent :=
  [Qv g 24 cfg0, Qv (g + 1) 27 #[.int .i64 0], Qv (g + 1 + 1) 3 #[.int .i64 0],
    Qv (g + 1 + 1 + 1) 72 #[.int .i64 st.1, .int .i64 st.2.1, .int .i64 st.2.2.1, .int .i64 st.2.2.2.1, .slice A (List.length (List.map stT d)) c, .int .i64 st.2.2.2.2.2.1, .bool st.2.2.2.2.2.2],
    Qv (g + 1 + 1 + 1 + 1) 70 #[.pointer (some ⟨g + 1 + 1 + 1, 0, none⟩)], Jh A c d]
theorem Yc (s : List UInt8) (w : World) (hL : Nd w) (r : Int × Int × Int × Int × List Qb × Int × Int) (H : Zg s = some r) :
    Calls Tryz.prog 16 #[.string ⟨List.toArray s⟩] w (fun e w' => ∃ (A : Option Addr) (c : Nat) (d : List Qs), e = .returned (.tuple #[(.agg #[(.int .i64 r.1), (.int .i64 r.2.1), (.int .i64 r.2.2.1), (.int .i64 r.2.2.2.1), (.slice A (List.length (List.map stT d)) c)]), (.int .i64 r.2.2.2.2.2.1), (.int .i64 r.2.2.2.2.2.2)]) ∧ r.2.2.2.2.1 = List.map stT d ∧ SP [] w w' [Jh A c d]) := by
  refine (callsIn_wide (n := 3)).1 ?_
  refine callsIn_of_wp_marks Tryz.func16 rfl trivial ?_ rfl
  simp only [Tryz.ntmps16, List.size_toArray, List.length_cons, List.length_nil, Nat.reduceAdd, Nat.reduceSub, Array.replicate_succ, Array.replicate_zero, List.push_toArray, List.append_toArray, List.nil_append, List.cons_append]
  by_cases hlen : (4096 : Int) < ((List.length s : Nat) : Int)
  · have hr : r = (0, 0, 0, 0, [], 2, 0) := by
      unfold Zg at H
      rw [show decide (((List.length s : Nat) : Int) > 4096) = true from decide_eq_true hlen] at H
      injection H with H
      exact H.symm
    subst hr
    have s3 := (((Q2 [] w).alloc (t := 24) (cs := #[.int .i64 0, .int .i64 0, .int .i64 0, .int .i64 0, .slice none 0 0])).alloc (t := 27) (cs := #[.int .i64 2])).alloc (t := 3) (cs := #[.int .i64 0])
    gi_wp2
    refine ⟨_, Nb rfl _ rfl rfl rfl (s3.get (i := 0) rfl) (by have h := s3.get (i := 1) rfl; rw [World.size_alloc] at h; exact h) (by have h := s3.get (i := 2) rfl; rw [World.size_alloc, World.size_alloc] at h; exact h) (by kernel_rfl) (by kernel_rfl) (by kernel_rfl), none, 0, [], rfl, rfl, ?_⟩
    exact (s3.nilten).erase 0 rfl |>.erase 0 rfl |>.erase 0 rfl
  · gi_wp2_with (refine ⟨trivial, ?_⟩; gi_at_call 40; refine (callsIn_wide.2 (lines_any _ _)).mono ?_; rintro e w' ⟨rfl, rfl⟩)
    have hsl : s.length ≤ maxLen := by unfold maxLen; omega
    have hz : ∃ z, Jt (Yt s) st0P = some z := by
      unfold Zg at H
      rw [show decide (((List.length s : Nat) : Int) > 4096) = false from decide_eq_false (by omega)] at H
      obtain ⟨z, hz, _⟩ := Qd (show (Jt (Yt s) st0P).bind _ = some r from H)
      exact ⟨z, hz⟩
    obtain ⟨z, hz⟩ := hz
    have s5 := ((((((Q2 [] w).alloc (t := 24) (cs := #[.int .i64 0, .int .i64 0, .int .i64 0, .int .i64 0, .slice none 0 0])).alloc (t := 27) (cs := #[.int .i64 0])).alloc (t := 3) (cs := #[.int .i64 0])).alloc (t := 72) (cs := #[.int .i64 0, .int .i64 0, .int .i64 0, .int .i64 0, .slice none 0 0, .int .i64 0, .bool false])).alloc (t := 70) (cs := #[.pointer (some ⟨w.heap.size + 1 + 1 + 1, 0, none⟩)])).nilten
    simp only [World.size_alloc, List.nil_append, List.cons_append] at s5
    have s6 := s5.below ((Below.refl _ _).alloc (Nat.le_refl _) (.cells #[.string ⟨s.toArray⟩] 9))
    generalize hw6 : ((((((w.alloc (Obj.cells #[Value.int IntKind.i64 0, Value.int IntKind.i64 0, Value.int IntKind.i64 0, Value.int IntKind.i64 0, Value.slice none 0 0] 24)).alloc (Obj.cells #[Value.int IntKind.i64 0] 27)).alloc (Obj.cells #[Value.int IntKind.i64 0] 3)).alloc (Obj.cells #[Value.int IntKind.i64 0, Value.int IntKind.i64 0, Value.int IntKind.i64 0, Value.int IntKind.i64 0, Value.slice none 0 0, Value.int IntKind.i64 0, Value.bool false] 72)).alloc (Obj.cells #[Value.pointer (some { block := w.heap.size + 1 + 1 + 1, off := 0 })] 70)).alloc (Obj.cells #[Value.string { data := s.toArray }] 9)) = w6 at s6 ⊢
    have hsz6 : w6.heap.size = w.heap.size + 6 := by rw [← hw6]; simp
    have hbox : LBox w6 (w.heap.size + 1 + 1 + 1 + 1 + 1) s := by rw [← hw6]; exact alloc_at' (by simp)
    clear hw6
    refine Lp (gf := 88) (lb := #[.pointer (some ⟨w.heap.size + 1 + 1 + 1 + 1 + 1, 0, none⟩)]) rfl (enters_of Tryz.func88 (by kernel_rfl) rfl) (encs := fun x : List UInt8 => #[.string ⟨x.toArray⟩]) (fun _ => rfl) [w.heap.size + 1 + 1 + 1 + 1 + 1]
      (by intro k hk; simp at hk; omega) (S := Yt s) ?iter
      (fun pre W => ∃ (st : StP) (A : Option Addr) (c : Nat) (d : List Qs), Jt pre st0P = some (.inr st) ∧ st.2.2.2.2.1 = List.map stT d ∧ SP [] w W (Ia w.heap.size st A c d) ∧ (∀ k ∈ (Jh A c d).fp, k < w.heap.size + 5 ∨ w.heap.size + 8 ≤ k))
      (fun c pre W => c = .ret ∧ ∃ a, Jt (Yt s) st0P = some (.inl a) ∧ SP [] w W [Qv w.heap.size 24 cfg0, Qv (w.heap.size + 1) 27 #[.int .i64 91], Qv (w.heap.size + 1 + 1) 3 #[.int .i64 a]]) ?hI ?hIx
      ⟨st0P, none, 0, [], rfl, rfl, s6, fun k hk => by cases hk⟩
      (fun x => { tmps := #[.string ⟨s.toArray⟩, undef, .pointer (some ⟨w.heap.size, 0, none⟩), .pointer (some ⟨w.heap.size + 1, 0, none⟩), .pointer (some ⟨w.heap.size + 1 + 1, 0, none⟩), .pointer (some ⟨w.heap.size + 1 + 1 + 1 + 1, 0, none⟩), .string ⟨x.toArray⟩, undef, .string ⟨s.toArray⟩, .int .i64 ((List.length s : Nat) : Int), .bool false, undef,
        .agg #[.int .i64 0, .int .i64 0, .int .i64 0, .int .i64 0, .slice none 0 0, .int .i64 0, .bool false], .pointer (some ⟨w.heap.size + 1 + 1 + 1, 0, none⟩), .string ⟨s.toArray⟩, .func (.func 88) #[] #[.pointer (some ⟨w.heap.size + 1 + 1 + 1 + 1 + 1, 0, none⟩)], .string ⟨x.toArray⟩, undef, undef, undef, undef, undef, undef, undef, undef, undef, undef, undef, undef, undef, undef, undef, undef, undef, undef, undef, undef], defers := [] }) ?assign ?body ?done ?stop
    case iter =>
      intro l J Jx W hJ hJd hY hT hJ0
      refine Lq _ l (w.heap.size + 1 + 1 + 1 + 1 + 1) s hsl J Jx (fun pre W1 v hj => hJ pre W1 _ v (by simp) hj) hJd (fun pre x r W1 hj hb hq => ?_) W ((hT _ (by simp)).trans hbox) hJ0
      obtain ⟨fn, tmps, assign, body, hy, hR⟩ := hY pre x W1 hj hq
      refine ⟨fn, tmps, assign, body, hy, hR.mono ?_⟩
      rintro e W' (⟨h1, h2, h3⟩ | h)
      · exact .inl ⟨h1, h2, h3 _ (by simp)⟩
      · exact .inr h
    case hI =>
      rintro xs W W' ⟨st, A, c, d, h1, h2, h3, h4⟩ hm
      refine ⟨st, A, c, d, h1, h2, h3.other hm (by intro k hk; simp at hk; omega) (fun e he k hk hK => ?_), h4⟩
      simp only [List.cons_append, List.nil_append, List.mem_cons, List.not_mem_nil, or_false, hsz6] at hK
      simp only [Ia, List.mem_cons, List.not_mem_nil, or_false] at he
      rcases he with rfl | rfl | rfl | rfl | rfl | rfl
      · have hk' : k = w.heap.size := by simpa [Qv] using hk
        omega
      · have hk' : k = w.heap.size + 1 := by simpa [Qv] using hk
        omega
      · have hk' : k = w.heap.size + 1 + 1 := by simpa [Qv] using hk
        omega
      · have hk' : k = w.heap.size + 1 + 1 + 1 := by simpa [Qv] using hk
        omega
      · have hk' : k = w.heap.size + 1 + 1 + 1 + 1 := by simpa [Qv] using hk
        omega
      · have := h4 k hk
        omega
    case hIx =>
      rintro cc xs W W' ⟨h0, a, h1, h3⟩ hm
      refine ⟨h0, a, h1, h3.other hm (by intro k hk; simp at hk; omega) (fun e he k hk hK => ?_)⟩
      simp only [List.cons_append, List.nil_append, List.mem_cons, List.not_mem_nil, or_false, hsz6] at hK
      simp only [List.mem_cons, List.not_mem_nil, or_false] at he
      rcases he with rfl | rfl | rfl
      · have hk' : k = w.heap.size := by simpa [Qv] using hk
        omega
      · have hk' : k = w.heap.size + 1 := by simpa [Qv] using hk
        omega
      · have hk' : k = w.heap.size + 1 + 1 := by simpa [Qv] using hk
        omega
    case assign =>
      intro l x W K hK
      gi_wp2
      exact hK
    case body =>
      rintro l pre x W ⟨⟨wa, gr, id, le, tl, mn, bd⟩, A, c, d, h1, h2, h3, h4⟩ hsz ⟨q, hq⟩
      have h2 : tl = List.map stT d := h2
      subst h2
      rw [hsz6] at hsz
      have hz' := hz
      rw [← hq, G2, h1] at hz'
      simp only [Option.bind_some, Jt] at hz'
      obtain ⟨⟨b, rs⟩, hrr, hz'⟩ := Qd hz'
      have b4 : W.heap[w.heap.size + 1 + 1 + 1 + 1]? = some (.cells #[.pointer (some ⟨w.heap.size + 1 + 1 + 1, 0, none⟩)] 70 (0, 0)) := h3.get (i := 4) rfl
      have c4 := N4 b4
      have b3 := h3.get (i := 3) rfl
      have c35 : W.cell? ⟨w.heap.size + 1 + 1 + 1, 5, none⟩ = some (.int .i64 mn) := by rw [cell_of_row W _ 5 _ _ _ b3]; rfl
      have hw := Gm (w.heap.size + 1 + 1 + 1) A c wa gr id le d mn bd x W (fun w' hm => Qw hL (Iu h3 (l := [3, 5]) rfl hm)) (Jw h3 [3, 5] rfl rfl) (b, rs) hrr
      have hfps : ∀ k, k ∈ (Ha (Ia w.heap.size (wa, gr, id, le, List.map stT d, mn, bd) A c d) [3, 5]).flatMap Ent.fp → k < w.heap.size + 5 ∨ w.heap.size + 8 ≤ k := by
        intro k hk
        obtain ⟨e, he, hke⟩ := List.mem_flatMap.1 hk
        obtain ⟨j, hj, hej⟩ := Gf he
        simp only [List.mem_cons, List.not_mem_nil, or_false] at hj
        rcases hj with rfl | rfl
        · injection hej with hej
          subst hej
          have hk' : k = w.heap.size + 1 + 1 + 1 := by simpa [Qv] using hke
          omega
        · injection hej with hej
          subst hej
          exact h4 k hke
      cases b with
      | true =>
        gi_wp2_with (refine ⟨trivial, ?_⟩; gi_at_call 41; refine (CallsIn.inRound l (callsIn_wide.2 hw)).mono ?_; rintro e W' ⟨A', c', d', rfl, hd', hs'⟩)
        have hl1 : Jt (pre ++ [x]) st0P = some (.inr rs) := by
          rw [G2, h1]
          simp only [Option.bind_some, Jt]
          rw [show Lr (wa, gr, id, le, List.map stT d, mn, bd) x = some (true, rs) from hrr]
          rfl
        have hsp : SP [] w W' (Ia w.heap.size rs A' c' d') := SP.sel (Z6 h3 [3, 5] [0, 1, 2, 4] rfl rfl hs' rfl) [0, 1, 2, 4, 3, 5] rfl rfl
        have hfp : ∀ k ∈ (Jh A' c' d').fp, k < w.heap.size + 5 ∨ w.heap.size + 8 ≤ k := fun k hk => by
          rcases ((hs'.own.get (i := 1) rfl).2 k hk).1 with h | h
          · omega
          · exact hfps k h
        have hkeep : ∀ k ∈ [w.heap.size + 1 + 1 + 1 + 1 + 1] ++ [w6.heap.size, w6.heap.size + 1], W'.heap[k]? = W.heap[k]? := fun k hk => by
          simp only [List.cons_append, List.nil_append, List.mem_cons, List.not_mem_nil, or_false, hsz6] at hk
          refine hs'.mod.block k (by omega) fun hk' => ?_
          have := hfps k hk'
          omega
        gi_wp2
        exact ⟨hkeep, rs, A', c', d', hl1, hd', hsp, hfp⟩
      | false =>
        have hstop : Jt (Yt s) st0P = some (.inl mn) := by
          rw [← hq, G2, h1]
          simp only [Option.bind_some, Jt]
          rw [show Lr (wa, gr, id, le, List.map stT d, mn, bd) x = some (false, rs) from hrr]
          rfl
        gi_wp2_with (refine ⟨trivial, ?_⟩; gi_at_call 41; refine (CallsIn.inRound l (callsIn_wide.2 hw)).mono ?_; rintro e W' ⟨A', c', d', rfl, hd', hs'⟩; have hsp : SP [] w W' (Ia w.heap.size rs A' c' d') := SP.sel (Z6 h3 [3, 5] [0, 1, 2, 4] rfl rfl hs' rfl) [0, 1, 2, 4, 3, 5] rfl rfl; have p0 := hsp.get (i := 0) rfl; have p1 := hsp.get (i := 1) rfl; have p2 := hsp.get (i := 2) rfl; have q0 := J9 (off := 0) p0 rfl; have q1 := J9 (off := 1) p0 rfl; have q2 := J9 (off := 2) p0 rfl; have q3 := J9 (off := 3) p0 rfl; have q4 := J9 (off := 4) p0 rfl; have q5 := J9 (off := 0) p1 rfl; have q6 := J9 (off := 0) p2 rfl; have f0 := Jl (off := 0) p0; have f1 := Jl (off := 1) p0; have f2 := Jl (off := 2) p0; have f3 := Jl (off := 3) p0; have f4 := Jl (off := 4) p0; have f5 := Jl (off := 0) p1; have f6 := Jl (off := 0) p2)
        have e7 := ((((((hsp.cell1 (off := 0) (.int .i64 0) (i := 0) rfl).cell1 (off := 1) (.int .i64 0) (i := 0) rfl).cell1 (off := 2) (.int .i64 0) (i := 0) rfl).cell1 (off := 3) (.int .i64 0) (i := 0) rfl).cell1 (off := 4) (.slice none 0 0) (i := 0) rfl).cell1 (off := 0) (.int .i64 91) (i := 1) rfl).cell1 (off := 0) (.int .i64 mn) (i := 2) rfl
        have hkeep : ∀ k ∈ [w.heap.size + 1 + 1 + 1 + 1 + 1] ++ [w6.heap.size, w6.heap.size + 1], W'.heap[k]? = W.heap[k]? := fun k hk => by
          simp only [List.cons_append, List.nil_append, List.mem_cons, List.not_mem_nil, or_false, hsz6] at hk
          refine hs'.mod.block k (by omega) fun hk' => ?_
          have := hfps k hk'
          omega
        refine ⟨fun k hk => ?_, rfl, mn, hstop, SP.sel e7 [0, 1, 2] rfl rfl⟩
        have hk2 := hkeep k hk
        simp only [List.cons_append, List.nil_append, List.mem_cons, List.not_mem_nil, or_false, hsz6] at hk
        exact (V5 (by omega)).trans ((V5 (by omega)).trans ((V5 (by omega)).trans ((V5 (by omega)).trans ((V5 (by omega)).trans ((V5 (by omega)).trans ((V5 (by omega)).trans hk2))))))
    case done =>
      rintro W ⟨⟨wa, gr, id, le, tl, mn, bd⟩, A, c, d, h1, h2, h3, h4⟩ hK
      rw [hsz6] at hK
      have h2 : tl = List.map stT d := h2
      subst h2
      unfold Zg at H
      rw [show decide (((List.length s : Nat) : Int) > 4096) = false from decide_eq_false (by omega)] at H
      have H : (Jt (Yt s) st0P).bind _ = some r := H
      rw [h1] at H
      have H : cond (mn == 0) (some ((0 : Int), (0 : Int), (0 : Int), (0 : Int), ([] : List Qb), (91 : Int), (0 : Int))) (some (wa, gr, id, le, List.map stT d, 0, 0)) = some r := H
      have p0 := h3.get (i := 0) rfl
      have p1 := h3.get (i := 1) rfl
      have p2 := h3.get (i := 2) rfl
      have p3 := h3.get (i := 3) rfl
      have p4 := h3.get (i := 4) rfl
      have q0 := J9 (off := 0) p0 rfl
      have q1 := J9 (off := 1) p0 rfl
      have q2 := J9 (off := 2) p0 rfl
      have q3 := J9 (off := 3) p0 rfl
      have q4 := J9 (off := 4) p0 rfl
      have q5 := J9 (off := 0) p1 rfl
      have q6 := J9 (off := 0) p2 rfl
      have f0 := Jl (off := 0) p0
      have f1 := Jl (off := 1) p0
      have f2 := Jl (off := 2) p0
      have f3 := Jl (off := 3) p0
      have f4 := Jl (off := 4) p0
      have f5 := Jl (off := 0) p1
      have f6 := Jl (off := 0) p2
      have r0 := J9 (off := 0) p3 rfl
      have r1 := J9 (off := 1) p3 rfl
      have r2 := J9 (off := 2) p3 rfl
      have r3 := J9 (off := 3) p3 rfl
      have r4 := J9 (off := 4) p3 rfl
      have r5 := J9 (off := 5) p3 rfl
      have u0 := J9 (off := 0) p4 rfl
      cases hm : (mn == 0) with
      | true =>
        rw [hm] at H
        injection H with H
        subst H
        gi_wp2
        have e7 := ((((((h3.cell1 (off := 0) (.int .i64 0) (i := 0) rfl).cell1 (off := 1) (.int .i64 0) (i := 0) rfl).cell1 (off := 2) (.int .i64 0) (i := 0) rfl).cell1 (off := 3) (.int .i64 0) (i := 0) rfl).cell1 (off := 4) (.slice none 0 0) (i := 0) rfl).cell1 (off := 0) (.int .i64 91) (i := 1) rfl).cell1 (off := 0) (.int .i64 0) (i := 2) rfl
        refine ⟨by simp, .inl ⟨_, _, rfl, run_takeDeferred ((V5 (by omega)).trans ((V5 (by omega)).trans ((V5 (by omega)).trans ((V5 (by omega)).trans ((V5 (by omega)).trans ((V5 (by omega)).trans ((V5 (by omega)).trans hK))))))), ?_⟩⟩
        have s2 := (SP.sel e7 [0, 1, 2, 5] rfl rfl : SP [] w _ [Qv w.heap.size 24 #[.int .i64 0, .int .i64 0, .int .i64 0, .int .i64 0, .slice none 0 0], Qv (w.heap.size + 1) 27 #[.int .i64 91], Qv (w.heap.size + 1 + 1) 3 #[.int .i64 0], Jh A c d]).other (Uf _ (w.heap.size + 6) (.deferred none)) (by intro k hk; simp at hk; omega) (fun e he k hk hK' => by
          simp only [List.mem_cons, List.not_mem_nil, or_false] at he hK'
          rcases he with rfl | rfl | rfl | rfl
          · have hk' : k = w.heap.size := by simpa [Qv] using hk
            omega
          · have hk' : k = w.heap.size + 1 := by simpa [Qv] using hk
            omega
          · have hk' : k = w.heap.size + 1 + 1 := by simpa [Qv] using hk
            omega
          · have := h4 k hk
            omega)
        exact ⟨_, Nb rfl _ rfl rfl rfl (s2.get (i := 0) rfl) (s2.get (i := 1) rfl) (s2.get (i := 2) rfl) (v1 := .agg #[.int .i64 0, .int .i64 0, .int .i64 0, .int .i64 0, .slice none 0 0]) (v2 := .int .i64 91) (v3 := .int .i64 0) (by kernel_rfl) (by kernel_rfl) (by kernel_rfl), none, 0, [], rfl, rfl, ((SP.sel s2 [] rfl rfl : SP [] w _ []).nilten)⟩
      | false =>
        rw [hm] at H
        injection H with H
        subst H
        gi_wp2
        have e7 := ((((((h3.cell1 (off := 0) (.int .i64 wa) (i := 0) rfl).cell1 (off := 1) (.int .i64 gr) (i := 0) rfl).cell1 (off := 2) (.int .i64 id) (i := 0) rfl).cell1 (off := 3) (.int .i64 le) (i := 0) rfl).cell1 (off := 4) (.slice A d.length c) (i := 0) rfl).cell1 (off := 0) (.int .i64 0) (i := 1) rfl).cell1 (off := 0) (.int .i64 0) (i := 2) rfl
        refine ⟨by simp, .inl ⟨_, _, rfl, run_takeDeferred ((V5 (by omega)).trans ((V5 (by omega)).trans ((V5 (by omega)).trans ((V5 (by omega)).trans ((V5 (by omega)).trans ((V5 (by omega)).trans ((V5 (by omega)).trans hK))))))), ?_⟩⟩
        have s2 := (SP.sel e7 [0, 1, 2, 5] rfl rfl : SP [] w _ [Qv w.heap.size 24 #[.int .i64 wa, .int .i64 gr, .int .i64 id, .int .i64 le, .slice A d.length c], Qv (w.heap.size + 1) 27 #[.int .i64 0], Qv (w.heap.size + 1 + 1) 3 #[.int .i64 0], Jh A c d]).other (Uf _ (w.heap.size + 6) (.deferred none)) (by intro k hk; simp at hk; omega) (fun e he k hk hK' => by
          simp only [List.mem_cons, List.not_mem_nil, or_false] at he hK'
          rcases he with rfl | rfl | rfl | rfl
          · have hk' : k = w.heap.size := by simpa [Qv] using hk
            omega
          · have hk' : k = w.heap.size + 1 := by simpa [Qv] using hk
            omega
          · have hk' : k = w.heap.size + 1 + 1 := by simpa [Qv] using hk
            omega
          · have := h4 k hk
            omega)
        exact ⟨_, Nb rfl _ rfl rfl rfl (s2.get (i := 0) rfl) (s2.get (i := 1) rfl) (s2.get (i := 2) rfl) (v1 := .agg #[.int .i64 wa, .int .i64 gr, .int .i64 id, .int .i64 le, .slice A d.length c]) (v2 := .int .i64 0) (v3 := .int .i64 0) (by kernel_rfl) (by kernel_rfl) (by kernel_rfl), A, c, d, rfl, rfl, SP.sel s2 [3] rfl rfl⟩
    case stop =>
      rintro cc pre W hpre ⟨rfl, a, ha, hsp⟩ hK
      rw [hsz6] at hK
      unfold Zg at H
      rw [show decide (((List.length s : Nat) : Int) > 4096) = false from decide_eq_false (by omega)] at H
      have H : (Jt (Yt s) st0P).bind _ = some r := H
      rw [ha] at H
      have H : some ((0 : Int), (0 : Int), (0 : Int), (0 : Int), ([] : List Qb), (91 : Int), a) = some r := H
      injection H with H
      subst H
      gi_wp2
      refine ⟨by simp, .inl ⟨_, _, rfl, run_takeDeferred hK, ?_⟩⟩
      have s2 := hsp.other (Uf W (w.heap.size + 6) (.deferred none)) (by intro k hk; simp at hk; omega) (fun e he k hk hK' => by
        simp only [List.mem_cons, List.not_mem_nil, or_false] at he hK'
        rcases he with rfl | rfl | rfl
        · have hk' : k = w.heap.size := by simpa [Qv] using hk
          omega
        · have hk' : k = w.heap.size + 1 := by simpa [Qv] using hk
          omega
        · have hk' : k = w.heap.size + 1 + 1 := by simpa [Qv] using hk
          omega)
      exact ⟨_, Nb rfl _ rfl rfl rfl (s2.get (i := 0) rfl) (s2.get (i := 1) rfl) (s2.get (i := 2) rfl) (v1 := .agg #[.int .i64 0, .int .i64 0, .int .i64 0, .int .i64 0, .slice none 0 0]) (v2 := .int .i64 91) (v3 := .int .i64 a) (by kernel_rfl) (by kernel_rfl) (by kernel_rfl), none, 0, [], rfl, rfl, (s2.nilten).erase 0 rfl |>.erase 0 rfl |>.erase 0 rfl⟩
end Go.Proofs.YtoflbpmbkmephaaGreatDoor
namespace Go.Proofs.YtoflbpmbkmephaaGreatDoor
open Go.RowKit
def Fk : List Str → U5 → Nat → Sum Nat (U5 × Nat)
  | [], c, n => .inr (c, n)
  | p :: ps, c, n => match Cj c (decide (n = 0)) (Qp 32 p) with
    | none => .inl n
    | some c' => Fk ps c' (n + 1)
def Ib (e : Int) (n : Nat) : Int × Int × Int × Int × List Qb × Int × Int := (0, 0, 0, 0, [], e, (n : Int))
def finC (r : Sum Nat (U5 × Nat)) (rest : Str) : Int × Int × Int × Int × List Qb × Int × Int := match r with
  | .inl n => Ib 91 n
  | .inr (c, n) => if rest ≠ [] ∨ n = 0 then Ib 91 n else (c.1, c.2.1, c.2.2.1, c.2.2.2.1, c.2.2.2.2, 0, 0)
def Rp (s : Str) : Int × Int × Int × Int × List Qb × Int × Int :=
  if 4096 < s.length then Ib 2 0 else finC (Fk (Qp 10 s).dropLast c0C 0) ((Qp 10 s).getLastD [])
theorem Fl {c c' : U5} {f : Bool} {ws : List Str} (h : Cj c f ws = some c') : ∃ k q, ws = k :: q ∧ ((k == Zl) == f) = true ∧ Nn c k q = some c' ∧ okC c' = true := by
  cases ws with
  | nil => cases h
  | cons k q =>
    have h : (if (k == Zl) == f then (Nn c k q).filter okC else none) = some c' := h
    split at h
    · rename_i hf
      rw [Option.filter_eq_some_iff] at h
      exact ⟨k, q, rfl, hf, h.1, h.2⟩
    · cases h
theorem line_bnd {c c' : U5} {f : Bool} {p : Str} (hc : Ka 0 c) (hp : p.length ≤ 5000) (h : Cj c f (Qp 32 p) = some c') : Ka 0 c' ∧ okC c' = true := by
  obtain ⟨k, q, hs, _, hw, ho⟩ := Fl h
  have hl := Ue 32 p
  rw [hs] at hl
  exact ⟨okC_bnd (Kx hc (fun w hm => Nat.le_trans (hl w (by simp [hm])) hp) hw) ho, ho⟩
theorem bnd_c0 : Ka 0 c0C := ⟨Nat.zero_le _, fun t ht => by cases ht⟩
theorem Ek : ∀ s : Str, Yt s = (Qp 10 s).dropLast.map (· ++ [10]) ++ (if (Qp 10 s).getLastD [] = [] then [] else [(Qp 10 s).getLastD []])
  | [] => rfl
  | x :: r => by
    have ih := Ek r
    unfold Yt Qp
    by_cases h : x = 10
    · subst h
      rw [if_pos rfl, if_pos rfl, ih]
      cases hs : Qp 10 r with
      | nil => exact absurd hs (Yw 10 r)
      | cons p ps => simp [List.dropLast, List.getLastD_cons]
    · rw [if_neg h, if_neg h, ih]
      cases hs : Qp 10 r with
      | nil => exact absurd hs (Yw 10 r)
      | cons p ps =>
        cases ps with
        | nil =>
          by_cases hp : p = []
          · subst hp; simp
          · simp [hp]
        | cons p2 ps => simp [List.dropLast, List.getLastD_cons]
def stC (c : U5) (n : Nat) : StP := (c.1, c.2.1, c.2.2.1, c.2.2.2.1, c.2.2.2.2, (n : Int), false)
theorem El : ∀ (ps : List Str) (c : U5) (n : Nat), Ka 0 c → (n = 0 → c = c0C) → n + ps.length ≤ 1000000 → (∀ p ∈ ps, p.length ≤ 5000) →
    Jt (ps.map (· ++ [10])) (stC c n) = some (match Fk ps c n with | .inl a => .inl (a : Int) | .inr (c', n') => .inr (stC c' n')) ∧ (∀ c' n', Fk ps c n = .inr (c', n') → n' = n + ps.length ∧ Ka 0 c' ∧ (n' = 0 → c' = c0C) ∧ (0 < ps.length → okC c' = true))
  | [], c, n, hc, hn, _, _ => ⟨rfl, fun c' n' h => by
      injection h with h
      injection h with h1 h2
      subst h1 h2
      exact ⟨rfl, hc, hn, fun h => absurd h (by simp)⟩⟩
  | p :: ps, c, n, hc, hn, hl, hp => by
    obtain ⟨z, hz, hr⟩ := pLineB c n p hc hn (by simp at hl; omega) (hp p (by simp))
    have hz' : Lr (stC c n) (p ++ [10]) = some z := hz
    rw [List.map_cons, Jt, hz', Option.bind_some]
    unfold Fk
    cases hw : Cj c (decide (n = 0)) (Qp 32 p) with
    | none =>
      rw [hw] at hr
      have hr : z.1 = false := hr
      rw [hr]
      exact ⟨rfl, fun c' n' h => by cases h⟩
    | some c1 =>
      rw [hw] at hr
      have hr : z = (true, c1.1, c1.2.1, c1.2.2.1, c1.2.2.2.1, c1.2.2.2.2, ((n + 1 : Nat) : Int), false) := hr
      subst hr
      obtain ⟨b1, b2⟩ := line_bnd hc (hp p (by simp)) hw
      obtain ⟨h1, h2⟩ := El ps c1 (n + 1) b1 (fun h => by omega) (by simp at hl; omega) fun q hq => hp q (by simp [hq])
      refine ⟨h1, fun c' n' h => ?_⟩
      obtain ⟨e1, e2, e3, e4⟩ := h2 c' n' h
      refine ⟨by simp; omega, e2, e3, fun _ => ?_⟩
      cases ps with
      | nil =>
        injection h with h
        injection h with h3 _
        rw [← h3]
        exact b2
      | cons _ _ => exact e4 (by simp)
theorem B1 (c : UInt8) (s : Str) : Qp c s = (Qp c s).dropLast ++ [(Qp c s).getLastD []] := by
  have hne := Yw c s
  conv => lhs; rw [← List.dropLast_concat_getLast hne]
  rw [List.getLastD_eq_getLast?, List.getLast?_eq_some_getLast hne]
  rfl
theorem Kz (c : UInt8) : ∀ (s p : Str), p ∈ Qp c s → c ∉ p
  | [], p, h => by
    have : p = [] := by simpa [Qp] using h
    subst this
    simp
  | x :: r, p, h => by
    have ih := Kz c r
    unfold Qp at h
    by_cases hx : x = c
    · rw [if_pos hx] at h
      rcases List.mem_cons.1 h with rfl | h
      · simp
      · exact ih p h
    · rw [if_neg hx] at h
      cases hs : Qp c r with
      | nil => exact absurd hs (Yw c r)
      | cons q qs =>
        rw [hs] at h ih
        rcases List.mem_cons.1 h with rfl | h
        · have := ih q (by simp)
          simp only [List.mem_cons, not_or]
          exact ⟨fun e => hx e.symm, this⟩
        · exact ih p (by simp [h])
theorem pParse (s : Str) : Zg s = some (Rp s) := by
  unfold Zg Rp
  by_cases hl : 4096 < s.length
  · rw [if_pos hl, show decide (((List.length s : Nat) : Int) > 4096) = true from decide_eq_true (by omega), cond_true]
    rfl
  · rw [if_neg hl, show decide (((List.length s : Nat) : Int) > 4096) = false from decide_eq_false (by omega), cond_false]
    have hlen := Ue 10 s
    have hcnt := Re 10 s
    have hc2 : s.count 10 ≤ s.length := List.count_le_length
    have hps : ∀ p ∈ (Qp 10 s).dropLast, p.length ≤ 5000 := fun p hp => by have := hlen p (List.dropLast_subset _ hp); omega
    have hdl : (Qp 10 s).dropLast.length = s.count 10 := by rw [List.length_dropLast]; omega
    obtain ⟨h1, h2⟩ := El (Qp 10 s).dropLast c0C 0 bnd_c0 (fun _ => rfl) (by omega) hps
    rw [Ek, G2, show st0P = stC c0C 0 from rfl, h1, Option.bind_some]
    have hlast := B1 10 s
    have hmem : (Qp 10 s).getLastD [] ∈ Qp 10 s := by
      rw [List.getLastD_eq_getLast?, List.getLast?_eq_some_getLast (Yw 10 s)]
      exact List.getLast_mem _
    cases hr : Fk (Qp 10 s).dropLast c0C 0 with
    | inl a => rfl
    | inr cn =>
      obtain ⟨c, n⟩ := cn
      obtain ⟨e1, e2, e3, e4⟩ := h2 c n hr
      by_cases hrest : (Qp 10 s).getLastD [] = []
      · rw [if_pos hrest]
        simp only [Jt, Option.bind_some, finC, hrest, ne_eq, not_true_eq_false, false_or]
        by_cases hn : n = 0
        · subst hn
          rfl
        · rw [if_neg hn, show ((stC c n).2.2.2.2.2.1 == 0) = false by rw [beq_eq_false_iff_ne]; show (n : Int) ≠ 0; omega]
          rfl
      · rw [if_neg hrest]
        have h10 := Kz 10 s _ hmem
        obtain ⟨z, hz, hz1⟩ := pLineE c (n : Int) ((Qp 10 s).getLastD []) (by have := hlen _ hmem; omega) (fun e => h10 (List.mem_of_getLast? e))
        have hz' : Lr (stC c n) ((Qp 10 s).getLastD []) = some z := hz
        simp only [Jt, hz', Option.bind_some, hz1, cond_false, finC]
        rw [if_pos (.inl hrest)]
        rfl
end Go.Proofs.YtoflbpmbkmephaaGreatDoor
namespace Go.Proofs.YtoflbpmbkmephaaGreatDoor
open Go.RowKit
def bl_ren : Go.Shelf.Ren := ⟨fun | 240 => 105 | 276 => 150 | n => n, fun | 70 => 91 | 72 => 93 | 164 => 175 | 20 => 20 | 9 => 9 | 4 => 4 | 37 => 48 | 5 => 5 | n => n, fun | n => n⟩
theorem bl_lays : Go.Proofs.Lays.n240 Tryz.prog bl_ren := {
  mixed := by kernel_rfl
  f240 := Tryz.func105.trans (congrArg some (by kernel_rfl))
  f276 := Tryz.func150.trans (congrArg some (by kernel_rfl))
  t0 := Tryz.underlying0
  a0 := Tryz.isAgg0
  z0 := Tryz.sizeOf0
  v0 := Tryz.zeroValue0
  t4 := Tryz.underlying4
  a4 := Tryz.isAgg4
  z4 := Tryz.sizeOf4
  v4 := Tryz.zeroValue4
  t9 := Tryz.underlying9
  a9 := Tryz.isAgg9
  z9 := Tryz.sizeOf9
  v9 := Tryz.zeroValue9
  t20 := Tryz.underlying20
  a20 := Tryz.isAgg20
  z20 := Tryz.sizeOf20
  v20 := Tryz.zeroValue20
  t70 := Tryz.underlying91
  a70 := Tryz.isAgg91
  z70 := Tryz.sizeOf91
  v70 := Tryz.zeroValue91
  t72 := Tryz.underlying93
  a72 := Tryz.isAgg93
  z72 := Tryz.sizeOf93
  v72 := Tryz.zeroValue93
  t164 := Tryz.underlying175
  a164 := Tryz.isAgg175
  z164 := Tryz.sizeOf175
  v164 := Tryz.zeroValue175 }
theorem bl_x : Builder.X72 Tryz.prog bl_ren := { sizeBuilder := by kernel_rfl, liesBuilder := by kernel_rfl }
def BP (g : Nat) (v : Value) : Prop := v = .pointer none ∨ v = .pointer (some ⟨g, 0, none⟩)
theorem Ez {S : List Nat} {g : Nat} {v x : Value} {w w0 : World} {es : List Ent} (hv : BP g v) (hs : SP S w0 w es) {i : Nat} (hi : es[i]? = some (Qv g 93 #[v, x])) :
    Calls Tryz.prog 105 #[.pointer (some ⟨g, 0, none⟩)] w (fun e w' => e = .returned (.tuple #[]) ∧ SP S w0 w' (es.set i (Qv g 93 #[.pointer (some ⟨g, 0, none⟩), x]))) := by
  have hg : w.heap[g]? = some (.cells #[v, x] 93 (0, 0)) := hs.get hi
  rcases hv with rfl | rfl
  · refine (Any.Builder_copyCheck_fresh bl_lays bl_x g w (by rw [cell_of_row w g 0 _ _ _ hg]; rfl) (by simp [World.shape?, hg]; rfl) (by simp [World.frozen?, hg])).mono ?_
    rintro e w' ⟨rfl, rfl⟩
    refine ⟨rfl, ?_⟩
    have hlt : g < w.heap.size := (Array.getElem?_eq_some_iff.1 hg).1
    refine hs.set hi (T := [g]) ((Mod.refl [g] w).setCell (p := ⟨g, 0, none⟩) (.inl (by simp)) _) (fun k hk => hk) ?_ fun k hk => ⟨.inl hk, ?_⟩
    · show (w.setCell ⟨g, 0, none⟩ _).heap[g]? = _
      simp [World.setCell, hg, Array.getElem?_modify]
    · have : k = g := by simpa [Qv] using hk
      subst this
      simpa [World.setCell] using hlt
  · refine (Any.Builder_copyCheck_used bl_lays bl_x g w (by rw [cell_of_row w g 0 _ _ _ hg]; rfl)).mono ?_
    rintro e w' ⟨rfl, rfl⟩
    refine ⟨rfl, ?_⟩
    have : es.set i (Qv g 93 #[.pointer (some ⟨g, 0, none⟩), x]) = es := by
      apply List.ext_getElem?
      intro j
      rw [List.getElem?_set]
      split
      · rename_i hij; subst hij
        split
        · exact hi.symm
        · rename_i hge; rw [List.getElem?_eq_none (by omega)]
      · rfl
    rw [this]
    exact hs
theorem Ls {g : Nat} {v : Value} {A : Option Addr} {c : Nat} {l : List UInt8} {w w0 : World} {es : List Ent} (hs : SP [] w0 w es) {i j : Nat} (hi : es[i]? = some (Qv g 93 #[v, .slice A (List.length l) c])) (hj : es[j]? = some (Vb 5 eU8 A c l)) (hij : i ≠ j) (hv : BP g v) :
    Calls Tryz.prog 62 #[.pointer (some ⟨g, 0, none⟩)] w (fun e w' => e = .returned (.string ⟨List.toArray l⟩) ∧ SP [] w0 w' []) := by
  have hg : w.heap[g]? = some (.cells #[v, .slice A (List.length l) c] 93 (0, 0)) := hs.get hi
  have hr : w.ownsRow 0 5 1 (.slice A l.length c) l.length (Q9 eU8 l) := hs.get hj
  have hb : w0.heap.size ≤ g := by
    rcases ((hs.own.get hi).2 g (by simp [Qv])).1 with h | h
    · exact h
    · cases h
  have hap := hs.own.apart hi hj hij
  have hcells : Q9 eU8 l = Lib.byteCells l := Fv l
  have hown : w.ownsRow w0.heap.size 5 1 (.slice A l.length c) (Lib.byteCells l).length (Lib.byteCells l) := by
    rw [← hcells, Zf, show eU8.sz = 1 from rfl, Nat.mul_one]
    refine ⟨hr.1, ?_⟩
    rcases hr.2 with h | ⟨q, cap, cur, h1, h2, h3⟩
    · exact .inl h
    · refine .inr ⟨q, cap, cur, h1, ?_, h3⟩
      injection h1 with h1 _ _
      subst h1
      rcases ((hs.own.get hj).2 q (by simp [Vb, row, Value.ownBlock])).1 with h | h
      · exact h
      · cases h
  have hne : (Value.slice A l.length c).ownBlock ≠ some g := by
    intro h
    exact hap g (by simp [Qv]) (by simp [Vb, row, h])
  have hat : Lib.BuilderAt 93 5 w0.heap.size g v (Lib.byteCells l) w := ⟨hb, _, hg, hown, hne⟩
  refine (Tryz.Builder_String_any w0.heap.size g l w ?_ hs.mod.size).mono ?_
  · rcases hv with rfl | rfl
    · exact .inl hat
    · exact .inr hat
  · rintro e w' ⟨rfl, hb'⟩
    refine ⟨rfl, ⟨?_, trivial⟩⟩
    exact Xg (hs.keeps.trans hb') []
end Go.Proofs.YtoflbpmbkmephaaGreatDoor
namespace Go.Proofs.YtoflbpmbkmephaaGreatDoor
open Go.RowKit
def Zu (q4 : (List UInt8)) (p7 : (List UInt8)) : Option (Int × (List UInt8)) :=
  ((app q4 p7).bind fun a => (some (((List.length p7 : Nat) : Int), a)))
set_option maxHeartbeats 40000000 in
theorem Uh {S : List Nat} (g1 : Nat) (v2 : Value) (A5 : Option Addr) (c6 : Nat) (q4 : (List UInt8)) (p7 : (List UInt8)) (w0 : World) (hO : SP S w0 w0 [Qv g1 93 #[v2, (.slice A5 (List.length q4) c6)], Vb 5 eU8 A5 c6 q4]) (u : BP g1 v2) (r : (Int × (List UInt8))) (H : Zu q4 p7 = some r) :
  Calls Tryz.prog 57 #[(pt g1 0), (.string ⟨List.toArray p7⟩)] w0 (fun e w' => ∃ (h : Option Addr) (j : Nat), e = .returned (.tuple #[(.int .i64 r.1), .nilIface]) ∧ SP S w0 w' [Qv g1 93 #[(pt g1 0), (.slice h (List.length r.2) j)], Vb 5 eU8 h j r.2]) := by
 unfold Zu at H
 refine Qx (n := 19) Tryz.func57 K K K ?_
 have w := hO
 refine aQ ?_
 refine aR ?_
 refine iR 2 2 [(4, (.int .i64 0)), (5, .nilIface)] ?_
 refine iF ?_
 refine aQ ?_
 refine aR ?_
 refine iR 1 1 [(6, (pt g1 0))] ?_
 refine iS 2 ?_
 refine cF 105 #[(.tmp 6)] #[91] 7 Tryz.call105 (Ez (g := g1) (v := v2) (x := (.slice A5 (List.length q4) c6)) u w (i := 0) rfl) ?_
 rintro e z ⟨rfl, o⟩
 refine ⟨_, rfl, ?_⟩
 have p : SP S w0 z [Qv g1 93 #[(pt g1 0), (.slice A5 (List.length q4) c6)], Vb 5 eU8 A5 c6 q4] := o
 clear o
 refine iF ?_
 refine aQ ?_
 refine aR ?_
 refine iR 4 4 [(8, (pt g1 0)), (9, (pt g1 0)), (10, (pt g1 0)), (11, (pt g1 1))] ?_
 refine iS 5 ?_
 refine sL 48 11 g1 1 0 (.slice A5 (List.length q4) c6) 12 p rfl ?_
 refine iR 1 6 [(13, (.string ⟨List.toArray p7⟩))] ?_
 obtain ⟨hl26, H⟩ := U8 H
 obtain ⟨q, hyl27⟩ : ∃ y, q4 ++ p7 = y := ⟨_, rfl⟩
 try rw [hyl27] at H
 refine iS 7 ?_
 refine Qh.append (e := eU8) (l := q4) (m := p7) (A := A5) (c := c6) (T := 48) (TX := 9) (E := 5) (b := 1) (s := (.tmp 12)) (x := (.tmp 13)) (i := 1) (vx := (.string ⟨List.toArray p7⟩)) (d := (some 14)) (k := 6) K rfl K K K K rfl p rfl (src_str K p7) hl26 ?_
 rw [hyl27]
 intro a f a2 a0
 refine iR 2 9 [(15, (pt g1 0)), (16, (pt g1 1))] ?_
 refine iS 10 ?_
 refine Qh.store (t := 48) (x := (.tmp 16)) (y := (.tmp 14)) (g := g1) (off := 1) (i := 0) (v := (.slice a (List.length q) f)) (cs' := #[(pt g1 0), (.slice a (List.length q) f)]) (d := none) (k := 9) K rfl K K a0 rfl K ?_
 intro a3 a1
 refine iF ?_
 refine aQ ?_
 refine aR ?_
 refine iR 4 4 [(17, (.string ⟨List.toArray p7⟩)), (18, (.int .i64 ((List.length p7 : Nat) : Int))), (4, (.int .i64 ((List.length p7 : Nat) : Int))), (5, .nilIface)] ?_
 refine iF ?_
 refine At.ret K ?_
 refine ⟨(.tuple #[(.int .i64 ((List.length p7 : Nat) : Int)), .nilIface]), K, ?_⟩
 obtain rfl := Qg H
 exact ⟨a, f, rfl, SP.sel a1 [0,1] rfl rfl⟩
def Xi (p1 : (List (List UInt8))) (q8 : (List UInt8)) : Option ((List UInt8)) :=
  ((Jb p1 ([32] : List UInt8)).bind fun a => ((app a ([10] : List UInt8)).bind fun b => ((Zu q8 b).bind fun c => (some (c.2)))))
set_option maxHeartbeats 40000000 in
theorem Yp {S : List Nat} (A2 : Option Addr) (c3 : Nat) (g5 : Nat) (v6 : Value) (A9 : Option Addr) (c : Nat) (p1 : (List (List UInt8))) (q8 : (List UInt8)) (w0 : World) (hO : SP S w0 w0 [Qv g5 93 #[v6, (.slice A9 (List.length q8) c)], Vb 5 eU8 A9 c q8]) (s : ∀ w, Mod S w0 w → RdT Qk w A2 c3 p1) (t : BP g5 v6) (r : ((List UInt8))) (H : Xi p1 q8 = some r) :
  Calls Tryz.prog 56 #[(.slice A2 (List.length p1) c3), (pt g5 0)] w0 (fun e w' => ∃ (j : Option Addr) (l : Nat), e = .returned (.tuple #[]) ∧ SP S w0 w' [Qv g5 93 #[(pt g5 0), (.slice j (List.length r) l)], Vb 5 eU8 j l r]) := by
 unfold Xi at H
 refine Qx (n := 7) Tryz.func56 K K K ?_
 have m := hO
 refine aR ?_
 refine iR 1 1 [(3, (.slice A2 (List.length p1) c3))] ?_
 obtain ⟨f, u, H⟩ := Qd H
 refine iS 2 ?_
 refine cF 58 #[(.tmp 3), (.const (.string ⟨List.toArray ([32] : List UInt8)⟩))] #[79, 9] 4 Tryz.call58 (N0 A2 c3 p1 ([32] : List UInt8) w0 (s w0 (SP.mod m)) f u) ?_
 rintro e v ⟨rfl, o⟩
 refine ⟨_, rfl, ?_⟩
 have p := SP.call m o
 clear o
 obtain ⟨hl36, H⟩ := U8 H
 obtain ⟨z, hyl35⟩ : ∃ y, f ++ ([10] : List UInt8) = y := ⟨_, rfl⟩
 rw [hyl35] at H
 refine iS 3 ?_
 refine G7 (T := 9) (T' := 9) (x := (.tmp 4)) (y := (.const (.string ⟨List.toArray ([10] : List UInt8)⟩))) (a := f) (b := ([10] : List UInt8)) (d := (some 5)) (k := 2) K rfl K K hl36 ?_
 rw [hyl35]
 obtain ⟨g, a0, H⟩ := Qd H
 refine iS 4 ?_
 refine cF 57 #[(.tmp 1), (.tmp 5)] #[93, 9] 6 Tryz.call57 (Uh g5 v6 A9 c q8 z v (Jw p [0, 1] rfl rfl) t g a0) ?_
 rintro e a1 ⟨h, i, rfl, q⟩
 refine ⟨_, rfl, ?_⟩
 have a2 : SP S w0 a1 [Qv g5 93 #[(pt g5 0), (.slice h (List.length g.2) i)], Vb 5 eU8 h i g.2] := Z6 p [0, 1] [] rfl rfl q rfl
 clear q
 refine iF ?_
 refine ⟨(.tuple #[]), K, ?_⟩
 obtain rfl := Qg H
 exact ⟨h, i, rfl, SP.sel a2 [0,1] rfl rfl⟩
def Xb (e : (List UInt8) → Int → Option ((List UInt8))) (k : (List UInt8) → Int → Option ((List UInt8))) (f : (List UInt8) → Int → Option ((List UInt8))) (g : Int) (c : Qb) (d : (List UInt8)) (b : Int) : Option ((List UInt8)) :=
  (cond (decide (b < ((List.length c.2.2.2.2 : Nat) : Int))) ((idx c.2.2.2.2 b).bind fun a => ((chk (Nat.ble (List.length a.2.1) 281474976710656)).bind fun _ => ((Nj a.2.1).bind fun h => ((V7 a.2.2).bind fun i => ((Xi ([([116, 111, 107, 101, 110] : List UInt8), a.1, h, i] : List (List UInt8)) d).bind fun j => (f j (IntKind.wrap .i64 (b + 1)))))))) (e d (IntKind.wrap .i64 (g + 1))))
def Xc (a : (List UInt8) → Int → Option ((List UInt8))) (b : (List UInt8) → Int → Option ((List UInt8))) (c : Int) (d : Qb) : Nat → (List UInt8) → Int → Option ((List UInt8))
  | 0, _, _ => none
  | f + 1, e, g => Xb a b (Xc a b c d f) c d e g
def Xd (f : (List UInt8) → Int → Option ((List UInt8))) (c : (List UInt8) → Int → Option ((List UInt8))) (g : Int) (a : Qb) (d : (List UInt8)) (b : Int) : Option ((List UInt8)) :=
  (cond (decide (b < ((List.length a.2.2.2.1 : Nat) : Int))) ((idx a.2.2.2.1 b).bind fun e => ((Je e.1 e.2).bind fun h => ((Xi ([([110, 101, 116] : List UInt8), h] : List (List UInt8)) d).bind fun i => (c i (IntKind.wrap .i64 (b + 1)))))) (Xc f c g a X0 d 0))
def Vt (a : (List UInt8) → Int → Option ((List UInt8))) (b : Int) (c : Qb) : Nat → (List UInt8) → Int → Option ((List UInt8))
  | 0, _, _ => none
  | f + 1, d, e => Xd a (Vt a b c f) b c d e
def Xe (e : (List UInt8) → Int → Option ((List UInt8))) (c : (List Qb)) (d : (List UInt8)) (b : Int) : Option ((List UInt8)) :=
  (cond (decide (b < ((List.length c : Nat) : Int))) ((idx c b).bind fun a => ((V7 a.2.1).bind fun f => ((V7 a.2.2.1).bind fun g => ((Xi ([([116, 101, 110, 97, 110, 116] : List UInt8), a.1, f, g] : List (List UInt8)) d).bind fun h => (Vt e b a X0 h 0))))) (some (d)))
def Q1 (a : (List Qb)) : Nat → (List UInt8) → Int → Option ((List UInt8))
  | 0, _, _ => none
  | f + 1, b, c => Xe  (Q1 a f) a b c
def Ys (a : Int) (b : Int) (c : Int) (d : Int) (e : (List Qb)) : Option ((List UInt8)) :=
  ((Zs a b c d e).bind fun f => (cond (!f) (some (([] : List UInt8))) ((V7 a).bind fun g => ((V7 b).bind fun h => ((V7 c).bind fun i => ((V7 d).bind fun j => ((Xi ([([116, 105, 109, 101, 115] : List UInt8), g, h, i, j] : List (List UInt8)) ([] : List UInt8)).bind fun k => (Q1 e X0 k 0))))))))
set_option maxHeartbeats 40000000 in
theorem Ud (A6 : Option Addr) (c7 : Nat) (b8 : Int) (b4 : Int) (b3 : Int) (b1 : Int) (d9 : (List Qs)) (w0 : World) (hL : Nd w0) (d0 : (dDS Zh Fa).ok w0 (A6, c7, d9)) (r : ((List UInt8))) (H : Ys b8 b4 b3 b1 (List.map stT d9) = some r) :
  Calls Tryz.prog 24 #[(.agg #[(.int .i64 b8), (.int .i64 b4), (.int .i64 b3), (.int .i64 b1), (.slice A6 (List.length (List.map stT d9)) c7)])] w0 (fun e w' => e = .returned (.string ⟨List.toArray r⟩) ∧ SP [] w0 w' []) := by
 unfold Ys at H
 refine Qx (n := 83) Tryz.func24 K K K ?_
 have n5 := Q2 [] w0
 refine aQ ?_
 refine aR ?_
 refine iS 1 ?_
 refine Z2 (t := 24) (x := (.tmp 0)) (v := (.agg #[(.int .i64 b8), (.int .i64 b4), (.int .i64 b3), (.int .i64 b1), (.slice A6 (List.length (List.map stT d9)) c7)])) (d := (some 1)) (k := 0) K rfl K n5 ?_
 intro u n6 e9
 refine iR 1 2 [(2, (.string ⟨List.toArray ([] : List UInt8)⟩))] ?_
 refine iF ?_
 refine aQ ?_
 refine aQ ?_
 refine aR ?_
 refine iS 1 ?_
 refine sL 24 1 u 0 0 (.agg #[(.int .i64 b8), (.int .i64 b4), (.int .i64 b3), (.int .i64 b1), (.slice A6 (List.length (List.map stT d9)) c7)]) 11 e9 rfl ?_
 obtain ⟨f9, n7, H⟩ := Qd H
 refine iS 2 ?_
 refine cF 22 #[(.tmp 11)] #[24] 12 Tryz.call22 (Xo A6 c7 b8 b4 b3 b1 d9 n6 (Qw hL (SP.keeps e9)) (Dp.sp d0 e9) f9 n7) ?_
 rintro e z0 ⟨rfl, i7⟩
 refine ⟨_, rfl, ?_⟩
 have i8 := SP.call e9 i7
 clear i7
 refine iR 1 3 [(13, (.bool (!f9)))] ?_
 refine iF ?_
 refine Z4 K (o := (.tmp 13)) K (b := (!f9)) K (fun g0 => ?_) (fun g0 => ?_)
 ·have H := ct H g0
  refine aQ ?_
  refine aR ?_
  refine iR 1 1 [(2, (.string ⟨List.toArray ([] : List UInt8)⟩))] ?_
  refine iF ?_
  refine At.ret K ?_
  refine ⟨(.string ⟨List.toArray ([] : List UInt8)⟩), K, ?_⟩
  obtain rfl := Qg H
  exact ⟨rfl, SP.sel i8 [] rfl rfl⟩
 ·have H := cf H g0
  refine At.skip K ?_
  refine aQ ?_
  refine aR ?_
  refine iS 1 ?_
  refine Qh.alloc (t := 93) (z := (.agg #[(.pointer none), (.slice none (List.length ([] : List UInt8)) 0)])) (d := (some 3)) (k := 0) K rfl K i8 ?_
  intro m z1 n8
  refine iF ?_
  refine aQ ?_
  refine aR ?_
  refine iR 2 2 [(14, (.func (.func 56) #[] #[(pt m 0)])), (4, (.func (.func 56) #[] #[(pt m 0)]))] ?_
  refine iF ?_
  refine aQ ?_
  obtain ⟨a2, n9, H⟩ := Qd H
  obtain ⟨a3, o0, H⟩ := Qd H
  obtain ⟨a5, o1, H⟩ := Qd H
  obtain ⟨a6, o2, H⟩ := Qd H
  obtain ⟨d4, o3, H⟩ := Qd H
  refine aG [GEq (.func (.func 56) #[] #[(pt m 0)]), GEq (pt u 0), GEq (.int .i64 b8), GEq (.string ⟨List.toArray a2⟩), GEq (pt u 1), GEq (.int .i64 b4), GEq (.string ⟨List.toArray a3⟩), GEq (pt u 2), GEq (.int .i64 b3), GEq (.string ⟨List.toArray a5⟩), GEq (pt u 3), GEq (.int .i64 b1), GEq (.string ⟨List.toArray a6⟩), Dd, GEq (.tuple #[])] [3, 6, 9, 12, 13, 14] [([], fun vs w => VL vs [] ∧ SP [] w0 w [Qv u 24 #[(.int .i64 b8), (.int .i64 b4), (.int .i64 b3), (.int .i64 b1), (.slice A6 (List.length (List.map stT d9)) c7)], Qv m 93 #[(.pointer none), (.slice none (List.length ([] : List UInt8)) 0)]]), ([3], fun vs w => VL vs [(.string ⟨List.toArray a2⟩)] ∧ SP [] w0 w [Qv u 24 #[(.int .i64 b8), (.int .i64 b4), (.int .i64 b3), (.int .i64 b1), (.slice A6 (List.length (List.map stT d9)) c7)], Qv m 93 #[(.pointer none), (.slice none (List.length ([] : List UInt8)) 0)]]), ([3, 6], fun vs w => VL vs [(.string ⟨List.toArray a2⟩), (.string ⟨List.toArray a3⟩)] ∧ SP [] w0 w [Qv u 24 #[(.int .i64 b8), (.int .i64 b4), (.int .i64 b3), (.int .i64 b1), (.slice A6 (List.length (List.map stT d9)) c7)], Qv m 93 #[(.pointer none), (.slice none (List.length ([] : List UInt8)) 0)]]), ([3, 6, 9], fun vs w => VL vs [(.string ⟨List.toArray a2⟩), (.string ⟨List.toArray a3⟩), (.string ⟨List.toArray a5⟩)] ∧ SP [] w0 w [Qv u 24 #[(.int .i64 b8), (.int .i64 b4), (.int .i64 b3), (.int .i64 b1), (.slice A6 (List.length (List.map stT d9)) c7)], Qv m 93 #[(.pointer none), (.slice none (List.length ([] : List UInt8)) 0)]]), ([3, 6, 9, 12], fun vs w => VL vs [(.string ⟨List.toArray a2⟩), (.string ⟨List.toArray a3⟩), (.string ⟨List.toArray a5⟩), (.string ⟨List.toArray a6⟩)] ∧ SP [] w0 w [Qv u 24 #[(.int .i64 b8), (.int .i64 b4), (.int .i64 b3), (.int .i64 b1), (.slice A6 (List.length (List.map stT d9)) c7)], Qv m 93 #[(.pointer none), (.slice none (List.length ([] : List UInt8)) 0)]]), ([3, 6, 9, 12, 13], fun vs w => ∃ (c5 : Nat), VL vs [(.string ⟨List.toArray a2⟩), (.string ⟨List.toArray a3⟩), (.string ⟨List.toArray a5⟩), (.string ⟨List.toArray a6⟩), (.slice (some ⟨c5, 0, none⟩) (List.length ([([116, 105, 109, 101, 115] : List UInt8), a2, a3, a5, a6] : List (List UInt8))) (List.length ([([116, 105, 109, 101, 115] : List UInt8), a2, a3, a5, a6] : List (List UInt8))))] ∧ SP [] w0 w [Qv u 24 #[(.int .i64 b8), (.int .i64 b4), (.int .i64 b3), (.int .i64 b1), (.slice A6 (List.length (List.map stT d9)) c7)], Qv m 93 #[(.pointer none), (.slice none (List.length ([] : List UInt8)) 0)], Vb 9 Qk (some ⟨c5, 0, none⟩) (List.length ([([116, 105, 109, 101, 115] : List UInt8), a2, a3, a5, a6] : List (List UInt8))) ([([116, 105, 109, 101, 115] : List UInt8), a2, a3, a5, a6] : List (List UInt8))]), ([3, 6, 9, 12, 13, 14], fun vs w => ∃ (g1 : Nat), ∃ (f0 : Option Addr), ∃ (f1 : Nat), VL vs [(.string ⟨List.toArray a2⟩), (.string ⟨List.toArray a3⟩), (.string ⟨List.toArray a5⟩), (.string ⟨List.toArray a6⟩), (.slice (some ⟨g1, 0, none⟩) (List.length ([([116, 105, 109, 101, 115] : List UInt8), a2, a3, a5, a6] : List (List UInt8))) (List.length ([([116, 105, 109, 101, 115] : List UInt8), a2, a3, a5, a6] : List (List UInt8)))), (.tuple #[])] ∧ SP [] w0 w [Qv u 24 #[(.int .i64 b8), (.int .i64 b4), (.int .i64 b3), (.int .i64 b1), (.slice A6 (List.length (List.map stT d9)) c7)], Vb 9 Qk (some ⟨g1, 0, none⟩) (List.length ([([116, 105, 109, 101, 115] : List UInt8), a2, a3, a5, a6] : List (List UInt8))) ([([116, 105, 109, 101, 115] : List UInt8), a2, a3, a5, a6] : List (List UInt8)), Qv m 93 #[(pt m 0), (.slice f0 (List.length d4) f1)], Vb 5 eU8 f0 f1 d4])] 15 6 ⟨trivial, SP.drew n8⟩ ?_ ?_
  iterate 15 refine And.intro ?_ ?_
  exact trivial
  ·exact oV (hC (hS 4 (.func (.func 56) #[] #[(pt m 0)])) (h0)) (.func (.func 56) #[] #[(pt m 0)])
  ·exact oV (hC (hS 1 (pt u 0)) (h0)) (pt u 0)
  ·refine oL 0 ?_
   ·rintro ρ' w' hs s ⟨z2, o4⟩
    refine kM (kc (kA s 1 16) k0) fun p => ?_
    refine sL 2 16 u 0 0 (.int .i64 b8) 17 o4 rfl ?_
    exact eK p
  ·refine oH 0 1 ?_
   ·rintro ρ' w' hs s ⟨z3, i9⟩
    refine kM (kc (kA s 2 17) k0) fun p => ?_
    refine cF 59 #[(.tmp 17)] #[2] 18 Tryz.call59 (V0  b8 w' (Qw hL (SP.keeps i9)) a2 n9) ?_
    rintro e z4 ⟨rfl, j0⟩
    refine ⟨_, rfl, ?_⟩
    have o5 := SP.call i9 j0
    clear j0
    refine ⟨_, Qa p, rfl, ?_⟩
    exact (And.intro (And.intro rfl (trivial)) o5)
  ·exact oV (hC (hS 1 (pt u 0)) (h0)) (pt u 1)
  ·refine Owe.light K [0, 1] K (Qc ?_ (Qc ?_ Vc))
   ·rintro ρ' w' hs s ⟨z5, o6⟩
    refine kM (kc (kA s 4 19) k0) fun p => ?_
    refine sL 2 19 u 1 0 (.int .i64 b4) 20 o6 rfl ?_
    exact eK p
   ·rintro ρ' w' hs s ⟨⟨z6, -⟩, o7⟩
    refine kM (kc (kA s 4 19) k0) fun p => ?_
    refine sL 2 19 u 1 0 (.int .i64 b4) 20 o7 rfl ?_
    exact eK p
  ·refine oH 1 2 ?_
   ·rintro ρ' w' hs s ⟨⟨o8, -⟩, j1⟩
    refine kM (kc (kA s 5 20) k0) fun p => ?_
    refine cF 59 #[(.tmp 20)] #[2] 21 Tryz.call59 (V0  b4 w' (Qw hL (SP.keeps j1)) a3 o0) ?_
    rintro e z7 ⟨rfl, j2⟩
    refine ⟨_, rfl, ?_⟩
    have o9 := SP.call j1 j2
    clear j2
    refine ⟨_, Qa p, rfl, ?_⟩
    exact (And.intro (And.intro o8 (And.intro rfl (trivial))) o9)
  ·exact oV (hC (hS 1 (pt u 0)) (h0)) (pt u 2)
  ·refine Owe.light K [0, 1, 2] K (Qc ?_ (Qc ?_ (Qc ?_ Vc)))
   ·rintro ρ' w' hs s ⟨z8, p0⟩
    refine kM (kc (kA s 7 22) k0) fun p => ?_
    refine sL 2 22 u 2 0 (.int .i64 b3) 23 p0 rfl ?_
    exact eK p
   ·rintro ρ' w' hs s ⟨⟨z9, -⟩, p1⟩
    refine kM (kc (kA s 7 22) k0) fun p => ?_
    refine sL 2 22 u 2 0 (.int .i64 b3) 23 p1 rfl ?_
    exact eK p
   ·rintro ρ' w' hs s ⟨⟨aa0, aa1, -⟩, p2⟩
    refine kM (kc (kA s 7 22) k0) fun p => ?_
    refine sL 2 22 u 2 0 (.int .i64 b3) 23 p2 rfl ?_
    exact eK p
  ·refine oH 2 3 ?_
   ·rintro ρ' w' hs s ⟨⟨p3, p4, -⟩, j3⟩
    refine kM (kc (kA s 8 23) k0) fun p => ?_
    refine cF 59 #[(.tmp 23)] #[2] 24 Tryz.call59 (V0  b3 w' (Qw hL (SP.keeps j3)) a5 o1) ?_
    rintro e aa2 ⟨rfl, j4⟩
    refine ⟨_, rfl, ?_⟩
    have p5 := SP.call j3 j4
    clear j4
    refine ⟨_, Qa p, rfl, ?_⟩
    exact (And.intro (And.intro p3 (And.intro p4 (And.intro rfl (trivial)))) p5)
  ·exact oV (hC (hS 1 (pt u 0)) (h0)) (pt u 3)
  ·refine Owe.light K [0, 1, 2, 3] K (Qc ?_ (Qc ?_ (Qc ?_ (Qc ?_ Vc))))
   ·rintro ρ' w' hs s ⟨aa3, p6⟩
    refine kM (kc (kA s 10 25) k0) fun p => ?_
    refine sL 2 25 u 3 0 (.int .i64 b1) 26 p6 rfl ?_
    exact eK p
   ·rintro ρ' w' hs s ⟨⟨aa4, -⟩, p7⟩
    refine kM (kc (kA s 10 25) k0) fun p => ?_
    refine sL 2 25 u 3 0 (.int .i64 b1) 26 p7 rfl ?_
    exact eK p
   ·rintro ρ' w' hs s ⟨⟨aa5, aa6, -⟩, p8⟩
    refine kM (kc (kA s 10 25) k0) fun p => ?_
    refine sL 2 25 u 3 0 (.int .i64 b1) 26 p8 rfl ?_
    exact eK p
   ·rintro ρ' w' hs s ⟨⟨aa7, aa8, aa9, -⟩, p9⟩
    refine kM (kc (kA s 10 25) k0) fun p => ?_
    refine sL 2 25 u 3 0 (.int .i64 b1) 26 p9 rfl ?_
    exact eK p
  ·refine oH 3 4 ?_
   ·rintro ρ' w' hs s ⟨⟨q0, q1, q2, -⟩, j5⟩
    refine kM (kc (kA s 11 26) k0) fun p => ?_
    refine cF 59 #[(.tmp 26)] #[2] 27 Tryz.call59 (V0  b1 w' (Qw hL (SP.keeps j5)) a6 o2) ?_
    rintro e ab0 ⟨rfl, j6⟩
    refine ⟨_, rfl, ?_⟩
    have q3 := SP.call j5 j6
    clear j6
    refine ⟨_, Qa p, rfl, ?_⟩
    exact (And.intro (And.intro q0 (And.intro q1 (And.intro q2 (And.intro rfl (trivial))))) q3)
  ·refine oH 4 5 ?_
   ·rintro ρ' w' hs s ⟨⟨j7, j8, j9, k1, -⟩, q4⟩
    refine kN [(18, (.string ⟨List.toArray a2⟩)), (21, (.string ⟨List.toArray a3⟩)), (24, (.string ⟨List.toArray a5⟩)), (27, (.string ⟨List.toArray a6⟩))] ⟨(Vv (h := 3) K).symm.trans j7, (Vv (h := 6) K).symm.trans j8, (Vv (h := 9) K).symm.trans j9, (Vv (h := 12) K).symm.trans k1, trivial⟩ fun p => ?_
    refine Z5 (e := Qk) (T := 79) (E := 9) (len := 5) (parts := #[(0, (.const (.string ⟨List.toArray ([116, 105, 109, 101, 115] : List UInt8)⟩))), (1, (.tmp 18)), (2, (.tmp 21)), (3, (.tmp 24)), (4, (.tmp 27))]) (cs := #[(.string ⟨List.toArray ([116, 105, 109, 101, 115] : List UInt8)⟩), (.string ⟨List.toArray a2⟩), (.string ⟨List.toArray a3⟩), (.string ⟨List.toArray a5⟩), (.string ⟨List.toArray a6⟩)]) ([([116, 105, 109, 101, 115] : List UInt8), a2, a3, a5, a6] : List (List UInt8)) (d := (some 28)) (k := 13) K rfl (fun _ => K) q4 rfl rfl rfl rfl ?_
    intro q5 ab1 q6
    refine ⟨_, Qa p, trivial, ?_⟩
    exact (Exists.intro q5 (And.intro (And.intro j7 (And.intro j8 (And.intro j9 (And.intro k1 (And.intro rfl (trivial)))))) q6))
  ·refine oH 5 6 ?_
   ·rintro ρ' w' hs s ⟨c5, ⟨q7, q8, q9, r0, k2, -⟩, r1⟩
    refine kN [(15, (.func (.func 56) #[] #[(pt m 0)])), (28, (.slice (some ⟨c5, 0, none⟩) (List.length ([([116, 105, 109, 101, 115] : List UInt8), a2, a3, a5, a6] : List (List UInt8))) (List.length ([([116, 105, 109, 101, 115] : List UInt8), a2, a3, a5, a6] : List (List UInt8)))))] ⟨s 0 15 K, (Vv (h := 13) K).symm.trans k2, trivial⟩ fun p => ?_
    have g2 : SP [] w0 w' [Qv u 24 #[(.int .i64 b8), (.int .i64 b4), (.int .i64 b3), (.int .i64 b1), (.slice A6 (List.length (List.map stT d9)) c7)], Qv m 93 #[(.pointer none), (.slice none (List.length ([] : List UInt8)) 0)], Vb 9 Qk (some ⟨c5, 0, none⟩) (List.length ([([116, 105, 109, 101, 115] : List UInt8), a2, a3, a5, a6] : List (List UInt8))) ([([116, 105, 109, 101, 115] : List UInt8), a2, a3, a5, a6] : List (List UInt8)), Vb 5 eU8 none 0 ([] : List UInt8)] := Ny r1 5 eU8
    refine X2 (f := 56) (fo := (.tmp 15)) (xs := #[(.tmp 28)]) (tys := #[79]) (first := #[]) (captured := #[(pt m 0)]) (d := (some 29)) (k := 14) K rfl K K Tryz.call56 (Yp (some ⟨c5, 0, none⟩) (List.length ([([116, 105, 109, 101, 115] : List UInt8), a2, a3, a5, a6] : List (List UInt8))) m (.pointer none) none 0 ([([116, 105, 109, 101, 115] : List UInt8), a2, a3, a5, a6] : List (List UInt8)) ([] : List UInt8) w' (Jw g2 [1, 3] rfl rfl) (fun w hm => (Vn (SP.still g2 (l := [1, 3]) (i := 2) rfl rfl rfl hm))) (.inl rfl) d4 o3) ?_
    rintro e r2 ⟨g3, g4, rfl, k3⟩
    refine ⟨_, rfl, ?_⟩
    have r3 : SP [] w0 r2 [Qv u 24 #[(.int .i64 b8), (.int .i64 b4), (.int .i64 b3), (.int .i64 b1), (.slice A6 (List.length (List.map stT d9)) c7)], Vb 9 Qk (some ⟨c5, 0, none⟩) (List.length ([([116, 105, 109, 101, 115] : List UInt8), a2, a3, a5, a6] : List (List UInt8))) ([([116, 105, 109, 101, 115] : List UInt8), a2, a3, a5, a6] : List (List UInt8)), Qv m 93 #[(pt m 0), (.slice g3 (List.length d4) g4)], Vb 5 eU8 g3 g4 d4] := Z6 g2 [1, 3] [0, 2] rfl rfl k3 rfl
    clear k3
    refine ⟨_, Qa p, rfl, ?_⟩
    exact (Exists.intro c5 (Exists.intro g3 (Exists.intro g4 (And.intro (And.intro q7 (And.intro q8 (And.intro q9 (And.intro r0 (And.intro k2 (And.intro rfl (trivial))))))) r3))))
  ·rintro ρ' w' hs hf ⟨g1, f0, f1, ⟨ab2, ab3, ab4, ab5, ab6, ab7, -⟩, g5⟩
   refine V3 [(1, (pt u 0)), (3, (pt m 0)), (4, (.func (.func 56) #[] #[(pt m 0)]))] ⟨(hs 1 K).trans K, (hs 3 K).trans K, (hs 4 K).trans K, trivial⟩ ?_
   obtain ⟨ab8, r4⟩ : ∃ x, w' = x := ⟨_, rfl⟩
   rw [r4] at g5 ⊢
   refine aQ ?_
   refine aQ ?_
   refine aR ?_
   refine iR 1 1 [(30, (pt u 4))] ?_
   refine iS 2 ?_
   refine sL 22 30 u 4 0 (.slice A6 (List.length (List.map stT d9)) c7) 31 g5 rfl ?_
   refine iR 2 4 [(32, (.int .i64 ((List.length (List.map stT d9) : Nat) : Int))), (33, (.int .i64 0))] ?_
   refine iF ?_
   refine Y1 K (id := 0) K ?_
   refine G4 K (fun c3 ρ w => ∃ (b5 : (List UInt8)) (a1 : Int) (b9 : Option Addr) (c0 : Nat), Zm ρ [(3, (pt m 0)), (4, (.func (.func 56) #[] #[(pt m 0)])), (31, (.slice A6 (List.length (List.map stT d9)) c7)), (32, (.int .i64 ((List.length (List.map stT d9) : Nat) : Int))), (33, (.int .i64 a1))] ∧ SP [] w0 w [Vb 5 eU8 b9 c0 b5, Qv m 93 #[(pt m 0), (.slice b9 (List.length b5) c0)]] ∧ Q1 (List.map stT d9) c3 b5 a1 = some r) (by rintro ρ w ⟨b5, a1, b9, c0, hk, hs, H⟩; cases H) ?_ X0 ?_
   ·rintro c3 ρ ab9 ⟨b5, a1, b9, c0, hk, f2, H⟩
    refine At.known [(3, (pt m 0)), (4, (.func (.func 56) #[] #[(pt m 0)])), (31, (.slice A6 (List.length (List.map stT d9)) c7)), (32, (.int .i64 ((List.length (List.map stT d9) : Nat) : Int))), (33, (.int .i64 a1))] hk ?_
    replace H := (show Xe (Q1 (List.map stT d9) c3) (List.map stT d9) b5 a1 = some r from H)
    unfold Xe at H
    refine aQ ?_
    refine aR ?_
    refine iR 1 1 [(34, (.bool (decide (a1 < ((List.length (List.map stT d9) : Nat) : Int)))))] ?_
    refine iF ?_
    refine aQ ?_
    refine Z4 K (o := (.tmp 34)) K (b := (decide (a1 < ((List.length (List.map stT d9) : Nat) : Int)))) K (fun g6 => ?_) (fun g6 => ?_)
    ·have H := ct H g6
     refine At.skip K ?_
     refine aQ ?_
     refine Y1 K (id := 1) K ?_
     refine aQ ?_
     refine aR ?_
     obtain ⟨a, k4, k5, e3, H⟩ := Un H
     refine iS 1 ?_
     refine Jf stT (e := Zh) (l := d9) (A := A6) (c := c7) (T := 22) (E := 33) (x := (.tmp 31)) (ix := (.tmp 33)) (ki := .i64) (iz := a1) (d := (some 35)) (k := 0) K rfl K K K K (RdT.sp (Yx d0) f2) k4 k5 ?_
     intro r5 r6 r7 ac0 hc10395
     refine iS 2 ?_
     refine Qh.cells (t := 33) (x := (.tmp 35)) (b := r5) (off := (r6 + Int.toNat a1 * Zh.sz)) (xs := [(.string ⟨List.toArray (stT a).1⟩), (.int .i64 (stT a).2.1), (.int .i64 (stT a).2.2.1), (.slice a.2.2.2.1.1 (List.length (stT a).2.2.2.1) a.2.2.2.1.2.1), (.slice a.2.2.2.2.1 (List.length (stT a).2.2.2.2) a.2.2.2.2.2.1)]) (d := (some 36)) (k := 1) K rfl K K K (Vu (e := Zh) (Qj (RdT.sp (Yx d0) f2) r7 k4 k5) e3 rfl) ?_
     refine iS 3 ?_
     refine Qh.alloc (t := 33) (z := (.agg #[(.string ⟨List.toArray ([] : List UInt8)⟩), (.int .i64 0), (.int .i64 0), (.slice none (List.length ([] : List (Int × Int))) 0), (.slice none (List.length ([] : List ((List UInt8) × (List UInt8) × Int))) 0)])) (d := (some 6)) (k := 2) K rfl K f2 ?_
     intro a0 ac1 r8
     refine iS 4 ?_
     refine Qh.store (t := 33) (x := (.tmp 6)) (y := (.tmp 36)) (g := a0) (off := 0) (i := 2) (v := (.agg #[(.string ⟨List.toArray (stT a).1⟩), (.int .i64 (stT a).2.1), (.int .i64 (stT a).2.2.1), (.slice a.2.2.2.1.1 (List.length (stT a).2.2.2.1) a.2.2.2.1.2.1), (.slice a.2.2.2.2.1 (List.length (stT a).2.2.2.2) a.2.2.2.2.2.1)])) (cs' := #[(.string ⟨List.toArray (stT a).1⟩), (.int .i64 (stT a).2.1), (.int .i64 (stT a).2.2.1), (.slice a.2.2.2.1.1 (List.length (stT a).2.2.2.1) a.2.2.2.1.2.1), (.slice a.2.2.2.2.1 (List.length (stT a).2.2.2.2) a.2.2.2.2.2.1)]) (d := none) (k := 3) K rfl K K r8 rfl K ?_
     intro ac2 r9
     refine iF ?_
     refine aQ ?_
     obtain ⟨a7, s0, H⟩ := Qd H
     obtain ⟨a9, s1, H⟩ := Qd H
     obtain ⟨d5, s2, H⟩ := Qd H
     refine aG [GEq (.func (.func 56) #[] #[(pt m 0)]), GEq (pt a0 0), GEq (.string ⟨List.toArray (stT a).1⟩), GEq (pt a0 1), GEq (.int .i64 (stT a).2.1), GEq (.string ⟨List.toArray a7⟩), GEq (pt a0 2), GEq (.int .i64 (stT a).2.2.1), GEq (.string ⟨List.toArray a9⟩), Dd, GEq (.tuple #[])] [5, 8, 9, 10] [([], fun vs w => VL vs [] ∧ SP [] w0 w [Vb 5 eU8 b9 c0 b5, Qv m 93 #[(pt m 0), (.slice b9 (List.length b5) c0)], Qv a0 33 #[(.string ⟨List.toArray (stT a).1⟩), (.int .i64 (stT a).2.1), (.int .i64 (stT a).2.2.1), (.slice a.2.2.2.1.1 (List.length (stT a).2.2.2.1) a.2.2.2.1.2.1), (.slice a.2.2.2.2.1 (List.length (stT a).2.2.2.2) a.2.2.2.2.2.1)]]), ([5], fun vs w => VL vs [(.string ⟨List.toArray a7⟩)] ∧ SP [] w0 w [Vb 5 eU8 b9 c0 b5, Qv m 93 #[(pt m 0), (.slice b9 (List.length b5) c0)], Qv a0 33 #[(.string ⟨List.toArray (stT a).1⟩), (.int .i64 (stT a).2.1), (.int .i64 (stT a).2.2.1), (.slice a.2.2.2.1.1 (List.length (stT a).2.2.2.1) a.2.2.2.1.2.1), (.slice a.2.2.2.2.1 (List.length (stT a).2.2.2.2) a.2.2.2.2.2.1)]]), ([5, 8], fun vs w => VL vs [(.string ⟨List.toArray a7⟩), (.string ⟨List.toArray a9⟩)] ∧ SP [] w0 w [Vb 5 eU8 b9 c0 b5, Qv m 93 #[(pt m 0), (.slice b9 (List.length b5) c0)], Qv a0 33 #[(.string ⟨List.toArray (stT a).1⟩), (.int .i64 (stT a).2.1), (.int .i64 (stT a).2.2.1), (.slice a.2.2.2.1.1 (List.length (stT a).2.2.2.1) a.2.2.2.1.2.1), (.slice a.2.2.2.2.1 (List.length (stT a).2.2.2.2) a.2.2.2.2.2.1)]]), ([5, 8, 9], fun vs w => ∃ (d1 : Nat), VL vs [(.string ⟨List.toArray a7⟩), (.string ⟨List.toArray a9⟩), (.slice (some ⟨d1, 0, none⟩) (List.length ([([116, 101, 110, 97, 110, 116] : List UInt8), (stT a).1, a7, a9] : List (List UInt8))) (List.length ([([116, 101, 110, 97, 110, 116] : List UInt8), (stT a).1, a7, a9] : List (List UInt8))))] ∧ SP [] w0 w [Vb 5 eU8 b9 c0 b5, Qv m 93 #[(pt m 0), (.slice b9 (List.length b5) c0)], Qv a0 33 #[(.string ⟨List.toArray (stT a).1⟩), (.int .i64 (stT a).2.1), (.int .i64 (stT a).2.2.1), (.slice a.2.2.2.1.1 (List.length (stT a).2.2.2.1) a.2.2.2.1.2.1), (.slice a.2.2.2.2.1 (List.length (stT a).2.2.2.2) a.2.2.2.2.2.1)], Vb 9 Qk (some ⟨d1, 0, none⟩) (List.length ([([116, 101, 110, 97, 110, 116] : List UInt8), (stT a).1, a7, a9] : List (List UInt8))) ([([116, 101, 110, 97, 110, 116] : List UInt8), (stT a).1, a7, a9] : List (List UInt8))]), ([5, 8, 9, 10], fun vs w => ∃ (g7 : Nat), ∃ (f3 : Option Addr), ∃ (f4 : Nat), VL vs [(.string ⟨List.toArray a7⟩), (.string ⟨List.toArray a9⟩), (.slice (some ⟨g7, 0, none⟩) (List.length ([([116, 101, 110, 97, 110, 116] : List UInt8), (stT a).1, a7, a9] : List (List UInt8))) (List.length ([([116, 101, 110, 97, 110, 116] : List UInt8), (stT a).1, a7, a9] : List (List UInt8)))), (.tuple #[])] ∧ SP [] w0 w [Qv a0 33 #[(.string ⟨List.toArray (stT a).1⟩), (.int .i64 (stT a).2.1), (.int .i64 (stT a).2.2.1), (.slice a.2.2.2.1.1 (List.length (stT a).2.2.2.1) a.2.2.2.1.2.1), (.slice a.2.2.2.2.1 (List.length (stT a).2.2.2.2) a.2.2.2.2.2.1)], Vb 9 Qk (some ⟨g7, 0, none⟩) (List.length ([([116, 101, 110, 97, 110, 116] : List UInt8), (stT a).1, a7, a9] : List (List UInt8))) ([([116, 101, 110, 97, 110, 116] : List UInt8), (stT a).1, a7, a9] : List (List UInt8)), Qv m 93 #[(pt m 0), (.slice f3 (List.length d5) f4)], Vb 5 eU8 f3 f4 d5])] 11 4 ⟨trivial, SP.drew r9⟩ ?_ ?_
     iterate 11 refine And.intro ?_ ?_
     exact trivial
     ·exact oV (hC (hS 4 (.func (.func 56) #[] #[(pt m 0)])) (h0)) (.func (.func 56) #[] #[(pt m 0)])
     ·exact oV (hC (hS 6 (pt a0 0)) (h0)) (pt a0 0)
     ·refine Owe.light K [0, 1, 2] K (Qc ?_ (Qc ?_ (Qc ?_ Vc)))
      ·rintro ρ' w' hs s ⟨ac3, s3⟩
       refine kM (kc (kA s 1 38) k0) fun p => ?_
       refine sL 9 38 a0 0 2 (.string ⟨List.toArray (stT a).1⟩) 39 s3 rfl ?_
       exact eK p
      ·rintro ρ' w' hs s ⟨⟨ac4, -⟩, s4⟩
       refine kM (kc (kA s 1 38) k0) fun p => ?_
       refine sL 9 38 a0 0 2 (.string ⟨List.toArray (stT a).1⟩) 39 s4 rfl ?_
       exact eK p
      ·rintro ρ' w' hs s ⟨⟨ac5, ac6, -⟩, s5⟩
       refine kM (kc (kA s 1 38) k0) fun p => ?_
       refine sL 9 38 a0 0 2 (.string ⟨List.toArray (stT a).1⟩) 39 s5 rfl ?_
       exact eK p
     ·exact oV (hC (hS 6 (pt a0 0)) (h0)) (pt a0 1)
     ·refine oL 0 ?_
      ·rintro ρ' w' hs s ⟨ac7, s6⟩
       refine kM (kc (kA s 3 40) k0) fun p => ?_
       refine sL 3 40 a0 1 2 (.int .i64 (stT a).2.1) 41 s6 rfl ?_
       exact eK p
     ·refine oH 0 1 ?_
      ·rintro ρ' w' hs s ⟨ac8, k6⟩
       refine kM (kc (kA s 4 41) k0) fun p => ?_
       refine cF 59 #[(.tmp 41)] #[2] 42 Tryz.call59 (V0  (stT a).2.1 w' (Qw hL (SP.keeps k6)) a7 s0) ?_
       rintro e ac9 ⟨rfl, k7⟩
       refine ⟨_, rfl, ?_⟩
       have s7 := SP.call k6 k7
       clear k7
       refine ⟨_, Qa p, rfl, ?_⟩
       exact (And.intro (And.intro rfl (trivial)) s7)
     ·exact oV (hC (hS 6 (pt a0 0)) (h0)) (pt a0 2)
     ·refine Owe.light K [0, 1] K (Qc ?_ (Qc ?_ Vc))
      ·rintro ρ' w' hs s ⟨ad0, s8⟩
       refine kM (kc (kA s 6 43) k0) fun p => ?_
       refine sL 3 43 a0 2 2 (.int .i64 (stT a).2.2.1) 44 s8 rfl ?_
       exact eK p
      ·rintro ρ' w' hs s ⟨⟨ad1, -⟩, s9⟩
       refine kM (kc (kA s 6 43) k0) fun p => ?_
       refine sL 3 43 a0 2 2 (.int .i64 (stT a).2.2.1) 44 s9 rfl ?_
       exact eK p
     ·refine oH 1 2 ?_
      ·rintro ρ' w' hs s ⟨⟨t0, -⟩, k8⟩
       refine kM (kc (kA s 7 44) k0) fun p => ?_
       refine cF 59 #[(.tmp 44)] #[2] 45 Tryz.call59 (V0  (stT a).2.2.1 w' (Qw hL (SP.keeps k8)) a9 s1) ?_
       rintro e ad2 ⟨rfl, k9⟩
       refine ⟨_, rfl, ?_⟩
       have t1 := SP.call k8 k9
       clear k9
       refine ⟨_, Qa p, rfl, ?_⟩
       exact (And.intro (And.intro t0 (And.intro rfl (trivial))) t1)
     ·refine oH 2 3 ?_
      ·rintro ρ' w' hs s ⟨⟨l0, l1, -⟩, t2⟩
       refine kN [(39, (.string ⟨List.toArray (stT a).1⟩)), (42, (.string ⟨List.toArray a7⟩)), (45, (.string ⟨List.toArray a9⟩))] ⟨s 2 39 K, (Vv (h := 5) K).symm.trans l0, (Vv (h := 8) K).symm.trans l1, trivial⟩ fun p => ?_
       refine Z5 (e := Qk) (T := 79) (E := 9) (len := 4) (parts := #[(0, (.const (.string ⟨List.toArray ([116, 101, 110, 97, 110, 116] : List UInt8)⟩))), (1, (.tmp 39)), (2, (.tmp 42)), (3, (.tmp 45))]) (cs := #[(.string ⟨List.toArray ([116, 101, 110, 97, 110, 116] : List UInt8)⟩), (.string ⟨List.toArray (stT a).1⟩), (.string ⟨List.toArray a7⟩), (.string ⟨List.toArray a9⟩)]) ([([116, 101, 110, 97, 110, 116] : List UInt8), (stT a).1, a7, a9] : List (List UInt8)) (d := (some 46)) (k := 9) K rfl (fun _ => K) t2 rfl rfl rfl rfl ?_
       intro t3 ad3 t4
       refine ⟨_, Qa p, trivial, ?_⟩
       exact (Exists.intro t3 (And.intro (And.intro l0 (And.intro l1 (And.intro rfl (trivial)))) t4))
     ·refine oH 3 4 ?_
      ·rintro ρ' w' hs s ⟨d1, ⟨t5, t6, l2, -⟩, g8⟩
       refine kN [(37, (.func (.func 56) #[] #[(pt m 0)])), (46, (.slice (some ⟨d1, 0, none⟩) (List.length ([([116, 101, 110, 97, 110, 116] : List UInt8), (stT a).1, a7, a9] : List (List UInt8))) (List.length ([([116, 101, 110, 97, 110, 116] : List UInt8), (stT a).1, a7, a9] : List (List UInt8)))))] ⟨s 0 37 K, (Vv (h := 9) K).symm.trans l2, trivial⟩ fun p => ?_
       refine X2 (f := 56) (fo := (.tmp 37)) (xs := #[(.tmp 46)]) (tys := #[79]) (first := #[]) (captured := #[(pt m 0)]) (d := (some 47)) (k := 10) K rfl K K Tryz.call56 (Yp (some ⟨d1, 0, none⟩) (List.length ([([116, 101, 110, 97, 110, 116] : List UInt8), (stT a).1, a7, a9] : List (List UInt8))) m (pt m 0) b9 c0 ([([116, 101, 110, 97, 110, 116] : List UInt8), (stT a).1, a7, a9] : List (List UInt8)) b5 w' (Jw g8 [1, 0] rfl rfl) (fun w hm => (Vn (SP.still g8 (l := [1, 0]) (i := 3) rfl rfl rfl hm))) (.inr rfl) d5 s2) ?_
       rintro e t7 ⟨g9, h1, rfl, l3⟩
       refine ⟨_, rfl, ?_⟩
       have t8 : SP [] w0 t7 [Qv a0 33 #[(.string ⟨List.toArray (stT a).1⟩), (.int .i64 (stT a).2.1), (.int .i64 (stT a).2.2.1), (.slice a.2.2.2.1.1 (List.length (stT a).2.2.2.1) a.2.2.2.1.2.1), (.slice a.2.2.2.2.1 (List.length (stT a).2.2.2.2) a.2.2.2.2.2.1)], Vb 9 Qk (some ⟨d1, 0, none⟩) (List.length ([([116, 101, 110, 97, 110, 116] : List UInt8), (stT a).1, a7, a9] : List (List UInt8))) ([([116, 101, 110, 97, 110, 116] : List UInt8), (stT a).1, a7, a9] : List (List UInt8)), Qv m 93 #[(pt m 0), (.slice g9 (List.length d5) h1)], Vb 5 eU8 g9 h1 d5] := Z6 g8 [1, 0] [2, 3] rfl rfl l3 rfl
       clear l3
       refine ⟨_, Qa p, rfl, ?_⟩
       exact (Exists.intro d1 (Exists.intro g9 (Exists.intro h1 (And.intro (And.intro t5 (And.intro t6 (And.intro l2 (And.intro rfl (trivial))))) t8))))
     ·rintro ρ' w' hs hf ⟨g7, f3, f4, ⟨ad4, ad5, ad6, ad7, -⟩, h2⟩
      refine V3 [(3, (pt m 0)), (4, (.func (.func 56) #[] #[(pt m 0)])), (6, (pt a0 0)), (31, (.slice A6 (List.length (List.map stT d9)) c7)), (32, (.int .i64 ((List.length (List.map stT d9) : Nat) : Int))), (33, (.int .i64 a1))] ⟨(hs 3 K).trans K, (hs 4 K).trans K, (hs 6 K).trans K, (hs 31 K).trans K, (hs 32 K).trans K, (hs 33 K).trans K, trivial⟩ ?_
      obtain ⟨ad8, t9⟩ : ∃ x, w' = x := ⟨_, rfl⟩
      rw [t9] at h2 ⊢
      refine aQ ?_
      refine aQ ?_
      refine aR ?_
      refine iR 1 1 [(48, (pt a0 3))] ?_
      refine iS 2 ?_
      refine sL 30 48 a0 3 0 (.slice a.2.2.2.1.1 (List.length (stT a).2.2.2.1) a.2.2.2.1.2.1) 49 h2 rfl ?_
      refine iR 2 4 [(50, (.int .i64 ((List.length (stT a).2.2.2.1 : Nat) : Int))), (51, (.int .i64 0))] ?_
      refine iF ?_
      refine Y1 K (id := 2) K ?_
      refine G4 K (fun d6 ρ w => ∃ (c6 : (List UInt8)) (c2 : Int) (d7 : Option Addr) (d8 : Nat), Zm ρ [(3, (pt m 0)), (4, (.func (.func 56) #[] #[(pt m 0)])), (6, (pt a0 0)), (31, (.slice A6 (List.length (List.map stT d9)) c7)), (32, (.int .i64 ((List.length (List.map stT d9) : Nat) : Int))), (33, (.int .i64 a1)), (49, (.slice a.2.2.2.1.1 (List.length (stT a).2.2.2.1) a.2.2.2.1.2.1)), (50, (.int .i64 ((List.length (stT a).2.2.2.1 : Nat) : Int))), (51, (.int .i64 c2))] ∧ SP [] w0 w [Vb 5 eU8 d7 d8 c6, Qv m 93 #[(pt m 0), (.slice d7 (List.length c6) d8)], Qv a0 33 #[(.string ⟨List.toArray (stT a).1⟩), (.int .i64 (stT a).2.1), (.int .i64 (stT a).2.2.1), (.slice a.2.2.2.1.1 (List.length (stT a).2.2.2.1) a.2.2.2.1.2.1), (.slice a.2.2.2.2.1 (List.length (stT a).2.2.2.2) a.2.2.2.2.2.1)]] ∧ Vt (Q1 (List.map stT d9) c3) a1 (stT a) d6 c6 c2 = some r) (by rintro ρ w ⟨c6, c2, d7, d8, hk, hs, H⟩; cases H) ?_ X0 ?_
      ·rintro d6 ρ ad9 ⟨c6, c2, d7, d8, hk, e4, H⟩
       refine At.known [(3, (pt m 0)), (4, (.func (.func 56) #[] #[(pt m 0)])), (6, (pt a0 0)), (31, (.slice A6 (List.length (List.map stT d9)) c7)), (32, (.int .i64 ((List.length (List.map stT d9) : Nat) : Int))), (33, (.int .i64 a1)), (49, (.slice a.2.2.2.1.1 (List.length (stT a).2.2.2.1) a.2.2.2.1.2.1)), (50, (.int .i64 ((List.length (stT a).2.2.2.1 : Nat) : Int))), (51, (.int .i64 c2))] hk ?_
       replace H := (show Xd (Q1 (List.map stT d9) c3) (Vt (Q1 (List.map stT d9) c3) a1 (stT a) d6) a1 (stT a) c6 c2 = some r from H)
       unfold Xd at H
       refine aQ ?_
       refine aR ?_
       refine iR 1 1 [(52, (.bool (decide (c2 < ((List.length (stT a).2.2.2.1 : Nat) : Int)))))] ?_
       refine iF ?_
       refine aQ ?_
       refine Z4 K (o := (.tmp 52)) K (b := (decide (c2 < ((List.length (stT a).2.2.2.1 : Nat) : Int)))) K (fun h3 => ?_) (fun h3 => ?_)
       ·have H := ct H h3
        refine At.skip K ?_
        refine aQ ?_
        refine Y1 K (id := 3) K ?_
        refine aQ ?_
        refine aR ?_
        obtain ⟨c4, l4, l5, u0, H⟩ := Ve H
        refine iS 1 ?_
        refine Qm (e := (Qf (Q5 .u32) (Q5 .i64))) (l := (stT a).2.2.2.1) (A := a.2.2.2.1.1) (c := a.2.2.2.1.2.1) (T := 30) (E := 102) (x := (.tmp 49)) (ix := (.tmp 51)) (ki := .i64) (iz := c2) (d := (some 53)) (k := 0) K rfl K K K K (RdT.sp (Yx (dp1 (dp2 (dp2 (dp2 (Gu d0 e3)))))) e4) l4 l5 ?_
        intro u1 u2 u3 ae0 hc12962
        refine iS 2 ?_
        refine Qh.cells (t := 102) (x := (.tmp 53)) (b := u1) (off := (u2 + Int.toNat c2 * (Qf (Q5 .u32) (Q5 .i64)).sz)) (xs := [(.int .u32 c4.1), (.int .i64 c4.2)]) (d := (some 54)) (k := 1) K rfl K K K (Vu (e := (Qf (Q5 .u32) (Q5 .i64))) (Qj (RdT.sp (Yx (dp1 (dp2 (dp2 (dp2 (Gu d0 e3)))))) e4) u3 l4 l5) u0 rfl) ?_
        refine iS 3 ?_
        refine Qh.alloc (t := 102) (z := (.agg #[(.int .u32 0), (.int .i64 0)])) (d := (some 8)) (k := 2) K rfl K e4 ?_
        intro h4 ae1 u4
        refine iS 4 ?_
        refine Qh.store (t := 102) (x := (.tmp 8)) (y := (.tmp 54)) (g := h4) (off := 0) (i := 3) (v := (.agg #[(.int .u32 c4.1), (.int .i64 c4.2)])) (cs' := #[(.int .u32 c4.1), (.int .i64 c4.2)]) (d := none) (k := 3) K rfl K K u4 rfl K ?_
        intro u5 h5
        refine iF ?_
        refine aR ?_
        refine iR 1 1 [(55, (.func (.func 56) #[] #[(pt m 0)]))] ?_
        refine iS 2 ?_
        refine sL 102 8 h4 0 3 (.agg #[(.int .u32 c4.1), (.int .i64 c4.2)]) 56 h5 rfl ?_
        obtain ⟨d2, u6, H⟩ := Qd H
        refine iS 3 ?_
        refine cF 60 #[(.tmp 56)] #[102] 57 Tryz.call60 (N2  c4.1 c4.2 u5 (Qw hL (SP.keeps h5)) d2 u6) ?_
        rintro e ae2 ⟨rfl, l6⟩
        refine ⟨_, rfl, ?_⟩
        have u7 := SP.call h5 l6
        clear l6
        refine iS 4 ?_
        refine Z5 (e := Qk) (T := 79) (E := 9) (len := 2) (parts := #[(0, (.const (.string ⟨List.toArray ([110, 101, 116] : List UInt8)⟩))), (1, (.tmp 57))]) (cs := #[(.string ⟨List.toArray ([110, 101, 116] : List UInt8)⟩), (.string ⟨List.toArray d2⟩)]) ([([110, 101, 116] : List UInt8), d2] : List (List UInt8)) (d := (some 58)) (k := 3) K rfl (fun _ => K) u7 rfl rfl rfl rfl ?_
        intro l7 u8 h6
        obtain ⟨f5, u9, H⟩ := Qd H
        refine iS 5 ?_
        refine X2 (f := 56) (fo := (.tmp 55)) (xs := #[(.tmp 58)]) (tys := #[79]) (first := #[]) (captured := #[(pt m 0)]) (d := (some 59)) (k := 4) K rfl K K Tryz.call56 (Yp (some ⟨l7, 0, none⟩) (List.length ([([110, 101, 116] : List UInt8), d2] : List (List UInt8))) m (pt m 0) d7 d8 ([([110, 101, 116] : List UInt8), d2] : List (List UInt8)) c6 u8 (Jw h6 [1, 0] rfl rfl) (fun w hm => (Vn (SP.still h6 (l := [1, 0]) (i := 4) rfl rfl rfl hm))) (.inr rfl) f5 u9) ?_
        rintro e v0 ⟨h7, h8, rfl, l8⟩
        refine ⟨_, rfl, ?_⟩
        have v1 : SP [] w0 v0 [Qv a0 33 #[(.string ⟨List.toArray (stT a).1⟩), (.int .i64 (stT a).2.1), (.int .i64 (stT a).2.2.1), (.slice a.2.2.2.1.1 (List.length (stT a).2.2.2.1) a.2.2.2.1.2.1), (.slice a.2.2.2.2.1 (List.length (stT a).2.2.2.2) a.2.2.2.2.2.1)], Qv h4 102 #[(.int .u32 c4.1), (.int .i64 c4.2)], Vb 9 Qk (some ⟨l7, 0, none⟩) (List.length ([([110, 101, 116] : List UInt8), d2] : List (List UInt8))) ([([110, 101, 116] : List UInt8), d2] : List (List UInt8)), Qv m 93 #[(pt m 0), (.slice h7 (List.length f5) h8)], Vb 5 eU8 h7 h8 f5] := Z6 h6 [1, 0] [2, 3, 4] rfl rfl l8 rfl
        clear l8
        refine iF ?_
        refine aR ?_
        refine iR 2 2 [(60, (.int .i64 (IntKind.wrap .i64 (c2 + 1)))), (51, (.int .i64 (IntKind.wrap .i64 (c2 + 1))))] ?_
        refine iF ?_
        exact ⟨f5, (IntKind.wrap .i64 (c2 + 1)), h7, h8, ⟨K, K, K, K, K, K, K, K, K, trivial⟩, SP.sel v1 [4, 3, 0] rfl rfl, H⟩
       ·have H := cf H h3
        refine At.exit K (id := 2) K ?_
        refine aQ ?_
        refine aR ?_
        refine iR 1 1 [(61, (pt a0 4))] ?_
        refine iS 2 ?_
        refine sL 31 61 a0 4 2 (.slice a.2.2.2.2.1 (List.length (stT a).2.2.2.2) a.2.2.2.2.2.1) 62 e4 rfl ?_
        refine iR 2 4 [(63, (.int .i64 ((List.length (stT a).2.2.2.2 : Nat) : Int))), (64, (.int .i64 0))] ?_
        refine iF ?_
        refine Y1 K (id := 4) K ?_
        refine G4 K (fun h9 ρ w => ∃ (b2 : (List UInt8)) (c1 : Int) (b6 : Option Addr) (b7 : Nat), Zm ρ [(3, (pt m 0)), (4, (.func (.func 56) #[] #[(pt m 0)])), (31, (.slice A6 (List.length (List.map stT d9)) c7)), (32, (.int .i64 ((List.length (List.map stT d9) : Nat) : Int))), (33, (.int .i64 a1)), (62, (.slice a.2.2.2.2.1 (List.length (stT a).2.2.2.2) a.2.2.2.2.2.1)), (63, (.int .i64 ((List.length (stT a).2.2.2.2 : Nat) : Int))), (64, (.int .i64 c1))] ∧ SP [] w0 w [Vb 5 eU8 b6 b7 b2, Qv m 93 #[(pt m 0), (.slice b6 (List.length b2) b7)]] ∧ Xc (Q1 (List.map stT d9) c3) (Vt (Q1 (List.map stT d9) c3) a1 (stT a) d6) a1 (stT a) h9 b2 c1 = some r) (by rintro ρ w ⟨b2, c1, b6, b7, hk, hs, H⟩; cases H) ?_ X0 ?_
        ·rintro h9 ρ ae3 ⟨b2, c1, b6, b7, hk, f6, H⟩
         refine At.known [(3, (pt m 0)), (4, (.func (.func 56) #[] #[(pt m 0)])), (31, (.slice A6 (List.length (List.map stT d9)) c7)), (32, (.int .i64 ((List.length (List.map stT d9) : Nat) : Int))), (33, (.int .i64 a1)), (62, (.slice a.2.2.2.2.1 (List.length (stT a).2.2.2.2) a.2.2.2.2.2.1)), (63, (.int .i64 ((List.length (stT a).2.2.2.2 : Nat) : Int))), (64, (.int .i64 c1))] hk ?_
         replace H := (show Xb (Q1 (List.map stT d9) c3) (Vt (Q1 (List.map stT d9) c3) a1 (stT a) d6) (Xc (Q1 (List.map stT d9) c3) (Vt (Q1 (List.map stT d9) c3) a1 (stT a) d6) a1 (stT a) h9) a1 (stT a) b2 c1 = some r from H)
         unfold Xb at H
         refine aQ ?_
         refine aR ?_
         refine iR 1 1 [(65, (.bool (decide (c1 < ((List.length (stT a).2.2.2.2 : Nat) : Int)))))] ?_
         refine iF ?_
         refine aQ ?_
         refine Z4 K (o := (.tmp 65)) K (b := (decide (c1 < ((List.length (stT a).2.2.2.2 : Nat) : Int)))) K (fun i0 => ?_) (fun i0 => ?_)
         ·have H := ct H i0
          refine At.skip K ?_
          refine aQ ?_
          refine Y1 K (id := 5) K ?_
          refine aQ ?_
          refine aR ?_
          obtain ⟨q, l9, m0, v2, H⟩ := Ve H
          refine iS 1 ?_
          refine Qm (e := (Qf Qk (Qf Qk (Q5 .i64)))) (l := (stT a).2.2.2.2) (A := a.2.2.2.2.1) (c := a.2.2.2.2.2.1) (T := 31) (E := 37) (x := (.tmp 62)) (ix := (.tmp 64)) (ki := .i64) (iz := c1) (d := (some 66)) (k := 0) K rfl K K K K (RdT.sp (Yx (dp2 (dp2 (dp2 (dp2 (Gu d0 e3)))))) f6) l9 m0 ?_
          intro v3 v4 v5 ae4 hc13578
          refine iS 2 ?_
          refine Qh.cells (t := 37) (x := (.tmp 66)) (b := v3) (off := (v4 + Int.toNat c1 * (Qf Qk (Qf Qk (Q5 .i64))).sz)) (xs := [(.string ⟨List.toArray q.1⟩), (.string ⟨List.toArray q.2.1⟩), (.int .i64 q.2.2)]) (d := (some 67)) (k := 1) K rfl K K K (Vu (e := (Qf Qk (Qf Qk (Q5 .i64)))) (Qj (RdT.sp (Yx (dp2 (dp2 (dp2 (dp2 (Gu d0 e3)))))) f6) v5 l9 m0) v2 rfl) ?_
          refine iS 3 ?_
          refine Qh.alloc (t := 37) (z := (.agg #[(.string ⟨List.toArray ([] : List UInt8)⟩), (.string ⟨List.toArray ([] : List UInt8)⟩), (.int .i64 0)])) (d := (some 10)) (k := 2) K rfl K f6 ?_
          intro a4 ae5 v6
          refine iS 4 ?_
          refine Qh.store (t := 37) (x := (.tmp 10)) (y := (.tmp 67)) (g := a4) (off := 0) (i := 2) (v := (.agg #[(.string ⟨List.toArray q.1⟩), (.string ⟨List.toArray q.2.1⟩), (.int .i64 q.2.2)])) (cs' := #[(.string ⟨List.toArray q.1⟩), (.string ⟨List.toArray q.2.1⟩), (.int .i64 q.2.2)]) (d := none) (k := 3) K rfl K K v6 rfl K ?_
          intro ae6 v7
          refine iF ?_
          obtain ⟨v8, H⟩ := G6 H
          obtain ⟨a8, v9, H⟩ := Qd H
          obtain ⟨b0, w1, H⟩ := Qd H
          obtain ⟨e0, w2, H⟩ := Qd H
          refine aG [GEq (.func (.func 56) #[] #[(pt m 0)]), GEq (pt a4 0), GEq (.string ⟨List.toArray q.1⟩), GEq (pt a4 1), GEq (.string ⟨List.toArray q.2.1⟩), Dd, GEq (.string ⟨List.toArray a8⟩), GEq (pt a4 2), GEq (.int .i64 q.2.2), GEq (.string ⟨List.toArray b0⟩), Dd, GEq (.tuple #[])] [5, 6, 9, 10, 11] [([], fun vs w => VL vs [] ∧ SP [] w0 w [Vb 5 eU8 b6 b7 b2, Qv m 93 #[(pt m 0), (.slice b6 (List.length b2) b7)], Qv a4 37 #[(.string ⟨List.toArray q.1⟩), (.string ⟨List.toArray q.2.1⟩), (.int .i64 q.2.2)]]), ([5], fun vs w => ∃ (c8 : Nat), ∃ (c9 : Nat), VL vs [(.slice (some ⟨c8, 0, none⟩) (List.length q.2.1) c9)] ∧ SP [] w0 w [Vb 5 eU8 b6 b7 b2, Qv m 93 #[(pt m 0), (.slice b6 (List.length b2) b7)], Qv a4 37 #[(.string ⟨List.toArray q.1⟩), (.string ⟨List.toArray q.2.1⟩), (.int .i64 q.2.2)], rdE eU8 (some ⟨c8, 0, none⟩) c9 q.2.1]), ([5, 6], fun vs w => ∃ (e1 : Nat), ∃ (e2 : Nat), VL vs [(.slice (some ⟨e1, 0, none⟩) (List.length q.2.1) e2), (.string ⟨List.toArray a8⟩)] ∧ SP [] w0 w [Vb 5 eU8 b6 b7 b2, Qv m 93 #[(pt m 0), (.slice b6 (List.length b2) b7)], Qv a4 37 #[(.string ⟨List.toArray q.1⟩), (.string ⟨List.toArray q.2.1⟩), (.int .i64 q.2.2)], rdE eU8 (some ⟨e1, 0, none⟩) e2 q.2.1]), ([5, 6, 9], fun vs w => ∃ (e5 : Nat), ∃ (e6 : Nat), VL vs [(.slice (some ⟨e5, 0, none⟩) (List.length q.2.1) e6), (.string ⟨List.toArray a8⟩), (.string ⟨List.toArray b0⟩)] ∧ SP [] w0 w [Vb 5 eU8 b6 b7 b2, Qv m 93 #[(pt m 0), (.slice b6 (List.length b2) b7)], Qv a4 37 #[(.string ⟨List.toArray q.1⟩), (.string ⟨List.toArray q.2.1⟩), (.int .i64 q.2.2)], rdE eU8 (some ⟨e5, 0, none⟩) e6 q.2.1]), ([5, 6, 9, 10], fun vs w => ∃ (e7 : Nat), ∃ (e8 : Nat), ∃ (d3 : Nat), VL vs [(.slice (some ⟨e7, 0, none⟩) (List.length q.2.1) e8), (.string ⟨List.toArray a8⟩), (.string ⟨List.toArray b0⟩), (.slice (some ⟨d3, 0, none⟩) (List.length ([([116, 111, 107, 101, 110] : List UInt8), q.1, a8, b0] : List (List UInt8))) (List.length ([([116, 111, 107, 101, 110] : List UInt8), q.1, a8, b0] : List (List UInt8))))] ∧ SP [] w0 w [Vb 5 eU8 b6 b7 b2, Qv m 93 #[(pt m 0), (.slice b6 (List.length b2) b7)], Qv a4 37 #[(.string ⟨List.toArray q.1⟩), (.string ⟨List.toArray q.2.1⟩), (.int .i64 q.2.2)], rdE eU8 (some ⟨e7, 0, none⟩) e8 q.2.1, Vb 9 Qk (some ⟨d3, 0, none⟩) (List.length ([([116, 111, 107, 101, 110] : List UInt8), q.1, a8, b0] : List (List UInt8))) ([([116, 111, 107, 101, 110] : List UInt8), q.1, a8, b0] : List (List UInt8))]), ([5, 6, 9, 10, 11], fun vs w => ∃ (i1 : Nat), ∃ (i2 : Nat), ∃ (i3 : Nat), ∃ (f7 : Option Addr), ∃ (f8 : Nat), VL vs [(.slice (some ⟨i1, 0, none⟩) (List.length q.2.1) i2), (.string ⟨List.toArray a8⟩), (.string ⟨List.toArray b0⟩), (.slice (some ⟨i3, 0, none⟩) (List.length ([([116, 111, 107, 101, 110] : List UInt8), q.1, a8, b0] : List (List UInt8))) (List.length ([([116, 111, 107, 101, 110] : List UInt8), q.1, a8, b0] : List (List UInt8)))), (.tuple #[])] ∧ SP [] w0 w [Qv a4 37 #[(.string ⟨List.toArray q.1⟩), (.string ⟨List.toArray q.2.1⟩), (.int .i64 q.2.2)], rdE eU8 (some ⟨i1, 0, none⟩) i2 q.2.1, Vb 9 Qk (some ⟨i3, 0, none⟩) (List.length ([([116, 111, 107, 101, 110] : List UInt8), q.1, a8, b0] : List (List UInt8))) ([([116, 111, 107, 101, 110] : List UInt8), q.1, a8, b0] : List (List UInt8)), Qv m 93 #[(pt m 0), (.slice f7 (List.length e0) f8)], Vb 5 eU8 f7 f8 e0])] 12 5 ⟨trivial, SP.drew v7⟩ ?_ ?_
          iterate 12 refine And.intro ?_ ?_
          exact trivial
          ·exact oV (hC (hS 4 (.func (.func 56) #[] #[(pt m 0)])) (h0)) (.func (.func 56) #[] #[(pt m 0)])
          ·exact oV (hC (hS 10 (pt a4 0)) (h0)) (pt a4 0)
          ·refine Owe.light K [0, 1, 2, 3] K (Qc ?_ (Qc ?_ (Qc ?_ (Qc ?_ Vc))))
           ·rintro ρ' w' hs s ⟨ae7, w3⟩
            refine kM (kc (kA s 1 69) k0) fun p => ?_
            refine sL 9 69 a4 0 2 (.string ⟨List.toArray q.1⟩) 70 w3 rfl ?_
            exact eK p
           ·rintro ρ' w' hs s ⟨c8, c9, ⟨ae8, -⟩, w4⟩
            refine kM (kc (kA s 1 69) k0) fun p => ?_
            refine sL 9 69 a4 0 2 (.string ⟨List.toArray q.1⟩) 70 w4 rfl ?_
            exact eK p
           ·rintro ρ' w' hs s ⟨e1, e2, ⟨ae9, af0, -⟩, w5⟩
            refine kM (kc (kA s 1 69) k0) fun p => ?_
            refine sL 9 69 a4 0 2 (.string ⟨List.toArray q.1⟩) 70 w5 rfl ?_
            exact eK p
           ·rintro ρ' w' hs s ⟨e5, e6, ⟨af1, af2, af3, -⟩, w6⟩
            refine kM (kc (kA s 1 69) k0) fun p => ?_
            refine sL 9 69 a4 0 2 (.string ⟨List.toArray q.1⟩) 70 w6 rfl ?_
            exact eK p
          ·exact oV (hC (hS 10 (pt a4 0)) (h0)) (pt a4 1)
          ·refine oL 0 ?_
           ·rintro ρ' w' hs s ⟨af4, w7⟩
            refine kM (kc (kA s 3 71) k0) fun p => ?_
            refine sL 9 71 a4 1 2 (.string ⟨List.toArray q.2.1⟩) 72 w7 rfl ?_
            exact eK p
          ·refine oH 0 1 ?_
           ·rintro ρ' w' hs s ⟨af5, w8⟩
            refine kM (kc (kA s 4 72) k0) fun p => ?_
            refine B3 (S' := 9) (T := 48) (E := 5) (x := (.tmp 72)) (l := q.2.1) (d := (some 73)) (k := 5) K rfl K K K K (B4 v8) w8 ?_
            intro m1 m2 w9 m3 _
            have x0 : SP [] w0 w9 [Vb 5 eU8 b6 b7 b2, Qv m 93 #[(pt m 0), (.slice b6 (List.length b2) b7)], Qv a4 37 #[(.string ⟨List.toArray q.1⟩), (.string ⟨List.toArray q.2.1⟩), (.int .i64 q.2.2)], rdE eU8 (some ⟨m1, 0, none⟩) m2 q.2.1] := m3
            clear m3
            refine ⟨_, Qa p, trivial, ?_⟩
            exact (Exists.intro m1 (Exists.intro m2 (And.intro (And.intro rfl (trivial)) x0)))
          ·refine oH 1 2 ?_
           ·rintro ρ' w' hs s ⟨c8, c9, ⟨m4, -⟩, m5⟩
            refine kN [(73, (.slice (some ⟨c8, 0, none⟩) (List.length q.2.1) c9))] ⟨(Vv (h := 5) K).symm.trans m4, trivial⟩ fun p => ?_
            refine cF 61 #[(.tmp 73)] #[48] 74 Tryz.call61 (Bx (some ⟨c8, 0, none⟩) c9 q.2.1 w' (rdE_rd (SP.get m5 (i := 3) rfl)) a8 v9) ?_
            rintro e af6 ⟨rfl, m6⟩
            refine ⟨_, rfl, ?_⟩
            have x1 := SP.call m5 m6
            clear m6
            refine ⟨_, Qa p, rfl, ?_⟩
            exact (Exists.intro c8 (Exists.intro c9 (And.intro (And.intro m4 (And.intro rfl (trivial))) x1)))
          ·exact oV (hC (hS 10 (pt a4 0)) (h0)) (pt a4 2)
          ·refine Owe.light K [0, 1, 2] K (Qc ?_ (Qc ?_ (Qc ?_ Vc)))
           ·rintro ρ' w' hs s ⟨af7, x2⟩
            refine kM (kc (kA s 7 75) k0) fun p => ?_
            refine sL 2 75 a4 2 2 (.int .i64 q.2.2) 76 x2 rfl ?_
            exact eK p
           ·rintro ρ' w' hs s ⟨c8, c9, ⟨af8, -⟩, x3⟩
            refine kM (kc (kA s 7 75) k0) fun p => ?_
            refine sL 2 75 a4 2 2 (.int .i64 q.2.2) 76 x3 rfl ?_
            exact eK p
           ·rintro ρ' w' hs s ⟨e1, e2, ⟨af9, ag0, -⟩, x4⟩
            refine kM (kc (kA s 7 75) k0) fun p => ?_
            refine sL 2 75 a4 2 2 (.int .i64 q.2.2) 76 x4 rfl ?_
            exact eK p
          ·refine oH 2 3 ?_
           ·rintro ρ' w' hs s ⟨e1, e2, ⟨x5, x6, -⟩, m7⟩
            refine kM (kc (kA s 8 76) k0) fun p => ?_
            refine cF 59 #[(.tmp 76)] #[2] 77 Tryz.call59 (V0  q.2.2 w' (Qw hL (SP.keeps m7)) b0 w1) ?_
            rintro e ag1 ⟨rfl, m8⟩
            refine ⟨_, rfl, ?_⟩
            have x7 := SP.call m7 m8
            clear m8
            refine ⟨_, Qa p, rfl, ?_⟩
            exact (Exists.intro e1 (Exists.intro e2 (And.intro (And.intro x5 (And.intro x6 (And.intro rfl (trivial)))) x7)))
          ·refine oH 3 4 ?_
           ·rintro ρ' w' hs s ⟨e5, e6, ⟨x8, m9, n0, -⟩, x9⟩
            refine kN [(70, (.string ⟨List.toArray q.1⟩)), (74, (.string ⟨List.toArray a8⟩)), (77, (.string ⟨List.toArray b0⟩))] ⟨s 2 70 K, (Vv (h := 6) K).symm.trans m9, (Vv (h := 9) K).symm.trans n0, trivial⟩ fun p => ?_
            refine Z5 (e := Qk) (T := 79) (E := 9) (len := 4) (parts := #[(0, (.const (.string ⟨List.toArray ([116, 111, 107, 101, 110] : List UInt8)⟩))), (1, (.tmp 70)), (2, (.tmp 74)), (3, (.tmp 77))]) (cs := #[(.string ⟨List.toArray ([116, 111, 107, 101, 110] : List UInt8)⟩), (.string ⟨List.toArray q.1⟩), (.string ⟨List.toArray a8⟩), (.string ⟨List.toArray b0⟩)]) ([([116, 111, 107, 101, 110] : List UInt8), q.1, a8, b0] : List (List UInt8)) (d := (some 78)) (k := 10) K rfl (fun _ => K) x9 rfl rfl rfl rfl ?_
            intro y0 ag2 y1
            refine ⟨_, Qa p, trivial, ?_⟩
            exact (Exists.intro e5 (Exists.intro e6 (Exists.intro y0 (And.intro (And.intro x8 (And.intro m9 (And.intro n0 (And.intro rfl (trivial))))) y1))))
          ·refine oH 4 5 ?_
           ·rintro ρ' w' hs s ⟨e7, e8, d3, ⟨y2, y3, y4, n1, -⟩, i4⟩
            refine kN [(68, (.func (.func 56) #[] #[(pt m 0)])), (78, (.slice (some ⟨d3, 0, none⟩) (List.length ([([116, 111, 107, 101, 110] : List UInt8), q.1, a8, b0] : List (List UInt8))) (List.length ([([116, 111, 107, 101, 110] : List UInt8), q.1, a8, b0] : List (List UInt8)))))] ⟨s 0 68 K, (Vv (h := 10) K).symm.trans n1, trivial⟩ fun p => ?_
            refine X2 (f := 56) (fo := (.tmp 68)) (xs := #[(.tmp 78)]) (tys := #[79]) (first := #[]) (captured := #[(pt m 0)]) (d := (some 79)) (k := 11) K rfl K K Tryz.call56 (Yp (some ⟨d3, 0, none⟩) (List.length ([([116, 111, 107, 101, 110] : List UInt8), q.1, a8, b0] : List (List UInt8))) m (pt m 0) b6 b7 ([([116, 111, 107, 101, 110] : List UInt8), q.1, a8, b0] : List (List UInt8)) b2 w' (Jw i4 [1, 0] rfl rfl) (fun w hm => (Vn (SP.still i4 (l := [1, 0]) (i := 4) rfl rfl rfl hm))) (.inr rfl) e0 w2) ?_
            rintro e y5 ⟨i5, i6, rfl, n2⟩
            refine ⟨_, rfl, ?_⟩
            have y6 : SP [] w0 y5 [Qv a4 37 #[(.string ⟨List.toArray q.1⟩), (.string ⟨List.toArray q.2.1⟩), (.int .i64 q.2.2)], rdE eU8 (some ⟨e7, 0, none⟩) e8 q.2.1, Vb 9 Qk (some ⟨d3, 0, none⟩) (List.length ([([116, 111, 107, 101, 110] : List UInt8), q.1, a8, b0] : List (List UInt8))) ([([116, 111, 107, 101, 110] : List UInt8), q.1, a8, b0] : List (List UInt8)), Qv m 93 #[(pt m 0), (.slice i5 (List.length e0) i6)], Vb 5 eU8 i5 i6 e0] := Z6 i4 [1, 0] [2, 3, 4] rfl rfl n2 rfl
            clear n2
            refine ⟨_, Qa p, rfl, ?_⟩
            exact (Exists.intro e7 (Exists.intro e8 (Exists.intro d3 (Exists.intro i5 (Exists.intro i6 (And.intro (And.intro y2 (And.intro y3 (And.intro y4 (And.intro n1 (And.intro rfl (trivial)))))) y6))))))
          ·rintro ρ' w' hs hf ⟨i1, i2, i3, f7, f8, ⟨ag3, ag4, ag5, ag6, ag7, -⟩, n3⟩
           refine V3 [(3, (pt m 0)), (4, (.func (.func 56) #[] #[(pt m 0)])), (31, (.slice A6 (List.length (List.map stT d9)) c7)), (32, (.int .i64 ((List.length (List.map stT d9) : Nat) : Int))), (33, (.int .i64 a1)), (62, (.slice a.2.2.2.2.1 (List.length (stT a).2.2.2.2) a.2.2.2.2.2.1)), (63, (.int .i64 ((List.length (stT a).2.2.2.2 : Nat) : Int))), (64, (.int .i64 c1))] ⟨(hs 3 K).trans K, (hs 4 K).trans K, (hs 31 K).trans K, (hs 32 K).trans K, (hs 33 K).trans K, (hs 62 K).trans K, (hs 63 K).trans K, (hs 64 K).trans K, trivial⟩ ?_
           obtain ⟨ag8, y7⟩ : ∃ x, w' = x := ⟨_, rfl⟩
           rw [y7] at n3 ⊢
           refine aR ?_
           refine iR 2 2 [(80, (.int .i64 (IntKind.wrap .i64 (c1 + 1)))), (64, (.int .i64 (IntKind.wrap .i64 (c1 + 1))))] ?_
           refine iF ?_
           exact ⟨e0, (IntKind.wrap .i64 (c1 + 1)), f7, f8, ⟨K, K, K, K, K, K, K, K, trivial⟩, SP.sel n3 [4, 3] rfl rfl, H⟩
         ·have H := cf H i0
          refine At.exit K (id := 4) K ?_
          refine aR ?_
          refine iR 2 2 [(81, (.int .i64 (IntKind.wrap .i64 (a1 + 1)))), (33, (.int .i64 (IntKind.wrap .i64 (a1 + 1))))] ?_
          refine iF ?_
          exact ⟨b2, (IntKind.wrap .i64 (a1 + 1)), b6, b7, ⟨K, K, K, K, K, trivial⟩, SP.sel f6 [0, 1] rfl rfl, H⟩
        ·exact ⟨c6, 0, d7, d8, ⟨K, K, K, K, K, K, K, K, trivial⟩, SP.sel e4 [0, 1] rfl rfl, H⟩
      ·exact ⟨d5, 0, f3, f4, ⟨K, K, K, K, K, K, K, K, K, trivial⟩, SP.sel h2 [3, 2, 0] rfl rfl, H⟩
    ·have H := cf H g6
     refine At.exit K (id := 0) K ?_
     refine aQ ?_
     refine aR ?_
     refine iS 1 ?_
     refine cF 62 #[(.tmp 3)] #[93] 82 Tryz.call62 (Ls (g := m) (v := (pt m 0)) (A := b9) (c := c0) (l := b5) f2 (i := 1) (j := 0) rfl rfl (by decide) (.inr rfl)) ?_
     rintro e y8 ⟨rfl, n4⟩
     refine ⟨_, rfl, ?_⟩
     have y9 : SP [] w0 y8 [] := n4
     clear n4
     refine iR 1 2 [(2, (.string ⟨List.toArray b5⟩))] ?_
     refine iF ?_
     refine At.ret K ?_
     refine ⟨(.string ⟨List.toArray b5⟩), K, ?_⟩
     obtain rfl := Qg H
     exact ⟨rfl, SP.sel y9 [] rfl rfl⟩
   ·exact ⟨d4, 0, f0, f1, ⟨K, K, K, K, K, trivial⟩, SP.sel g5 [3, 2] rfl rfl, H⟩
end Go.Proofs.YtoflbpmbkmephaaGreatDoor
namespace Go.Proofs.YtoflbpmbkmephaaGreatDoor
open Go.RowKit
def U6 (ws : List Str) : Str := Ni 32 ws ++ [10]
def Ic (n : Hy) : List Str := [G1, Gh n.1.toNat n.2]
def Hb (x : C4) : List Str := [Js, x.1, Fe x.2.1, R0 x.2.2]
def Kd (t : Qb) : List Str := [Z3, t.1, R0 t.2.1, R0 t.2.2.1]
def Ut (c : U5) : List Str := [Zl, R0 c.1, R0 c.2.1, R0 c.2.2.1, R0 c.2.2.2.1]
def Rw (t : Qb) : List (List Str) := Kd t :: (t.2.2.2.1.map Ic ++ t.2.2.2.2.map Hb)
def Nl (c : U5) : List (List Str) := Ut c :: c.2.2.2.2.flatMap Rw
def Nq (c : U5) : Str := if okC c = true then (Nl c).flatMap U6 else []
theorem Lt (a : Nat) (b : Int) : (Gh a b).length ≤ 5000 := by
  unfold Gh
  cases h : Np a b with
  | false => simp
  | true =>
    have h1 := C3 a
    have h2 := Ns h
    have h3 := Gi b
    unfold R0 at h3
    rw [if_pos (by omega)] at h3
    simp only [List.length_append, List.length_cons]
    omega
theorem Id {ws : List Str} {m k : Nat} (h : ∀ w ∈ ws, w.length ≤ m) (hk : ws.length ≤ k) : (U6 ws).length ≤ k * m + k + 1 := by
  have h1 := H6 32 ws
  have h2 : (ws.map List.length).sum ≤ ws.length * m := by
    clear h1 hk
    induction ws with
    | nil => simp
    | cons w ws ih =>
      have := ih fun x hx => h x (by simp [hx])
      have := h w (by simp)
      simp only [List.map_cons, List.sum_cons, List.length_cons, Nat.succ_mul]
      omega
  have h3 : ws.length * m ≤ k * m := Nat.mul_le_mul_right _ hk
  unfold U6
  simp only [List.length_append, List.length_cons, List.length_nil]
  omega
theorem K0 (ws : List Str) (out : Str) (h : ∀ w ∈ ws, w.length ≤ 10000) (hk : ws.length ≤ 5) (ho : out.length ≤ 2000000000) : Xi ws out = some (out ++ U6 ws) := by
  have hl := Id h hk
  unfold U6 at hl ⊢
  simp only [List.length_append, List.length_cons, List.length_nil] at hl
  unfold Xi Jb Zu
  rw [Fg, Nat.ble_eq_true_of_le (show ws.length ≤ 140737488355328 by omega), Nat.ble_eq_true_of_le (show (Ni 32 ws).length ≤ 140737488355328 by omega)]
  simp only [Bool.and_true, cond_true, Option.bind_some]
  rw [D9 (by simp; omega), Option.bind_some, D9 (by simp; omega)]
  rfl
def SmT (t : Qb) : Prop := t.1.length ≤ 5000 ∧ t.2.2.2.1.length ≤ 4 ∧ t.2.2.2.2.length ≤ 4 ∧ (∀ n ∈ t.2.2.2.1, 0 ≤ n.1 ∧ n.1 < 4294967296) ∧ ∀ x ∈ t.2.2.2.2, x.1.length ≤ 5000 ∧ x.2.1.length ≤ 5000
theorem netW_ok (n : Hy) : (∀ w ∈ Ic n, w.length ≤ 10000) ∧ (Ic n).length ≤ 5 := by
  refine ⟨fun w hw => ?_, by simp [Ic]⟩
  have := Lt n.1.toNat n.2
  simp only [Ic, List.mem_cons, List.not_mem_nil, or_false] at hw
  rcases hw with rfl | rfl
  · decide
  · omega
theorem tokW_ok {x : C4} (h : x.1.length ≤ 5000 ∧ x.2.1.length ≤ 5000) : (∀ w ∈ Hb x, w.length ≤ 10000) ∧ (Hb x).length ≤ 5 := by
  refine ⟨fun w hw => ?_, by simp [Hb]⟩
  have h1 := Gi x.2.2
  have h2 := N7 x.2.1
  simp only [Hb, List.mem_cons, List.not_mem_nil, or_false] at hw
  rcases hw with rfl | rfl | rfl | rfl
  · decide
  · omega
  · omega
  · omega
theorem tenW_ok {t : Qb} (h : t.1.length ≤ 5000) : (∀ w ∈ Kd t, w.length ≤ 10000) ∧ (Kd t).length ≤ 5 := by
  refine ⟨fun w hw => ?_, by simp [Kd]⟩
  have h1 := Gi t.2.1
  have h2 := Gi t.2.2.1
  simp only [Kd, List.mem_cons, List.not_mem_nil, or_false] at hw
  rcases hw with rfl | rfl | rfl | rfl
  · decide
  · omega
  · omega
  · omega
theorem timesW_ok (c : U5) : (∀ w ∈ Ut c, w.length ≤ 10000) ∧ (Ut c).length ≤ 5 := by
  refine ⟨fun w hw => ?_, by simp [Ut]⟩
  have h1 := Gi c.1
  have h2 := Gi c.2.1
  have h3 := Gi c.2.2.1
  have h4 := Gi c.2.2.2.1
  simp only [Ut, List.mem_cons, List.not_mem_nil, or_false] at hw
  rcases hw with rfl | rfl | rfl | rfl | rfl
  · decide
  · omega
  · omega
  · omega
  · omega
theorem Da {ws : List Str} (h : (∀ w ∈ ws, w.length ≤ 10000) ∧ ws.length ≤ 5) : (U6 ws).length ≤ 60000 := by
  have := Id h.1 h.2
  omega
theorem Ke {α : Type} (g : α → List Str) : ∀ l : List α, (∀ x ∈ l, (∀ w ∈ g x, w.length ≤ 10000) ∧ (g x).length ≤ 5) → (l.flatMap fun x => U6 (g x)).length ≤ l.length * 60000
  | [], _ => by simp
  | x :: l, h => by
    have h1 := Ke g l fun y hy => h y (by simp [hy])
    have h2 := Da (h x (by simp))
    simp only [List.flatMap_cons, List.length_append, List.length_cons, Nat.succ_mul]
    omega
theorem Fm (t : Qb) : (Rw t).flatMap U6 = U6 (Kd t) ++ ((t.2.2.2.1.flatMap fun n => U6 (Ic n)) ++ t.2.2.2.2.flatMap fun x => U6 (Hb x)) := by
  unfold Rw
  rw [List.flatMap_cons, List.flatMap_append, List.flatMap_map, List.flatMap_map]
theorem tenLs_le {t : Qb} (h : SmT t) : ((Rw t).flatMap U6).length ≤ 600000 := by
  obtain ⟨h1, h2, h3, h4, h5⟩ := h
  have a1 := Da (tenW_ok h1)
  have a2 := Ke Ic t.2.2.2.1 fun n _ => netW_ok n
  have a3 := Ke Hb t.2.2.2.2 fun x hx => tokW_ok (h5 x hx)
  rw [Fm]
  simp only [List.length_append]
  have : t.2.2.2.1.length * 60000 ≤ 4 * 60000 := Nat.mul_le_mul_right _ h2
  have : t.2.2.2.2.length * 60000 ≤ 4 * 60000 := Nat.mul_le_mul_right _ h3
  omega
theorem pTok_loop (r16 r20 : Str → Int → Option Str) (v : Int) (t : Qb) (ht : SmT t) : ∀ (d i f : Nat) (out : Str), d = t.2.2.2.2.length - i → i ≤ t.2.2.2.2.length → d < f → out.length + d * 60000 ≤ 2000000000 →
    Xc r16 r20 v t f out (i : Int) = r16 (out ++ (t.2.2.2.2.drop i).flatMap fun x => U6 (Hb x)) (IntKind.wrap .i64 (v + 1)) := by
  intro d
  induction d with
  | zero =>
    intro i f out hd hi hf ho
    obtain ⟨f, rfl⟩ : ∃ g, f = g + 1 := ⟨f - 1, by omega⟩
    show Xb r16 r20 (Xc r16 r20 v t f) v t out (i : Int) = _
    unfold Xb
    rw [show decide ((i : Int) < ((List.length t.2.2.2.2 : Nat) : Int)) = false from decide_eq_false (by omega), cond_false, List.drop_of_length_le (by omega)]
    simp
  | succ d ih =>
    intro i f out hd hi hf ho
    obtain ⟨f, rfl⟩ : ∃ g, f = g + 1 := ⟨f - 1, by omega⟩
    have hlt : i < t.2.2.2.2.length := by omega
    have h2 := ht.2.2.1
    have hx := ht.2.2.2.2 _ (List.getElem_mem hlt)
    have hw := tokW_ok hx
    have hle := Da hw
    show Xb r16 r20 (Xc r16 r20 v t f) v t out (i : Int) = _
    unfold Xb
    rw [show decide ((i : Int) < ((List.length t.2.2.2.2 : Nat) : Int)) = true from decide_eq_true (by omega), cond_true, Y3 hlt, Option.bind_some, Nat.ble_eq_true_of_le (show (t.2.2.2.2[i]).2.1.length ≤ 281474976710656 by omega), show chk true = some () from rfl, Option.bind_some, prog_hex _ (by omega), Option.bind_some, Na, Option.bind_some]
    have hp := K0 (Hb t.2.2.2.2[i]) out hw.1 hw.2 (by omega)
    unfold Hb at hp
    rw [hp, Option.bind_some, show ((i : Int) + 1) = ((i + 1 : Nat) : Int) by omega, Uc (by omega)]
    have hle' : (U6 [Js, (t.2.2.2.2[i]).1, Fe (t.2.2.2.2[i]).2.1, R0 (t.2.2.2.2[i]).2.2]).length ≤ 60000 := hle
    rw [ih (i + 1) f _ (by omega) (by omega) (by omega) (by simp only [List.length_append]; omega), List.drop_eq_getElem_cons hlt, List.flatMap_cons, ← List.append_assoc]
    rfl
theorem pNet_loop (r16 : Str → Int → Option Str) (v : Int) (t : Qb) (ht : SmT t) : ∀ (d i f : Nat) (out : Str), d = t.2.2.2.1.length - i → i ≤ t.2.2.2.1.length → d < f → out.length + d * 60000 + 300000 ≤ 2000000000 →
    Vt r16 v t f out (i : Int) = r16 (out ++ ((t.2.2.2.1.drop i).flatMap fun n => U6 (Ic n)) ++ t.2.2.2.2.flatMap fun x => U6 (Hb x)) (IntKind.wrap .i64 (v + 1)) := by
  intro d
  induction d with
  | zero =>
    intro i f out hd hi hf ho
    obtain ⟨f, rfl⟩ : ∃ g, f = g + 1 := ⟨f - 1, by omega⟩
    show Xd r16 (Vt r16 v t f) v t out (i : Int) = _
    unfold Xd
    have := pTok_loop r16 (Vt r16 v t f) v t ht t.2.2.2.2.length 0 X0 out (by omega) (by omega) (by have := ht.2.2.1; unfold X0; omega) (by have := ht.2.2.1; omega)
    rw [show ((0 : Nat) : Int) = 0 from rfl, List.drop_zero] at this
    rw [show decide ((i : Int) < ((List.length t.2.2.2.1 : Nat) : Int)) = false from decide_eq_false (by omega), cond_false, List.drop_of_length_le (by omega), this]
    simp
  | succ d ih =>
    intro i f out hd hi hf ho
    obtain ⟨f, rfl⟩ : ∃ g, f = g + 1 := ⟨f - 1, by omega⟩
    have hlt : i < t.2.2.2.1.length := by omega
    have h2 := ht.2.1
    obtain ⟨hn0, hn1⟩ := ht.2.2.2.1 _ (List.getElem_mem hlt)
    have hw := netW_ok t.2.2.2.1[i]
    have hle := Da hw
    show Xd r16 (Vt r16 v t f) v t out (i : Int) = _
    unfold Xd
    have hs := lSlash (t.2.2.2.1[i]).1.toNat (by omega) (t.2.2.2.1[i]).2
    rw [show (((t.2.2.2.1[i]).1.toNat : Nat) : Int) = (t.2.2.2.1[i]).1 by omega] at hs
    rw [show decide ((i : Int) < ((List.length t.2.2.2.1 : Nat) : Int)) = true from decide_eq_true (by omega), cond_true, Y3 hlt, Option.bind_some, hs, Option.bind_some]
    have hp := K0 (Ic t.2.2.2.1[i]) out hw.1 hw.2 (by omega)
    unfold Ic at hp
    rw [hp, Option.bind_some, show ((i : Int) + 1) = ((i + 1 : Nat) : Int) by omega, Uc (by omega)]
    have hle' : (U6 [G1, Gh (t.2.2.2.1[i]).1.toNat (t.2.2.2.1[i]).2]).length ≤ 60000 := hle
    rw [ih (i + 1) f _ (by omega) (by omega) (by omega) (by simp only [List.length_append]; omega), List.drop_eq_getElem_cons hlt, List.flatMap_cons, ← List.append_assoc]
    rfl
theorem pTen_loop (l : List Qb) (hl : l.length ≤ 8) (ht : ∀ t ∈ l, SmT t) : ∀ (d i f : Nat) (out : Str), d = l.length - i → i ≤ l.length → d < f → out.length + d * 600000 ≤ 1000000000 →
    Q1 l f out (i : Int) = some (out ++ (l.drop i).flatMap fun t => (Rw t).flatMap U6) := by
  intro d
  induction d with
  | zero =>
    intro i f out hd hi hf ho
    obtain ⟨f, rfl⟩ : ∃ g, f = g + 1 := ⟨f - 1, by omega⟩
    show Xe (Q1 l f) l out (i : Int) = _
    unfold Xe
    rw [show decide ((i : Int) < ((List.length l : Nat) : Int)) = false from decide_eq_false (by omega), cond_false, List.drop_of_length_le (by omega)]
    simp
  | succ d ih =>
    intro i f out hd hi hf ho
    obtain ⟨f, rfl⟩ : ∃ g, f = g + 1 := ⟨f - 1, by omega⟩
    have hlt : i < l.length := by omega
    have hs := ht _ (List.getElem_mem hlt)
    have hw := tenW_ok hs.1
    have hle := Da hw
    have htl := tenLs_le hs
    show Xe (Q1 l f) l out (i : Int) = _
    unfold Xe
    rw [show decide ((i : Int) < ((List.length l : Nat) : Int)) = true from decide_eq_true (by omega), cond_true, Y3 hlt, Option.bind_some, Na, Option.bind_some, Na, Option.bind_some]
    have hp := K0 (Kd l[i]) out hw.1 hw.2 (by omega)
    unfold Kd at hp
    have hle' : (U6 [Z3, (l[i]).1, R0 (l[i]).2.1, R0 (l[i]).2.2.1]).length ≤ 60000 := hle
    have hnet := pNet_loop (Q1 l f) (i : Int) l[i] hs l[i].2.2.2.1.length 0 X0 (out ++ U6 [Z3, (l[i]).1, R0 (l[i]).2.1, R0 (l[i]).2.2.1]) (by omega) (by omega) (by have := hs.2.1; unfold X0; omega) (by have := hs.2.1; simp only [List.length_append]; omega)
    rw [show ((0 : Nat) : Int) = 0 from rfl, List.drop_zero] at hnet
    rw [hp, Option.bind_some, hnet, show ((i : Int) + 1) = ((i + 1 : Nat) : Int) by omega, Uc (by omega), List.append_assoc, List.append_assoc]
    have he : U6 [Z3, (l[i]).1, R0 (l[i]).2.1, R0 (l[i]).2.2.1] ++ ((l[i].2.2.2.1.flatMap fun n => U6 (Ic n)) ++ l[i].2.2.2.2.flatMap fun x => U6 (Hb x)) = (Rw l[i]).flatMap U6 := (Fm l[i]).symm
    rw [he, ih (i + 1) f _ (by omega) (by omega) (by omega) (by simp only [List.length_append]; omega), List.drop_eq_getElem_cons hlt, List.flatMap_cons, ← List.append_assoc]
theorem okC_sm {c : U5} (hq : ∀ t ∈ c.2.2.2.2, Ly t) (ho : okC c = true) : c.2.2.2.2.length ≤ 8 ∧ ∀ t ∈ c.2.2.2.2, SmT t ∧ Bt t = true := by
  unfold okC I3 at ho
  simp only [Bool.and_eq_true, decide_eq_true_eq, List.all_eq_true] at ho
  obtain ⟨_, h1, h2, _⟩ := ho
  refine ⟨h1, fun t ht => ⟨?_, h2 t ht⟩⟩
  have h3 := h2 t ht
  obtain ⟨q1, q2, q3, q4, q5⟩ := hq t ht
  unfold Bt at h3
  simp only [Bool.and_eq_true, decide_eq_true_eq, List.all_eq_true] at h3
  obtain ⟨⟨_, hk⟩, ⟨hn, h4, h5⟩, _⟩ := h3
  refine ⟨by have := Ks hn; omega, h4, h5, q4, fun x hx => ?_⟩
  have hx' := hk x hx
  unfold C5 at hx'
  simp only [Bool.and_eq_true, decide_eq_true_eq] at hx'
  exact ⟨by have := Ks hx'.1; omega, by omega⟩
theorem pPrint (c : U5) (hl : c.2.2.2.2.length ≤ 140737488355328) (hq : ∀ t ∈ c.2.2.2.2, Ly t) : Ys c.1 c.2.1 c.2.2.1 c.2.2.2.1 c.2.2.2.2 = some (Nq c) := by
  unfold Ys Nq
  rw [lCfg _ _ _ _ _ hl hq, Option.bind_some]
  show cond (!okC c) _ _ = _
  cases ho : okC c with
  | false => rfl
  | true =>
    obtain ⟨h1, h2⟩ := okC_sm hq ho
    have hw := timesW_ok c
    have hle := Da hw
    have hp := K0 (Ut c) [] hw.1 hw.2 (by simp)
    unfold Ut at hp
    have hle' : (U6 [Zl, R0 c.1, R0 c.2.1, R0 c.2.2.1, R0 c.2.2.2.1]).length ≤ 60000 := hle
    have ht := pTen_loop c.2.2.2.2 h1 (fun t ht => (h2 t ht).1) c.2.2.2.2.length 0 X0 (U6 (Ut c)) (by omega) (by omega) (by unfold X0; omega) (by omega)
    rw [show ((0 : Nat) : Int) = 0 from rfl, List.drop_zero] at ht
    rw [Bool.not_true, cond_false, Na, Option.bind_some, Na, Option.bind_some, Na, Option.bind_some, Na, Option.bind_some, hp, Option.bind_some, List.nil_append, if_pos rfl]
    unfold Nl
    rw [List.flatMap_cons, List.flatMap_assoc]
    exact ht
end Go.Proofs.YtoflbpmbkmephaaGreatDoor
namespace Go.Proofs.YtoflbpmbkmephaaGreatDoor
open Go.RowKit
open Go.Lib (decDigits)
theorem Uu (c : U5) (l : List Qb) (t : Qb) : Nl (B0 c (l ++ [t])) = (Ut c :: l.flatMap Rw) ++ Rw t := by
  unfold Nl B0
  simp [Ut]
theorem Ie {t : Qb} (n : Hy) (h : t.2.2.2.2 = []) : Rw (B9 t n) = Rw t ++ [Ic n] := by
  unfold Rw B9
  simp [h, Kd]
theorem If (t : Qb) (x : C4) : Rw (Eh t x) = Rw t ++ [Hb x] := by
  unfold Rw Eh
  simp [Kd]
theorem Lu {c c' : U5} {f : Bool} {ws : List Str} (h : Cj c f ws = some c') : Nl c' = (if f = true then [] else Nl c) ++ [ws] := by
  obtain ⟨k, q, rfl, hf, hw, ho⟩ := Fl h
  unfold Nn at hw
  have lastE : ∀ t : Qb, c.2.2.2.2.getLast? = some t → Nl c = (Ut c :: c.2.2.2.2.dropLast.flatMap Rw) ++ Rw t := by
    intro t ht
    have := Uu c c.2.2.2.2.dropLast t
    rw [← Kb ht] at this
    exact this
  split at hw
  · rename_i hk
    subst hk
    have hf : f = true := by simpa using hf
    rw [if_pos hf]
    split at hw
    · simp only [Option.bind_eq_some_iff, Option.map_eq_some_iff] at hw
      obtain ⟨n1, h1, n2, h2, n3, h3, n4, h4, rfl⟩ := hw
      unfold Nl Ut
      simp [(N8 h1).1, (N8 h2).1, (N8 h3).1, (N8 h4).1]
    · cases hw
  · rename_i hk
    have hf : f = false := by
      rw [beq_eq_false_iff_ne.2 hk] at hf
      cases f
      · rfl
      · cases hf
    rw [if_neg (by rw [hf]; decide)]
    split at hw
    · split at hw
      · simp only [Option.bind_eq_some_iff, Option.map_eq_some_iff] at hw
        obtain ⟨n, h1, m, h2, rfl⟩ := hw
        rename_i hkt _ _ _ _
        rw [Uu, hkt]
        unfold Nl Rw Kd
        simp [(N8 h1).1, (N8 h2).1]
      · cases hw
    · split at hw
      · split at hw
        · simp only [Option.bind_eq_some_iff] at hw
          obtain ⟨t, ht, hw⟩ := hw
          split at hw
          · rename_i hkt _ _ h0
            simp only [Option.map_eq_some_iff] at hw
            obtain ⟨⟨x, y⟩, hn, rfl⟩ := hw
            have hs := (H3 hn).1
            rw [Uu, Ie _ h0, lastE t ht, hkt]
            unfold Ic
            simp [hs]
          · cases hw
        · cases hw
      · split at hw
        · split at hw
          · simp only [Option.bind_eq_some_iff, Option.map_eq_some_iff] at hw
            obtain ⟨t, ht, x, hx, n, hn, rfl⟩ := hw
            rename_i hkt _ _ _ _
            rw [Uu, If, lastE t ht, hkt]
            unfold Hb
            simp [By hx, (N8 hn).1]
          · cases hw
        · cases hw
theorem Ig : ∀ (ps : List Str) (c c' : U5) (n n' : Nat), Fk ps c n = .inr (c', n') → Nl c' = (if n = 0 ∧ ps ≠ [] then [] else Nl c) ++ ps.map (Qp 32) ∧ n' = n + ps.length
  | [], c, c', n, n', h => by
    injection h with h
    injection h with h1 h2
    subst h1 h2
    simp
  | p :: ps, c, c', n, n', h => by
    unfold Fk at h
    cases hw : Cj c (decide (n = 0)) (Qp 32 p) with
    | none => rw [hw] at h; cases h
    | some c1 =>
      rw [hw] at h
      obtain ⟨h1, h2⟩ := Ig ps c1 c' (n + 1) n' h
      have h3 := Lu hw
      rw [h1, if_neg (by simp), h3]
      refine ⟨?_, by simp; omega⟩
      by_cases h0 : n = 0
      · rw [if_pos (decide_eq_true h0), if_pos ⟨h0, by simp⟩]
        simp
      · rw [if_neg (by simpa using h0), if_neg (fun h => h0 h.1)]
        simp
theorem Ih (p : Str) (ps : List Str) (c : U5) (n : Nat) : Fk (p :: ps) c n = match Cj c (decide (n = 0)) (Qp 32 p) with
    | none => .inl n
    | some c' => Fk ps c' (n + 1) := rfl
theorem K1 : ∀ (ps qs : List Str) (c : U5) (n : Nat), Fk (ps ++ qs) c n = match Fk ps c n with | .inl a => .inl a | .inr (c', n') => Fk qs c' n'
  | [], qs, c, n => rfl
  | p :: ps, qs, c, n => by
    rw [List.cons_append, Ih, Ih]
    cases Cj c (decide (n = 0)) (Qp 32 p) with
    | none => rfl
    | some c1 => exact K1 ps qs c1 (n + 1)
def noW (w : Str) : Prop := (32 : UInt8) ∉ w ∧ (10 : UInt8) ∉ w
theorem K2 (n : Int) : noW (R0 n) := ⟨dec_no' (by decide) n, dec_no' (by decide) n⟩
theorem no_hex (s : Str) : noW (Fe s) := ⟨hex_no (by decide) s, hex_no (by decide) s⟩
theorem no_name {s : Str} (h : Df s = true) : noW s := ⟨name_no (by decide) h, name_no (by decide) h⟩
theorem no_slash (a : Nat) (b : Int) : noW (Gh a b) := by
  unfold Gh
  cases Np a b with
  | false => exact ⟨by simp, by simp⟩
  | true =>
    refine ⟨?_, ?_⟩
    · simp only [List.mem_append, List.mem_cons, not_or]
      exact ⟨dots_no (by decide) (by decide) a, by decide, Bh (by decide)⟩
    · simp only [List.mem_append, List.mem_cons, not_or]
      exact ⟨dots_no (by decide) (by decide) a, by decide, Bh (by decide)⟩
theorem no_tok {x : C4} (h : C5 x = true) : ∀ w ∈ Hb x, noW w := by
  unfold C5 at h
  simp only [Bool.and_eq_true] at h
  intro w hw
  simp only [Hb, List.mem_cons, List.not_mem_nil, or_false] at hw
  rcases hw with rfl | rfl | rfl | rfl
  · exact ⟨by decide, by decide⟩
  · exact no_name h.1
  · exact no_hex _
  · exact K2 _
theorem no_net (n : Hy) : ∀ w ∈ Ic n, noW w := by
  intro w hw
  simp only [Ic, List.mem_cons, List.not_mem_nil, or_false] at hw
  rcases hw with rfl | rfl
  · exact ⟨by decide, by decide⟩
  · exact no_slash _ _
theorem no_ten {t : Qb} (h : Df t.1 = true) : ∀ w ∈ Kd t, noW w := by
  intro w hw
  simp only [Kd, List.mem_cons, List.not_mem_nil, or_false] at hw
  rcases hw with rfl | rfl | rfl | rfl
  · exact ⟨by decide, by decide⟩
  · exact no_name h
  · exact K2 _
  · exact K2 _
theorem K3 (c : U5) : ∀ w ∈ Ut c, noW w := by
  intro w hw
  simp only [Ut, List.mem_cons, List.not_mem_nil, or_false] at hw
  rcases hw with rfl | rfl | rfl | rfl | rfl
  · exact ⟨by decide, by decide⟩
  all_goals exact K2 _
theorem K4 {c d : UInt8} (hd : d ≠ c) : ∀ l : List Str, (∀ w ∈ l, d ∉ w) → d ∉ Ni c l
  | [], _ => by simp [Ni]
  | [p], h => by simpa [Ni] using h p (by simp)
  | p :: q :: ps, h => by
    have ih := K4 hd (q :: ps) fun w hw => h w (by simp [hw])
    rw [Ni, List.mem_append, List.mem_cons]
    rintro (e | e | e)
    · exact h p (by simp) e
    · exact hd e
    · exact ih e
def Fn (c : U5) : Prop := ∀ t ∈ c.2.2.2.2, ∀ n ∈ t.2.2.2.1, 0 ≤ n.1 ∧ n.1 < 4294967296
theorem Em : ∀ (l m : List Str), Et (l ++ m) = true → Et l = true
  | [], _, _ => rfl
  | [_], _, _ => rfl
  | a :: b :: r, m, h => by
    have h : (Op.bytesLess a b && Et (b :: r ++ m)) = true := h
    rw [Bool.and_eq_true] at h
    show (Op.bytesLess a b && Et (b :: r)) = true
    rw [h.1, Em (b :: r) m h.2]
    rfl
theorem Kf (c : U5) : okC c = true ↔ (Ng c.1 = true ∧ Ng c.2.1 = true ∧ Ng c.2.2.1 = true ∧ Ng c.2.2.2.1 = true) ∧ c.2.2.2.2.length ≤ 8 ∧ (∀ t ∈ c.2.2.2.2, Bt t = true) ∧ Et (c.2.2.2.2.map (·.1)) = true := by
  unfold okC I3
  simp only [Bool.and_eq_true, decide_eq_true_eq, List.all_eq_true]
theorem En (t : Qb) : Bt t = true ↔ (∀ n ∈ t.2.2.2.1, I2 n = true) ∧ (∀ x ∈ t.2.2.2.2, C5 x = true) ∧ Df t.1 = true ∧ t.2.2.2.1.length ≤ 4 ∧ t.2.2.2.2.length ≤ 4 ∧ qOk t.2.1 = true ∧ qOk t.2.2.1 = true ∧ Et (t.2.2.2.2.map (·.1)) = true := by
  unfold Bt
  simp only [Bool.and_eq_true, decide_eq_true_eq, List.all_eq_true]
  constructor
  · rintro ⟨⟨a, b⟩, ⟨c, d, e⟩, ⟨f, g⟩, h⟩
    exact ⟨a, b, c, d, e, f, g, h⟩
  · rintro ⟨a, b, c, d, e, f, g, h⟩
    exact ⟨⟨a, b⟩, ⟨c, d, e⟩, ⟨f, g⟩, h⟩
theorem Cn {c c' : U5} {k : Str} {q : List Str} {f : Bool} (hf : ((k == Zl) == f) = true) (hw : Nn c k q = some c') (ho : okC c' = true) : Cj c f (k :: q) = some c' := by
  show (if (k == Zl) == f then (Nn c k q).filter okC else none) = some c'
  rw [if_pos hf, hw, Option.filter_some_pos ho]
theorem qOk_fin {n : Int} (h : qOk n = true) : finB n = true := by
  unfold qOk at h
  unfold finB
  simp only [Bool.and_eq_true, decide_eq_true_eq] at h ⊢
  omega
theorem Db {n : Int} (h : Ng n = true) : finB n = true := by
  unfold Ng at h
  unfold finB
  simp only [Bool.and_eq_true, decide_eq_true_eq] at h ⊢
  omega
theorem tokOk_fin {x : C4} (h : C5 x = true) : finB x.2.2 = true := by
  unfold C5 at h
  unfold finB
  simp only [Bool.and_eq_true, decide_eq_true_eq] at h ⊢
  exact h.2.2
theorem one_less (c : U5) (ho : okC c = true) (hr : Fn c) :
    (c.2.2.2.2 = [] ∧ Nl c = [Ut c] ∧ Cj c0C true (Ut c) = some c) ∨
    ∃ c1 ws, okC c1 = true ∧ Fn c1 ∧ Nl c = Nl c1 ++ [ws] ∧ Cj c1 false ws = some c ∧ (∀ w ∈ ws, noW w) ∧ ws ≠ [] := by
  obtain ⟨⟨t1, t2, t3, t4⟩, h8, hts, hris⟩ := (Kf c).1 ho
  rcases List.eq_nil_or_concat c.2.2.2.2 with h0 | ⟨l, t, hl⟩
  · refine .inl ⟨h0, by unfold Nl; rw [h0]; rfl, ?_⟩
    obtain ⟨n1, p1, e1⟩ := Rf (Db t1)
    obtain ⟨n2, p2, e2⟩ := Rf (Db t2)
    obtain ⟨n3, p3, e3⟩ := Rf (Db t3)
    obtain ⟨n4, p4, e4⟩ := Rf (Db t4)
    refine Cn rfl ?_ ho
    rw [Ei, p1, Option.bind_some, p2, Option.bind_some, p3, Option.bind_some, p4, Option.map_some, e1, e2, e3, e4, ← h0]
  · rw [List.concat_eq_append] at hl
    have ht : t ∈ c.2.2.2.2 := by rw [hl]; simp
    obtain ⟨a1, a2, a3, a4, a5, a6, a7, a8⟩ := (En t).1 (hts t ht)
    have hc : c = B0 c (l ++ [t]) := by rw [← hl]; rfl
    have hlast : ∀ t' : Qb, (B0 c (l ++ [t'])).2.2.2.2.getLast? = some t' := fun t' => by simp [B0]
    have hdrop : ∀ t' : Qb, (B0 c (l ++ [t'])).2.2.2.2.dropLast = l := fun t' => by simp [B0]
    have okput : ∀ t' : Qb, t'.1 = t.1 → Bt t' = true → okC (B0 c (l ++ [t'])) = true := by
      intro t' hn hok
      rw [Kf]
      refine ⟨⟨t1, t2, t3, t4⟩, by rw [hl] at h8; simpa [B0] using h8, fun y hy => ?_, ?_⟩
      · rcases List.mem_append.1 hy with hy | hy
        · exact hts y (by rw [hl]; simp [hy])
        · rw [List.mem_singleton] at hy
          subst hy
          exact hok
      · rw [hl] at hris
        simpa [B0, hn] using hris
    have raput : ∀ t' : Qb, (∀ n ∈ t'.2.2.2.1, n ∈ t.2.2.2.1) → Fn (B0 c (l ++ [t'])) := by
      intro t' hn y hy n hm
      rcases List.mem_append.1 hy with hy | hy
      · exact hr y (by rw [hl]; simp [hy]) n hm
      · rw [List.mem_singleton] at hy
        subst hy
        exact hr t ht n (hn n hm)
    right
    rcases List.eq_nil_or_concat t.2.2.2.2 with k0 | ⟨tk, x, hx⟩
    · rcases List.eq_nil_or_concat t.2.2.2.1 with m0 | ⟨ns, n, hn⟩
      ·
        obtain ⟨n1, p1, e1⟩ := Rf (qOk_fin a6)
        obtain ⟨n2, p2, e2⟩ := Rf (qOk_fin a7)
        refine ⟨B0 c l, Kd t, ?_, ?_, ?_, ?_, no_ten a3, by simp [Kd]⟩
        · rw [Kf]
          refine ⟨⟨t1, t2, t3, t4⟩, by rw [hl] at h8; simp at h8; show l.length ≤ 8; omega, fun y hy => hts y (by rw [hl]; exact List.mem_append_left _ hy), ?_⟩
          rw [hl, List.map_append] at hris
          exact Em _ _ hris
        · intro y hy n hm
          exact hr y (by rw [hl]; exact List.mem_append_left _ hy) n hm
        · conv => lhs; rw [hc, Uu]
          unfold Nl Rw B0
          rw [k0, m0]
          rfl
        · refine Cn rfl ?_ ho
          rw [Ca, p1, Option.bind_some, p2, Option.map_some, e1, e2]
          congr 1
          conv => rhs; rw [hc]
          show B0 c (l ++ [(t.1, t.2.1, t.2.2.1, [], [])]) = B0 c (l ++ [t])
          rw [← k0, ← m0]
      ·
        rw [List.concat_eq_append] at hn
        have hnm : n ∈ t.2.2.2.1 := by rw [hn]; simp
        have hno := a1 n hnm
        obtain ⟨r0, r1⟩ := hr t ht n hnm
        let t' : Qb := (t.1, t.2.1, t.2.2.1, ns, t.2.2.2.2)
        have hadd : B9 t' n = t := by
          show (t.1, t.2.1, t.2.2.1, ns ++ [n], t.2.2.2.2) = t
          rw [← hn]
        refine ⟨B0 c (l ++ [t']), Ic n, okput t' rfl ?_, raput t' (fun y hy => by rw [hn]; exact List.mem_append_left _ hy), ?_, ?_, no_net n, by simp [Ic]⟩
        · rw [En]
          refine ⟨fun y hy => a1 y (by rw [hn]; exact List.mem_append_left _ hy), a2, a3, ?_, a5, a6, a7, a8⟩
          rw [hn] at a4
          simp at a4
          show ns.length ≤ 4
          omega
        · conv => lhs; rw [hc, ← hadd, Uu, Ie (t := t') n k0]
          rw [Uu, List.append_assoc]
        · refine Cn rfl ?_ ho
          have hs := net_slash (a := n.1.toNat) (by omega) n.2
          unfold I2 at hno
          rw [hno] at hs
          have hb := Ns hno
          rw [H9, hlast, Option.bind_some, if_pos k0, hs, Option.map_some, hdrop]
          congr 1
          conv => rhs; rw [hc, ← hadd]
          show B0 c (l ++ [B9 t' ((n.1.toNat : Int), (n.2.toNat : Int))]) = _
          rw [show ((n.1.toNat : Nat) : Int) = n.1 by omega, show ((n.2.toNat : Nat) : Int) = n.2 by omega]
    ·
      rw [List.concat_eq_append] at hx
      have hxm : x ∈ t.2.2.2.2 := by rw [hx]; simp
      have hxo := a2 x hxm
      let t' : Qb := (t.1, t.2.1, t.2.2.1, t.2.2.2.1, tk)
      have hadd : Eh t' x = t := by
        show (t.1, t.2.1, t.2.2.1, t.2.2.2.1, tk ++ [x]) = t
        rw [← hx]
      refine ⟨B0 c (l ++ [t']), Hb x, okput t' rfl ?_, raput t' (fun y hy => hy), ?_, ?_, no_tok hxo, by simp [Hb]⟩
      · rw [En]
        refine ⟨a1, fun y hy => a2 y (by rw [hx]; exact List.mem_append_left _ hy), a3, a4, ?_, a6, a7, ?_⟩
        · rw [hx] at a5
          simp at a5
          show tk.length ≤ 4
          omega
        · rw [hx, List.map_append] at a8
          exact Em _ _ a8
      · conv => lhs; rw [hc, ← hadd, Uu, If t' x]
        rw [Uu, List.append_assoc]
      · refine Cn rfl ?_ ho
        obtain ⟨n1, p1, e1⟩ := Rf (tokOk_fin hxo)
        rw [Ej, hlast, Option.bind_some, H5, Option.bind_some, p1, Option.map_some, hdrop, e1]
        congr 1
        conv => rhs; rw [hc, ← hadd]
        rfl
theorem run_back : ∀ (N : Nat) (c : U5), (Nl c).length = N → okC c = true → Fn c → Fk ((Nl c).map (Ni 32)) c0C 0 = .inr (c, N) ∧ ∀ ws ∈ Nl c, (∀ w ∈ ws, noW w) ∧ ws ≠ [] := by
  intro N
  induction N with
  | zero =>
    intro c hN
    simp [Nl] at hN
  | succ N ih =>
    intro c hN ho hr
    rcases one_less c ho hr with ⟨h0, h1, h2⟩ | ⟨c1, ws, o1, r1, e1, l1, n1, n2⟩
    · rw [h1] at hN ⊢
      have hN : N = 0 := by simpa using hN.symm
      subst hN
      refine ⟨?_, fun ws hws => ?_⟩
      · rw [List.map_cons, List.map_nil]
        unfold Fk
        rw [Bz 32 (Ut c) (by simp [Ut]) fun w hw => (K3 c w hw).1, show decide ((0 : Nat) = 0) = true from rfl, h2]
        rfl
      · rw [List.mem_singleton] at hws
        subst hws
        exact ⟨K3 c, by simp [Ut]⟩
    · rw [e1] at hN ⊢
      have hN1 : (Nl c1).length = N := by simpa using hN
      obtain ⟨h1, h2⟩ := ih c1 hN1 o1 r1
      have hpos : N ≠ 0 := by
        rw [← hN1]
        simp [Nl]
      refine ⟨?_, fun w hw => ?_⟩
      · rw [List.map_append, K1, h1]
        show Fk [Ni 32 ws] c1 N = _
        unfold Fk
        rw [Bz 32 ws n2 fun w hw => (n1 w hw).1, decide_eq_false hpos, l1]
        rfl
      · rcases List.mem_append.1 hw with hw | hw
        · exact h2 w hw
        · rw [List.mem_singleton] at hw
          subst hw
          exact ⟨n1, n2⟩
theorem Fo : ∀ ps : List Str, (∀ p ∈ ps, (10 : UInt8) ∉ p) → ∀ r : Str, Qp 10 (ps.flatMap (fun p => p ++ [10]) ++ r) = ps ++ Qp 10 r
  | [], _, r => rfl
  | p :: ps, h, r => by
    rw [List.flatMap_cons, List.append_assoc, List.append_assoc, List.cons_append, List.nil_append, Nv 10 p _ (h p (by simp)), Fo ps (fun q hq => h q (by simp [hq])) r]
    rfl
theorem Fp (c : UInt8) : ∀ (ps : List Str) (q : Str), Ni c (ps ++ [q]) = ps.flatMap (fun p => p ++ [c]) ++ q
  | [], q => rfl
  | [p], q => by simp [Ni]
  | p :: p2 :: ps, q => by
    have := Fp c (p2 :: ps) q
    rw [List.cons_append] at this
    show Ni c (p :: p2 :: (ps ++ [q])) = _
    rw [Ni, this]
    simp
theorem Lv (s : Str) : s = (Qp 10 s).dropLast.flatMap (fun p => p ++ [10]) ++ (Qp 10 s).getLastD [] := by
  have h := R9 10 s
  rw [B1 10 s, Fp] at h
  rw [B1 10 s, List.dropLast_concat] at *
  simpa using h.symm
theorem Cb {c : U5} (ho : okC c = true) : Nq c = ((Nl c).map (Ni 32)).flatMap (fun p => p ++ [10]) := by
  unfold Nq
  rw [if_pos ho, List.flatMap_map]
  rfl
theorem Kg {c : U5} (ho : okC c = true) (hr : Fn c) (hl : (Nq c).length ≤ 4096) : Rp (Nq c) = (c.1, c.2.1, c.2.2.1, c.2.2.2.1, c.2.2.2.2, 0, 0) := by
  obtain ⟨h1, h2⟩ := run_back _ c rfl ho hr
  have h10 : ∀ p ∈ (Nl c).map (Ni 32), (10 : UInt8) ∉ p := by
    intro p hp
    obtain ⟨ws, hws, rfl⟩ := List.mem_map.1 hp
    exact K4 (by decide) ws fun w hw => ((h2 ws hws).1 w hw).2
  have hs := Fo _ h10 []
  rw [List.append_nil, ← Cb ho, show Qp 10 ([] : Str) = [[]] from rfl] at hs
  unfold Rp
  rw [if_neg (by omega), hs, List.dropLast_concat, h1]
  unfold finC
  dsimp only
  rw [List.getLastD_concat, if_neg (by simp [Nl])]
theorem Kh {s : Str} (h : (Rp s).2.2.2.2.2.1 = 0) : ∃ c : U5, Rp s = (c.1, c.2.1, c.2.2.1, c.2.2.2.1, c.2.2.2.2, 0, 0) ∧ okC c = true ∧ Ka 0 c ∧ Nq c = s ∧ s.length ≤ 4096 ∧ ∃ n, Fk (Qp 10 s).dropLast c0C 0 = .inr (c, n) ∧ 0 < n ∧ n = (Qp 10 s).dropLast.length ∧ (Qp 10 s).getLastD [] = [] := by
  unfold Rp at h ⊢
  by_cases hl : 4096 < s.length
  · rw [if_pos hl] at h
    cases h
  · rw [if_neg hl] at h ⊢
    cases hr : Fk (Qp 10 s).dropLast c0C 0 with
    | inl n =>
      rw [hr] at h
      cases h
    | inr cn =>
      obtain ⟨c, n⟩ := cn
      rw [hr] at h
      unfold finC at h ⊢
      simp only at h ⊢
      by_cases hn : (Qp 10 s).getLastD [] ≠ [] ∨ n = 0
      · rw [if_pos hn] at h
        cases h
      · rw [if_neg hn]
        have hlen := Ue 10 s
        have hcnt := Re 10 s
        have hc2 : s.count 10 ≤ s.length := List.count_le_length
        obtain ⟨_, h2⟩ := El (Qp 10 s).dropLast c0C 0 bnd_c0 (fun _ => rfl) (by rw [List.length_dropLast]; omega) fun p hp => by have := hlen p (List.dropLast_subset _ hp); omega
        obtain ⟨e1, e2, e3, e4⟩ := h2 c n hr
        have hn0 : n ≠ 0 := fun e => hn (.inr e)
        have hlast : (Qp 10 s).getLastD [] = [] := Decidable.byContradiction fun e => hn (.inl e)
        have ho := e4 (by omega)
        obtain ⟨p1, p2⟩ := Ig _ _ _ _ _ hr
        have hne : (Qp 10 s).dropLast ≠ [] := fun e => by rw [e] at p2; simp at p2; exact hn0 p2
        rw [if_pos ⟨rfl, hne⟩, List.nil_append] at p1
        refine ⟨c, rfl, ho, e2, ?_, by omega, n, rfl, by omega, by omega, hlast⟩
        rw [Cb ho, p1, List.map_map, show (Ni 32 ∘ Qp 32) = id from funext fun p => R9 32 p, List.map_id]
        have := Lv s
        rw [hlast, List.append_nil] at this
        exact this.symm
end Go.Proofs.YtoflbpmbkmephaaGreatDoor
namespace Go.Proofs.YtoflbpmbkmephaaGreatDoor
open Go.RowKit
def Uv (a : (List UInt8)) (c : Int) (d : Int) (e : (List (Int × Int))) (f : (List ((List UInt8) × (List UInt8) × Int))) (b : (List UInt8)) : Option (Bool) :=
  (some ((a == b)))
set_option maxHeartbeats 40000000 in
theorem Dl (A5 : Option Addr) (c6 : Nat) (A9 : Option Addr) (j : Nat) (l : Nat) (c : (List UInt8)) (m : Int) (o : Int) (h : (List (Int × Int))) (i : (List ((List UInt8) × (List UInt8) × Int))) (f : (List UInt8)) (w0 : World) (u : RdT (Qf (Q5 .u32) (Q5 .i64)) w0 A5 c6 h) (w : RdT (Qf Qk (Qf Qk (Q5 .i64))) w0 A9 j i) (hg13 : w0.heap[l]? = some (.cells #[(.string ⟨List.toArray f⟩)] 9 (0, 0))) (r : (Bool)) (H : Uv c m o h i f = some r) :
  Calls Tryz.prog 45 #[(.agg #[(.string ⟨List.toArray c⟩), (.int .i64 m), (.int .i64 o), (.slice A5 (List.length h) c6), (.slice A9 (List.length i) j)]), (pt l 0)] w0 (fun e w' => e = .returned (.bool r) ∧ SP [] w0 w' []) := by
 unfold Uv at H
 refine Qx (n := 8) Tryz.func45 K K K ?_
 have s := Q2 [] w0
 refine aQ ?_
 refine aR ?_
 refine iS 1 ?_
 refine Z2 (t := 33) (x := (.tmp 0)) (v := (.agg #[(.string ⟨List.toArray c⟩), (.int .i64 m), (.int .i64 o), (.slice A5 (List.length h) c6), (.slice A9 (List.length i) j)])) (d := (some 2)) (k := 0) K rfl K s ?_
 intro q z p
 refine iR 1 2 [(3, (.bool false))] ?_
 refine iF ?_
 refine aQ ?_
 refine aR ?_
 refine iR 1 1 [(4, (pt q 0))] ?_
 refine iS 2 ?_
 refine sL 9 4 q 0 0 (.string ⟨List.toArray c⟩) 5 p rfl ?_
 refine iS 3 ?_
 refine E3 (t := 9) (t' := 9) (x := (.tmp 1)) (g := l) (off := 0) (cs := #[(.string ⟨List.toArray f⟩)]) (v := (.string ⟨List.toArray f⟩)) (d := (some 6)) (k := 2) K rfl K (D4 hg13 (SP.keeps p)) K ?_
 refine iS 4 ?_
 refine Xf (op := .eql) (T := 9) (T' := 9) (x := (.tmp 5)) (y := (.tmp 6)) (a := c) (b := f) (r := (.bool (c == f))) (d := (some 7)) (k := 3) K rfl K K rfl ?_
 refine iR 1 5 [(3, (.bool (c == f)))] ?_
 refine iF ?_
 refine At.ret K ?_
 refine ⟨(.bool (c == f)), K, ?_⟩
 obtain rfl := Qg H
 exact ⟨rfl, SP.sel p [] rfl rfl⟩
def Rj (e : Int) (f : Int) (g : Int) (h : Int) (b : (List Qb)) (d : (List UInt8)) : Option ((List UInt8) × Int × Int × (List (Int × Int)) × (List ((List UInt8) × (List UInt8) × Int)) × Bool) :=
  ((Va b (fun y0 y1 y2 y3 y4 => Uv y0 y1 y2 y3 y4 d)).bind fun c => (cond (decide (c < 0)) (some (([] : List UInt8), 0, 0, ([] : List (Int × Int)), ([] : List ((List UInt8) × (List UInt8) × Int)), false)) ((idx b c).bind fun a => (some (a.1, a.2.1, a.2.2.1, a.2.2.2.1, a.2.2.2.2, true)))))
set_option maxHeartbeats 40000000 in
theorem Bl {R : World → Prop} (A6 : Option Addr) (c7 : Nat) (a1 : Int) (a2 : Int) (a3 : Int) (a4 : Int) (d9 : (List Qs)) (j : (List UInt8)) (w0 : World) (hR : ∀ w, Below w0.heap.size w0 w → R w) (m : ∀ w, R w → (dDS Zh Fa).ok w (A6, c7, d9)) (r : ((List UInt8) × Int × Int × (List (Int × Int)) × (List ((List UInt8) × (List UInt8) × Int)) × Bool)) (H : Rj a1 a2 a3 a4 (List.map stT d9) j = some r) :
  Calls Tryz.prog 18 #[(.agg #[(.int .i64 a1), (.int .i64 a2), (.int .i64 a3), (.int .i64 a4), (.slice A6 (List.length (List.map stT d9)) c7)]), (.string ⟨List.toArray j⟩)] w0 (fun e w' => ∃ (a8 : Option Addr) (a9 : Nat) (b0 : Option Addr) (b1 : Nat), e = .returned (.tuple #[(.agg #[(.string ⟨List.toArray r.1⟩), (.int .i64 r.2.1), (.int .i64 r.2.2.1), (.slice a8 (List.length r.2.2.2.1) a9), (.slice b0 (List.length r.2.2.2.2.1) b1)]), (.bool r.2.2.2.2.2)]) ∧ (∀ w, R w → RdT (Qf (Q5 .u32) (Q5 .i64)) w a8 a9 r.2.2.2.1) ∧ (∀ w, R w → RdT (Qf Qk (Qf Qk (Q5 .i64))) w b0 b1 r.2.2.2.2.1) ∧ SP [] w0 w' []) := by
 unfold Rj at H
 refine Qx (n := 19) Tryz.func18 K K K ?_
 have b8 := Q2 [] w0
 refine aQ ?_
 refine aR ?_
 refine iS 1 ?_
 refine Z2 (t := 24) (x := (.tmp 0)) (v := (.agg #[(.int .i64 a1), (.int .i64 a2), (.int .i64 a3), (.int .i64 a4), (.slice A6 (List.length (List.map stT d9)) c7)])) (d := (some 2)) (k := 0) K rfl K b8 ?_
 intro q c5 b9
 refine iS 2 ?_
 refine Z2 (t := 9) (x := (.tmp 1)) (v := (.string ⟨List.toArray j⟩)) (d := (some 3)) (k := 1) K rfl K b9 ?_
 intro s c6 c0
 refine iS 3 ?_
 refine Qh.alloc (t := 33) (z := (.agg #[(.string ⟨List.toArray ([] : List UInt8)⟩), (.int .i64 0), (.int .i64 0), (.slice none (List.length ([] : List (Int × Int))) 0), (.slice none (List.length ([] : List ((List UInt8) × (List UInt8) × Int))) 0)])) (d := (some 4)) (k := 2) K rfl K c0 ?_
 intro u a5 a0
 refine iR 1 4 [(5, (.bool false))] ?_
 refine iF ?_
 refine aQ ?_
 refine aR ?_
 refine iR 1 1 [(7, (pt q 4))] ?_
 refine iS 2 ?_
 refine sL 22 7 q 4 0 (.slice A6 (List.length (List.map stT d9)) c7) 8 a0 rfl ?_
 refine iR 1 3 [(9, (.func (.func 45) #[] #[(pt s 0)]))] ?_
 obtain ⟨h, c1, H⟩ := Qd H
 refine iS 4 ?_
 refine cF 44 #[(.tmp 8), (.tmp 9)] #[22, 82] 10 Tryz.call44 (Zv A6 c7 45 #[(pt s 0)] d9 (fun y0 y1 y2 y3 y4 => Uv y0 y1 y2 y3 y4 j) a5 (m a5 (hR _ (SP.keeps a0))) Tryz.call45 (fun y0 y1 y2 y3 y4 z w Ay3 cy3 Ay4 cy4 hw hy3 hy4 hz => Dl Ay3 cy3 Ay4 cy4 s y0 y1 y2 y3 y4 j w hy3 hy4 (D4 (show a5.heap[s]? = some (.cells #[(.string ⟨List.toArray j⟩)] 9 (0, 0)) from SP.get a0 (i := 1) rfl) hw) z hz) h c1) ?_
 rintro e b2 ⟨rfl, b3⟩
 refine ⟨_, rfl, ?_⟩
 have p := SP.call a0 b3
 clear b3
 refine iR 1 5 [(6, (.int .i64 h))] ?_
 refine iF ?_
 refine aQ ?_
 refine aQ ?_
 refine aR ?_
 refine iR 2 2 [(11, (.int .i64 h)), (12, (.bool (decide (h < 0))))] ?_
 refine iF ?_
 refine Z4 K (o := (.tmp 12)) K (b := (decide (h < 0))) K (fun a6 => ?_) (fun a6 => ?_)
 ·have H := ct H a6
  refine aQ ?_
  refine aR ?_
  refine iR 1 1 [(13, (.agg #[(.string ⟨List.toArray ([] : List UInt8)⟩), (.int .i64 0), (.int .i64 0), (.slice none (List.length ([] : List (Int × Int))) 0), (.slice none (List.length ([] : List ((List UInt8) × (List UInt8) × Int))) 0)]))] ?_
  refine iS 2 ?_
  refine Qh.store (t := 33) (x := (.tmp 4)) (y := (.tmp 13)) (g := u) (off := 0) (i := 2) (v := (.agg #[(.string ⟨List.toArray ([] : List UInt8)⟩), (.int .i64 0), (.int .i64 0), (.slice none (List.length ([] : List (Int × Int))) 0), (.slice none (List.length ([] : List ((List UInt8) × (List UInt8) × Int))) 0)])) (cs' := #[(.string ⟨List.toArray ([] : List UInt8)⟩), (.int .i64 0), (.int .i64 0), (.slice none (List.length ([] : List (Int × Int))) 0), (.slice none (List.length ([] : List ((List UInt8) × (List UInt8) × Int))) 0)]) (d := none) (k := 1) K rfl K K p rfl K ?_
  intro c8 b4
  refine iR 1 3 [(5, (.bool false))] ?_
  refine iF ?_
  refine At.ret K ?_
  refine ⟨(.tuple #[(.agg #[(.string ⟨List.toArray ([] : List UInt8)⟩), (.int .i64 0), (.int .i64 0), (.slice none (List.length ([] : List (Int × Int))) 0), (.slice none (List.length ([] : List ((List UInt8) × (List UInt8) × Int))) 0)]), (.bool false)]), Lb K (Bo (a := 4) (t := 33) (g := u) (off := 0) K (SP.get b4 (i := 2) rfl) K) (E6 (t := 5) K), ?_⟩
  obtain rfl := Qg H
  exact ⟨none, 0, none, 0, rfl, (fun w _ => RdT.nil (Qf (Q5 .u32) (Q5 .i64)) w), (fun w _ => RdT.nil (Qf Qk (Qf Qk (Q5 .i64))) w), SP.sel b4 [] rfl rfl⟩
 ·have H := cf H a6
  refine At.skip K ?_
  refine aQ ?_
  refine aR ?_
  refine iR 1 1 [(14, (pt q 4))] ?_
  refine iS 2 ?_
  refine sL 22 14 q 4 0 (.slice A6 (List.length (List.map stT d9)) c7) 15 p rfl ?_
  refine iR 1 3 [(16, (.int .i64 h))] ?_
  obtain ⟨f, b5, b6, a7, H⟩ := Un H
  refine iS 4 ?_
  refine Jf stT (e := Zh) (l := d9) (A := A6) (c := c7) (T := 22) (E := 33) (x := (.tmp 15)) (ix := (.tmp 16)) (ki := .i64) (iz := h) (d := (some 17)) (k := 3) K rfl K K K K ((fun w hm => (Yx (m w hm))) b2 (hR _ (SP.keeps p))) b5 b6 ?_
  intro c2 c3 c4 c9 hc46
  refine iS 5 ?_
  refine Qh.cells (t := 33) (x := (.tmp 17)) (b := c2) (off := (c3 + Int.toNat h * Zh.sz)) (xs := [(.string ⟨List.toArray (stT f).1⟩), (.int .i64 (stT f).2.1), (.int .i64 (stT f).2.2.1), (.slice f.2.2.2.1.1 (List.length (stT f).2.2.2.1) f.2.2.2.1.2.1), (.slice f.2.2.2.2.1 (List.length (stT f).2.2.2.2) f.2.2.2.2.2.1)]) (d := (some 18)) (k := 4) K rfl K K K (Vu (e := Zh) (Qj ((fun w hm => (Yx (m w hm))) b2 (hR _ (SP.keeps p))) c4 b5 b6) a7 rfl) ?_
  refine iS 6 ?_
  refine Qh.store (t := 33) (x := (.tmp 4)) (y := (.tmp 18)) (g := u) (off := 0) (i := 2) (v := (.agg #[(.string ⟨List.toArray (stT f).1⟩), (.int .i64 (stT f).2.1), (.int .i64 (stT f).2.2.1), (.slice f.2.2.2.1.1 (List.length (stT f).2.2.2.1) f.2.2.2.1.2.1), (.slice f.2.2.2.2.1 (List.length (stT f).2.2.2.2) f.2.2.2.2.2.1)])) (cs' := #[(.string ⟨List.toArray (stT f).1⟩), (.int .i64 (stT f).2.1), (.int .i64 (stT f).2.2.1), (.slice f.2.2.2.1.1 (List.length (stT f).2.2.2.1) f.2.2.2.1.2.1), (.slice f.2.2.2.2.1 (List.length (stT f).2.2.2.2) f.2.2.2.2.2.1)]) (d := none) (k := 5) K rfl K K p rfl K ?_
  intro d0 b7
  refine iR 1 7 [(5, (.bool true))] ?_
  refine iF ?_
  refine At.ret K ?_
  refine ⟨(.tuple #[(.agg #[(.string ⟨List.toArray (stT f).1⟩), (.int .i64 (stT f).2.1), (.int .i64 (stT f).2.2.1), (.slice f.2.2.2.1.1 (List.length (stT f).2.2.2.1) f.2.2.2.1.2.1), (.slice f.2.2.2.2.1 (List.length (stT f).2.2.2.2) f.2.2.2.2.2.1)]), (.bool true)]), Lb K (Bo (a := 4) (t := 33) (g := u) (off := 0) K (SP.get b7 (i := 2) rfl) K) (E6 (t := 5) K), ?_⟩
  obtain rfl := Qg H
  exact ⟨f.2.2.2.1.1, f.2.2.2.1.2.1, f.2.2.2.2.1, f.2.2.2.2.2.1, rfl, (fun w hm => (Yx ((fun w hm => (dp1 (dp2 (dp2 (dp2 (Gu (m w hm) a7)))))) w hm))), (fun w hm => (Yx ((fun w hm => (dp2 (dp2 (dp2 (dp2 (Gu (m w hm) a7)))))) w hm))), SP.sel b7 [] rfl rfl⟩
def Ub (a : (List UInt8)) (b : (List UInt8)) (c : Int) (c6 : (List UInt8)) : Option (Bool) :=
  (some ((a == c6)))
set_option maxHeartbeats 40000000 in
theorem R4 (g4 : Nat) (c : (List UInt8)) (f : (List UInt8)) (h : Int) (c6 : (List UInt8)) (w0 : World) (hg5 : w0.heap[g4]? = some (.cells #[(.string ⟨List.toArray c6⟩)] 9 (0, 0))) (r : (Bool)) (H : Ub c f h c6 = some r) :
  Calls Tryz.prog 47 #[(.agg #[(.string ⟨List.toArray c⟩), (.string ⟨List.toArray f⟩), (.int .i64 h)]), (pt g4 0)] w0 (fun e w' => e = .returned (.bool r) ∧ SP [] w0 w' []) := by
 unfold Ub at H
 refine Qx (n := 8) Tryz.func47 K K K ?_
 have j := Q2 [] w0
 refine aQ ?_
 refine aR ?_
 refine iS 1 ?_
 refine Z2 (t := 37) (x := (.tmp 0)) (v := (.agg #[(.string ⟨List.toArray c⟩), (.string ⟨List.toArray f⟩), (.int .i64 h)])) (d := (some 2)) (k := 0) K rfl K j ?_
 intro g7 w8 i
 refine iR 1 2 [(3, (.bool false))] ?_
 refine iF ?_
 refine aQ ?_
 refine aR ?_
 refine iR 1 1 [(4, (pt g7 0))] ?_
 refine iS 2 ?_
 refine sL 9 4 g7 0 0 (.string ⟨List.toArray c⟩) 5 i rfl ?_
 refine iS 3 ?_
 refine E3 (t := 9) (t' := 9) (x := (.tmp 1)) (g := g4) (off := 0) (cs := #[(.string ⟨List.toArray c6⟩)]) (v := (.string ⟨List.toArray c6⟩)) (d := (some 6)) (k := 2) K rfl K (D4 hg5 (SP.keeps i)) K ?_
 refine iS 4 ?_
 refine Xf (op := .eql) (T := 9) (T' := 9) (x := (.tmp 5)) (y := (.tmp 6)) (a := c) (b := c6) (r := (.bool (c == c6))) (d := (some 7)) (k := 3) K rfl K K rfl ?_
 refine iR 1 5 [(3, (.bool (c == c6)))] ?_
 refine iF ?_
 refine At.ret K ?_
 refine ⟨(.bool (c == c6)), K, ?_⟩
 obtain rfl := Qg H
 exact ⟨rfl, SP.sel i [] rfl rfl⟩
def Gn (e : (List UInt8)) (f : Int) (g : Int) (h : (List (Int × Int))) (b : (List ((List UInt8) × (List UInt8) × Int))) (d : (List UInt8)) : Option ((List UInt8) × (List UInt8) × Int × Bool) :=
  ((Vf b (fun y0 y1 y2 => Ub y0 y1 y2 d)).bind fun c => (cond (decide (c < 0)) (some (([] : List UInt8), ([] : List UInt8), 0, false)) ((idx b c).bind fun a => (some (a.1, a.2.1, a.2.2, true)))))
set_option maxHeartbeats 40000000 in
theorem Dz (A5 : Option Addr) (c6 : Nat) (A9 : Option Addr) (m : Nat) (a3 : (List UInt8)) (a4 : Int) (a5 : Int) (s : (List (Int × Int))) (h : (List ((List UInt8) × (List UInt8) × Int))) (p : (List UInt8)) (w0 : World) (c2 : RdT (Qf (Q5 .u32) (Q5 .i64)) w0 A5 c6 s) (a6 : RdT (Qf Qk (Qf Qk (Q5 .i64))) w0 A9 m h) (r : ((List UInt8) × (List UInt8) × Int × Bool)) (H : Gn a3 a4 a5 s h p = some r) :
  Calls Tryz.prog 20 #[(.agg #[(.string ⟨List.toArray a3⟩), (.int .i64 a4), (.int .i64 a5), (.slice A5 (List.length s) c6), (.slice A9 (List.length h) m)]), (.string ⟨List.toArray p⟩)] w0 (fun e w' => e = .returned (.tuple #[(.agg #[(.string ⟨List.toArray r.1⟩), (.string ⟨List.toArray r.2.1⟩), (.int .i64 r.2.2.1)]), (.bool r.2.2.2)]) ∧ SP [] w0 w' []) := by
 unfold Gn at H
 refine Qx (n := 19) Tryz.func20 K K K ?_
 have b4 := Q2 [] w0
 refine aQ ?_
 refine aR ?_
 refine iS 1 ?_
 refine Z2 (t := 33) (x := (.tmp 0)) (v := (.agg #[(.string ⟨List.toArray a3⟩), (.int .i64 a4), (.int .i64 a5), (.slice A5 (List.length s) c6), (.slice A9 (List.length h) m)])) (d := (some 2)) (k := 0) K rfl K b4 ?_
 intro u c3 b5
 refine iS 2 ?_
 refine Z2 (t := 9) (x := (.tmp 1)) (v := (.string ⟨List.toArray p⟩)) (d := (some 3)) (k := 1) K rfl K b5 ?_
 intro a0 c4 b6
 refine iS 3 ?_
 refine Qh.alloc (t := 37) (z := (.agg #[(.string ⟨List.toArray ([] : List UInt8)⟩), (.string ⟨List.toArray ([] : List UInt8)⟩), (.int .i64 0)])) (d := (some 4)) (k := 2) K rfl K b6 ?_
 intro a1 a8 a2
 refine iR 1 4 [(5, (.bool false))] ?_
 refine iF ?_
 refine aQ ?_
 refine aR ?_
 refine iR 1 1 [(7, (pt u 4))] ?_
 refine iS 2 ?_
 refine sL 31 7 u 4 0 (.slice A9 (List.length h) m) 8 a2 rfl ?_
 refine iR 1 3 [(9, (.func (.func 47) #[] #[(pt a0 0)]))] ?_
 obtain ⟨j, b7, H⟩ := Qd H
 refine iS 4 ?_
 refine cF 46 #[(.tmp 8), (.tmp 9)] #[31, 84] 10 Tryz.call46 (Z8 A9 m 47 #[(pt a0 0)] h (fun y0 y1 y2 => Ub y0 y1 y2 p) a8 (RdT.sp a6 a2) Tryz.call47 (fun y0 y1 y2 z w  hw  hz => R4 a0 y0 y1 y2 p w (D4 (show a8.heap[a0]? = some (.cells #[(.string ⟨List.toArray p⟩)] 9 (0, 0)) from SP.get a2 (i := 1) rfl) hw) z hz) j b7) ?_
 rintro e c5 ⟨rfl, a9⟩
 refine ⟨_, rfl, ?_⟩
 have q := SP.call a2 a9
 clear a9
 refine iR 1 5 [(6, (.int .i64 j))] ?_
 refine iF ?_
 refine aQ ?_
 refine aQ ?_
 refine aR ?_
 refine iR 2 2 [(11, (.int .i64 j)), (12, (.bool (decide (j < 0))))] ?_
 refine iF ?_
 refine Z4 K (o := (.tmp 12)) K (b := (decide (j < 0))) K (fun a7 => ?_) (fun a7 => ?_)
 ·have H := ct H a7
  refine aQ ?_
  refine aR ?_
  refine iR 1 1 [(13, (.agg #[(.string ⟨List.toArray ([] : List UInt8)⟩), (.string ⟨List.toArray ([] : List UInt8)⟩), (.int .i64 0)]))] ?_
  refine iS 2 ?_
  refine Qh.store (t := 37) (x := (.tmp 4)) (y := (.tmp 13)) (g := a1) (off := 0) (i := 2) (v := (.agg #[(.string ⟨List.toArray ([] : List UInt8)⟩), (.string ⟨List.toArray ([] : List UInt8)⟩), (.int .i64 0)])) (cs' := #[(.string ⟨List.toArray ([] : List UInt8)⟩), (.string ⟨List.toArray ([] : List UInt8)⟩), (.int .i64 0)]) (d := none) (k := 1) K rfl K K q rfl K ?_
  intro w32 b0
  refine iR 1 3 [(5, (.bool false))] ?_
  refine iF ?_
  refine At.ret K ?_
  refine ⟨(.tuple #[(.agg #[(.string ⟨List.toArray ([] : List UInt8)⟩), (.string ⟨List.toArray ([] : List UInt8)⟩), (.int .i64 0)]), (.bool false)]), Lb K (Bo (a := 4) (t := 37) (g := a1) (off := 0) K (SP.get b0 (i := 2) rfl) K) (E6 (t := 5) K), ?_⟩
  obtain rfl := Qg H
  exact ⟨rfl, SP.sel b0 [] rfl rfl⟩
 ·have H := cf H a7
  refine At.skip K ?_
  refine aQ ?_
  refine aR ?_
  refine iR 1 1 [(14, (pt u 4))] ?_
  refine iS 2 ?_
  refine sL 31 14 u 4 0 (.slice A9 (List.length h) m) 15 q rfl ?_
  refine iR 1 3 [(16, (.int .i64 j))] ?_
  obtain ⟨f, b1, b2, b8, H⟩ := Ve H
  refine iS 4 ?_
  refine Qm (e := (Qf Qk (Qf Qk (Q5 .i64)))) (l := h) (A := A9) (c := m) (T := 31) (E := 37) (x := (.tmp 15)) (ix := (.tmp 16)) (ki := .i64) (iz := j) (d := (some 17)) (k := 3) K rfl K K K K (RdT.sp a6 q) b1 b2 ?_
  intro b9 c0 c1 c7 hc41
  refine iS 5 ?_
  refine Qh.cells (t := 37) (x := (.tmp 17)) (b := b9) (off := (c0 + Int.toNat j * (Qf Qk (Qf Qk (Q5 .i64))).sz)) (xs := [(.string ⟨List.toArray f.1⟩), (.string ⟨List.toArray f.2.1⟩), (.int .i64 f.2.2)]) (d := (some 18)) (k := 4) K rfl K K K (Vu (e := (Qf Qk (Qf Qk (Q5 .i64)))) (Qj (RdT.sp a6 q) c1 b1 b2) b8 rfl) ?_
  refine iS 6 ?_
  refine Qh.store (t := 37) (x := (.tmp 4)) (y := (.tmp 18)) (g := a1) (off := 0) (i := 2) (v := (.agg #[(.string ⟨List.toArray f.1⟩), (.string ⟨List.toArray f.2.1⟩), (.int .i64 f.2.2)])) (cs' := #[(.string ⟨List.toArray f.1⟩), (.string ⟨List.toArray f.2.1⟩), (.int .i64 f.2.2)]) (d := none) (k := 5) K rfl K K q rfl K ?_
  intro c8 b3
  refine iR 1 7 [(5, (.bool true))] ?_
  refine iF ?_
  refine At.ret K ?_
  refine ⟨(.tuple #[(.agg #[(.string ⟨List.toArray f.1⟩), (.string ⟨List.toArray f.2.1⟩), (.int .i64 f.2.2)]), (.bool true)]), Lb K (Bo (a := 4) (t := 37) (g := a1) (off := 0) K (SP.get b3 (i := 2) rfl) K) (E6 (t := 5) K), ?_⟩
  obtain rfl := Qg H
  exact ⟨rfl, SP.sel b3 [] rfl rfl⟩
end Go.Proofs.YtoflbpmbkmephaaGreatDoor
namespace Go.Proofs.YtoflbpmbkmephaaGreatDoor
open Go.RowKit
theorem stok_loop (r4 : Int → Option Bool) (l : List C4) (hl : l.length ≤ 140737488355328) : ∀ (d i f : Nat), d = l.length - i → i ≤ l.length → d < f → Vq r4 l l f (i : Int) = some true := by
  intro d
  induction d with
  | zero =>
    intro i f hd hi hf
    obtain ⟨f, rfl⟩ : ∃ g, f = g + 1 := ⟨f - 1, by omega⟩
    show Vp r4 (Vq r4 l l f) l l (i : Int) = _
    unfold Vp
    rw [decide_eq_false (show ¬ ((i : Int) < ((l.length : Nat) : Int)) by omega), cond_false]
  | succ d ih =>
    intro i f hd hi hf
    obtain ⟨f, rfl⟩ : ∃ g, f = g + 1 := ⟨f - 1, by omega⟩
    have hlt : i < l.length := by omega
    show Vp r4 (Vq r4 l l f) l l (i : Int) = _
    unfold Vp
    rw [decide_eq_true (show (i : Int) < ((l.length : Nat) : Int) by omega), cond_true, Y3 hlt]
    simp only [Option.bind_some, beq_self_eq_true, Bool.and_self, Bool.not_true, cond_false]
    rw [show (i : Int) + 1 = ((i + 1 : Nat) : Int) by omega, Uc (by omega)]
    exact ih (i + 1) f (by omega) (by omega) (by omega)
theorem snet_loop (l : List Hy) (k : List C4) (hl : l.length ≤ 140737488355328) (hk : k.length ≤ 140737488355328) : ∀ (d i f : Nat), d = l.length - i → i ≤ l.length → d < f → Q3 l k l k f (i : Int) = some true := by
  intro d
  induction d with
  | zero =>
    intro i f hd hi hf
    obtain ⟨f, rfl⟩ : ∃ g, f = g + 1 := ⟨f - 1, by omega⟩
    show Vr (Q3 l k l k f) l k l k (i : Int) = _
    unfold Vr
    rw [decide_eq_false (show ¬ ((i : Int) < ((l.length : Nat) : Int)) by omega), cond_false]
    exact stok_loop _ k hk k.length 0 X0 (by omega) (by omega) (by unfold X0; omega)
  | succ d ih =>
    intro i f hd hi hf
    obtain ⟨f, rfl⟩ : ∃ g, f = g + 1 := ⟨f - 1, by omega⟩
    have hlt : i < l.length := by omega
    show Vr (Q3 l k l k f) l k l k (i : Int) = _
    unfold Vr
    rw [decide_eq_true (show (i : Int) < ((l.length : Nat) : Int) by omega), cond_true, Y3 hlt]
    simp only [Option.bind_some, beq_self_eq_true, Bool.and_self, Bool.not_true, cond_false]
    rw [show (i : Int) + 1 = ((i + 1 : Nat) : Int) by omega, Uc (by omega)]
    exact ih (i + 1) f (by omega) (by omega) (by omega)
theorem rSameT (n : Str) (a b : Int) (l : List Hy) (k : List C4) (hl : l.length ≤ 140737488355328) (hk : k.length ≤ 140737488355328) : Z0 n a b l k n a b l k = some true := by
  unfold Z0 Vd
  simp only [beq_self_eq_true, Bool.not_true, bne_self_eq_false, cond_false]
  exact snet_loop l k hl hk l.length 0 X0 (by omega) (by omega) (by unfold X0; omega)
theorem Lw (l : List Qb) (hl : l.length ≤ 140737488355328) (hq : ∀ t ∈ l, t.2.2.2.1.length ≤ 140737488355328 ∧ t.2.2.2.2.length ≤ 140737488355328) : ∀ (d i f : Nat), d = l.length - i → i ≤ l.length → d < f → Zd l l f (i : Int) = some true := by
  intro d
  induction d with
  | zero =>
    intro i f hd hi hf
    obtain ⟨f, rfl⟩ : ∃ g, f = g + 1 := ⟨f - 1, by omega⟩
    show Zc (Zd l l f) l l (i : Int) = _
    unfold Zc
    rw [decide_eq_false (show ¬ ((i : Int) < ((l.length : Nat) : Int)) by omega), cond_false]
  | succ d ih =>
    intro i f hd hi hf
    obtain ⟨f, rfl⟩ : ∃ g, f = g + 1 := ⟨f - 1, by omega⟩
    have hlt : i < l.length := by omega
    obtain ⟨q1, q2⟩ := hq _ (List.getElem_mem hlt)
    show Zc (Zd l l f) l l (i : Int) = _
    unfold Zc
    rw [decide_eq_true (show (i : Int) < ((l.length : Nat) : Int) by omega), cond_true, Y3 hlt]
    simp only [Option.bind_some]
    rw [rSameT _ _ _ _ _ q1 q2, Option.bind_some, Bool.not_true, cond_false, show (i : Int) + 1 = ((i + 1 : Nat) : Int) by omega, Uc (by omega)]
    exact ih (i + 1) f (by omega) (by omega) (by omega)
theorem rSame (w g i e : Int) (l : List Qb) (hl : l.length ≤ 140737488355328) (hq : ∀ t ∈ l, t.2.2.2.1.length ≤ 140737488355328 ∧ t.2.2.2.2.length ≤ 140737488355328) : V9 w g i e l w g i e l = some true := by
  unfold V9 V1
  simp only [bne_self_eq_false, cond_false]
  exact Lw l hl hq l.length 0 X0 (by omega) (by omega) (by unfold X0; omega)
end Go.Proofs.YtoflbpmbkmephaaGreatDoor
namespace Go.Proofs.YtoflbpmbkmephaaGreatDoor
open Go.RowKit
def Qr (a : Bool) : Option (Bool) :=
  (some (a))
def Jm  : Option (Bool) :=
  ((Zg ([116, 105, 109, 101, 115, 32, 57, 32, 56, 32, 55, 32, 54, 10, 116, 101, 110, 97, 110, 116, 32, 97, 32, 50, 32, 51, 10, 110, 101, 116, 32, 49, 48, 46, 48, 46, 48, 46, 48, 47, 56, 10, 116, 111, 107, 101, 110, 32, 107, 32, 48, 48, 102, 102, 32, 53, 10, 116, 101, 110, 97, 110, 116, 32, 98, 32, 48, 32, 48, 10] : List UInt8)).bind fun z1 => ((some z1.2.2.2.2.1).bind fun l9 => ((Zg ([116, 105, 109, 101, 115, 32, 57, 32, 56, 32, 55, 32, 54, 10, 110, 101, 116, 32, 49, 48, 46, 48, 46, 48, 46, 48, 47, 56, 10] : List UInt8)).bind fun b => ((some b.2.2.2.2.1).bind fun h => ((Zg ([116, 105, 109, 101, 115, 32, 57, 32, 56, 32, 55, 32, 54, 10, 116, 101, 110, 97, 110, 116, 32, 98, 32, 49, 32, 49, 10, 116, 101, 110, 97, 110, 116, 32, 97, 32, 49, 32, 49, 10] : List UInt8)).bind fun c => ((some c.2.2.2.2.1).bind fun i => ((Rj z1.1 z1.2.1 z1.2.2.1 z1.2.2.2.1 l9 ([97] : List UInt8)).bind fun a => ((Gn a.1 a.2.1 a.2.2.1 a.2.2.2.1 a.2.2.2.2.1 ([107] : List UInt8)).bind fun d => (cond (z1.2.2.2.2.2.1 == 0) ((Ys z1.1 z1.2.1 z1.2.2.1 z1.2.2.2.1 l9).bind fun e => (cond (e == ([116, 105, 109, 101, 115, 32, 57, 32, 56, 32, 55, 32, 54, 10, 116, 101, 110, 97, 110, 116, 32, 97, 32, 50, 32, 51, 10, 110, 101, 116, 32, 49, 48, 46, 48, 46, 48, 46, 48, 47, 56, 10, 116, 111, 107, 101, 110, 32, 107, 32, 48, 48, 102, 102, 32, 53, 10, 116, 101, 110, 97, 110, 116, 32, 98, 32, 48, 32, 48, 10] : List UInt8)) (cond (((List.length l9 : Nat) : Int) == 2) (cond (z1.2.2.2.1 == 6) (cond (b.2.2.2.2.2.1 == 91) (cond (b.2.2.2.2.2.2 == 1) (cond (c.2.2.2.2.2.1 == 91) (cond (c.2.2.2.2.2.2 == 2) (cond a.2.2.2.2.2 (cond d.2.2.2 (cond (d.2.1 == ([0, 255] : List UInt8)) (cond (d.2.2.1 == 5) ((Zs z1.1 z1.2.1 z1.2.2.1 z1.2.2.2.1 l9).bind fun f => (cond f ((Zs 0 0 0 0 ([] : List Qb)).bind fun g => (Qr (!g))) (Qr false))) (Qr false)) (Qr false)) (Qr false)) (Qr false)) (Qr false)) (Qr false)) (Qr false)) (Qr false)) (Qr false)) (Qr false)) (Qr false))) (Qr false))))))))))
set_option maxHeartbeats 40000000 in
theorem Rk   (w0 : World) (hL : Nd w0)  (r : (Bool)) (H : Jm  = some r) :
  Calls Tryz.prog 14 #[] w0 (fun e w' => e = .returned (.bool r) ∧ SP [] w0 w' []) := by
 unfold Jm at H
 refine Qx (n := 101) Tryz.func14 K K K ?_
 have d0 := Q2 [] w0
 refine aQ ?_
 refine aR ?_
 refine iR 1 1 [(0, (.bool false))] ?_
 refine iF ?_
 refine aQ ?_
 refine aR ?_
 refine iR 1 1 [(1, (.string ⟨List.toArray ([116, 105, 109, 101, 115, 32, 57, 32, 56, 32, 55, 32, 54, 10, 116, 101, 110, 97, 110, 116, 32, 97, 32, 50, 32, 51, 10, 110, 101, 116, 32, 49, 48, 46, 48, 46, 48, 46, 48, 47, 56, 10, 116, 111, 107, 101, 110, 32, 107, 32, 48, 48, 102, 102, 32, 53, 10, 116, 101, 110, 97, 110, 116, 32, 98, 32, 48, 32, 48, 10] : List UInt8)⟩))] ?_
 refine iF ?_
 refine aQ ?_
 refine aR ?_
 refine iR 1 1 [(16, (.string ⟨List.toArray ([116, 105, 109, 101, 115, 32, 57, 32, 56, 32, 55, 32, 54, 10, 116, 101, 110, 97, 110, 116, 32, 97, 32, 50, 32, 51, 10, 110, 101, 116, 32, 49, 48, 46, 48, 46, 48, 46, 48, 47, 56, 10, 116, 111, 107, 101, 110, 32, 107, 32, 48, 48, 102, 102, 32, 53, 10, 116, 101, 110, 97, 110, 116, 32, 98, 32, 48, 32, 48, 10] : List UInt8)⟩))] ?_
 obtain ⟨z1, e4, H⟩ := Qd H
 refine iS 2 ?_
 refine cF 16 #[(.tmp 16)] #[9] 17 Tryz.call16 (Yc  ([116, 105, 109, 101, 115, 32, 57, 32, 56, 32, 55, 32, 54, 10, 116, 101, 110, 97, 110, 116, 32, 97, 32, 50, 32, 51, 10, 110, 101, 116, 32, 49, 48, 46, 48, 46, 48, 46, 48, 47, 56, 10, 116, 111, 107, 101, 110, 32, 107, 32, 48, 48, 102, 102, 32, 53, 10, 116, 101, 110, 97, 110, 116, 32, 98, 32, 48, 32, 48, 10] : List UInt8) w0 (Qw hL (SP.keeps d0)) z1 e4) ?_
 rintro e w3 ⟨A5, c6, d7, rfl, e5, d1⟩
 obtain ⟨h7, hll9, H⟩ := Zp H
 rw [e5] at hll9
 subst hll9
 refine ⟨_, rfl, ?_⟩
 have e6 := SP.call d0 d1
 clear d1
 refine iR 4 6 [(15, (.tuple #[(.agg #[(.int .i64 z1.1), (.int .i64 z1.2.1), (.int .i64 z1.2.2.1), (.int .i64 z1.2.2.2.1), (.slice A5 (List.length (List.map stT d7)) c6)]), (.int .i64 z1.2.2.2.2.2.1), (.int .i64 z1.2.2.2.2.2.2)])), (18, (.agg #[(.int .i64 z1.1), (.int .i64 z1.2.1), (.int .i64 z1.2.2.1), (.int .i64 z1.2.2.2.1), (.slice A5 (List.length (List.map stT d7)) c6)])), (19, (.int .i64 z1.2.2.2.2.2.1)), (20, (.int .i64 z1.2.2.2.2.2.2))] ?_
 refine iS 7 ?_
 refine Qh.alloc (t := 24) (z := (.agg #[(.int .i64 0), (.int .i64 0), (.int .i64 0), (.int .i64 0), (.slice none (List.length ([] : List Qb)) 0)])) (d := (some 2)) (k := 6) K rfl K e6 ?_
 intro o h8 e7
 refine iS 8 ?_
 refine Qh.store (t := 24) (x := (.tmp 2)) (y := (.tmp 18)) (g := o) (off := 0) (i := 1) (v := (.agg #[(.int .i64 z1.1), (.int .i64 z1.2.1), (.int .i64 z1.2.2.1), (.int .i64 z1.2.2.2.1), (.slice A5 (List.length (List.map stT d7)) c6)])) (cs' := #[(.int .i64 z1.1), (.int .i64 z1.2.1), (.int .i64 z1.2.2.1), (.int .i64 z1.2.2.2.1), (.slice A5 (List.length (List.map stT d7)) c6)]) (d := none) (k := 7) K rfl K K e7 rfl K ?_
 intro e8 d2
 refine iR 2 10 [(3, (.int .i64 z1.2.2.2.2.2.1)), (4, (.int .i64 z1.2.2.2.2.2.2))] ?_
 refine iF ?_
 refine aQ ?_
 refine aR ?_
 obtain ⟨f, e9, H⟩ := Qd H
 refine iS 1 ?_
 refine cF 16 #[(.const (.string ⟨List.toArray ([116, 105, 109, 101, 115, 32, 57, 32, 56, 32, 55, 32, 54, 10, 110, 101, 116, 32, 49, 48, 46, 48, 46, 48, 46, 48, 47, 56, 10] : List UInt8)⟩))] #[9] 22 Tryz.call16 (Yc  ([116, 105, 109, 101, 115, 32, 57, 32, 56, 32, 55, 32, 54, 10, 110, 101, 116, 32, 49, 48, 46, 48, 46, 48, 46, 48, 47, 56, 10] : List UInt8) e8 (Qw hL (SP.keeps d2)) f e9) ?_
 rintro e h9 ⟨a6, a7, a8, rfl, f0, d3⟩
 obtain ⟨i0, hll27, H⟩ := Zp H
 rw [f0] at hll27
 subst hll27
 refine ⟨_, rfl, ?_⟩
 have f1 := SP.call d2 d3
 clear d3
 refine iR 4 5 [(21, (.tuple #[(.agg #[(.int .i64 f.1), (.int .i64 f.2.1), (.int .i64 f.2.2.1), (.int .i64 f.2.2.2.1), (.slice a6 (List.length (List.map stT a8)) a7)]), (.int .i64 f.2.2.2.2.2.1), (.int .i64 f.2.2.2.2.2.2)])), (23, (.agg #[(.int .i64 f.1), (.int .i64 f.2.1), (.int .i64 f.2.2.1), (.int .i64 f.2.2.2.1), (.slice a6 (List.length (List.map stT a8)) a7)])), (24, (.int .i64 f.2.2.2.2.2.1)), (25, (.int .i64 f.2.2.2.2.2.2))] ?_
 refine iS 6 ?_
 refine Qh.alloc (t := 24) (z := (.agg #[(.int .i64 0), (.int .i64 0), (.int .i64 0), (.int .i64 0), (.slice none (List.length ([] : List Qb)) 0)])) (d := (some 5)) (k := 5) K rfl K f1 ?_
 intro f2 i1 f3
 refine iS 7 ?_
 refine Qh.store (t := 24) (x := (.tmp 5)) (y := (.tmp 23)) (g := f2) (off := 0) (i := 3) (v := (.agg #[(.int .i64 f.1), (.int .i64 f.2.1), (.int .i64 f.2.2.1), (.int .i64 f.2.2.2.1), (.slice a6 (List.length (List.map stT a8)) a7)])) (cs' := #[(.int .i64 f.1), (.int .i64 f.2.1), (.int .i64 f.2.2.1), (.int .i64 f.2.2.2.1), (.slice a6 (List.length (List.map stT a8)) a7)]) (d := none) (k := 6) K rfl K K f3 rfl K ?_
 intro f4 d4
 refine iR 2 9 [(6, (.int .i64 f.2.2.2.2.2.1)), (7, (.int .i64 f.2.2.2.2.2.2))] ?_
 refine iF ?_
 refine aQ ?_
 refine aR ?_
 obtain ⟨h, f5, H⟩ := Qd H
 refine iS 1 ?_
 refine cF 16 #[(.const (.string ⟨List.toArray ([116, 105, 109, 101, 115, 32, 57, 32, 56, 32, 55, 32, 54, 10, 116, 101, 110, 97, 110, 116, 32, 98, 32, 49, 32, 49, 10, 116, 101, 110, 97, 110, 116, 32, 97, 32, 49, 32, 49, 10] : List UInt8)⟩))] #[9] 27 Tryz.call16 (Yc  ([116, 105, 109, 101, 115, 32, 57, 32, 56, 32, 55, 32, 54, 10, 116, 101, 110, 97, 110, 116, 32, 98, 32, 49, 32, 49, 10, 116, 101, 110, 97, 110, 116, 32, 97, 32, 49, 32, 49, 10] : List UInt8) f4 (Qw hL (SP.keeps d4)) h f5) ?_
 rintro e i2 ⟨a9, b0, b1, rfl, f6, d5⟩
 obtain ⟨i3, hll45, H⟩ := Zp H
 rw [f6] at hll45
 subst hll45
 refine ⟨_, rfl, ?_⟩
 have f7 := SP.call d4 d5
 clear d5
 refine iR 4 5 [(26, (.tuple #[(.agg #[(.int .i64 h.1), (.int .i64 h.2.1), (.int .i64 h.2.2.1), (.int .i64 h.2.2.2.1), (.slice a9 (List.length (List.map stT b1)) b0)]), (.int .i64 h.2.2.2.2.2.1), (.int .i64 h.2.2.2.2.2.2)])), (28, (.agg #[(.int .i64 h.1), (.int .i64 h.2.1), (.int .i64 h.2.2.1), (.int .i64 h.2.2.2.1), (.slice a9 (List.length (List.map stT b1)) b0)])), (29, (.int .i64 h.2.2.2.2.2.1)), (30, (.int .i64 h.2.2.2.2.2.2))] ?_
 refine iS 6 ?_
 refine Qh.alloc (t := 24) (z := (.agg #[(.int .i64 0), (.int .i64 0), (.int .i64 0), (.int .i64 0), (.slice none (List.length ([] : List Qb)) 0)])) (d := (some 8)) (k := 5) K rfl K f7 ?_
 intro f8 i4 f9
 refine iS 7 ?_
 refine Qh.store (t := 24) (x := (.tmp 8)) (y := (.tmp 28)) (g := f8) (off := 0) (i := 5) (v := (.agg #[(.int .i64 h.1), (.int .i64 h.2.1), (.int .i64 h.2.2.1), (.int .i64 h.2.2.2.1), (.slice a9 (List.length (List.map stT b1)) b0)])) (cs' := #[(.int .i64 h.1), (.int .i64 h.2.1), (.int .i64 h.2.2.1), (.int .i64 h.2.2.2.1), (.slice a9 (List.length (List.map stT b1)) b0)]) (d := none) (k := 6) K rfl K K f9 rfl K ?_
 intro g0 b2
 refine iR 2 9 [(9, (.int .i64 h.2.2.2.2.2.1)), (10, (.int .i64 h.2.2.2.2.2.2))] ?_
 refine iF ?_
 refine aQ ?_
 refine aR ?_
 refine iS 1 ?_
 refine sL 24 2 o 0 1 (.agg #[(.int .i64 z1.1), (.int .i64 z1.2.1), (.int .i64 z1.2.2.1), (.int .i64 z1.2.2.2.1), (.slice A5 (List.length (List.map stT d7)) c6)]) 32 b2 rfl ?_
 obtain ⟨c, g1, H⟩ := Qd H
 refine iS 2 ?_
 refine cF 18 #[(.tmp 32), (.const (.string ⟨List.toArray ([97] : List UInt8)⟩))] #[24, 9] 33 Tryz.call18 (Bl (R := fun w => Below w0.heap.size w0 w ∧ (Jh A5 c6 d7).ok w) A5 c6 z1.1 z1.2.1 z1.2.2.1 z1.2.2.2.1 d7 ([97] : List UInt8) g0 (fun w hb => ⟨R8 b2 hb, SP.get (SP.below b2 hb) (i := 0) rfl⟩) (fun w hr => U4 hr.2) c g1) ?_
 rintro e i5 ⟨p, q, s, u, rfl, g2, g3, d6⟩
 refine ⟨_, rfl, ?_⟩
 have g4 := SP.call b2 d6
 clear d6
 refine iR 3 5 [(31, (.tuple #[(.agg #[(.string ⟨List.toArray c.1⟩), (.int .i64 c.2.1), (.int .i64 c.2.2.1), (.slice p (List.length c.2.2.2.1) q), (.slice s (List.length c.2.2.2.2.1) u)]), (.bool c.2.2.2.2.2)])), (34, (.agg #[(.string ⟨List.toArray c.1⟩), (.int .i64 c.2.1), (.int .i64 c.2.2.1), (.slice p (List.length c.2.2.2.1) q), (.slice s (List.length c.2.2.2.2.1) u)])), (35, (.bool c.2.2.2.2.2))] ?_
 refine iS 6 ?_
 refine Qh.alloc (t := 33) (z := (.agg #[(.string ⟨List.toArray ([] : List UInt8)⟩), (.int .i64 0), (.int .i64 0), (.slice none (List.length ([] : List (Int × Int))) 0), (.slice none (List.length ([] : List ((List UInt8) × (List UInt8) × Int))) 0)])) (d := (some 11)) (k := 5) K rfl K g4 ?_
 intro d8 i6 g5
 refine iS 7 ?_
 refine Qh.store (t := 33) (x := (.tmp 11)) (y := (.tmp 34)) (g := d8) (off := 0) (i := 6) (v := (.agg #[(.string ⟨List.toArray c.1⟩), (.int .i64 c.2.1), (.int .i64 c.2.2.1), (.slice p (List.length c.2.2.2.1) q), (.slice s (List.length c.2.2.2.2.1) u)])) (cs' := #[(.string ⟨List.toArray c.1⟩), (.int .i64 c.2.1), (.int .i64 c.2.2.1), (.slice p (List.length c.2.2.2.1) q), (.slice s (List.length c.2.2.2.2.1) u)]) (d := none) (k := 6) K rfl K K g5 rfl K ?_
 intro b4 a0
 refine iR 1 8 [(12, (.bool c.2.2.2.2.2))] ?_
 refine iF ?_
 refine aQ ?_
 refine aR ?_
 refine iS 1 ?_
 refine sL 33 11 d8 0 6 (.agg #[(.string ⟨List.toArray c.1⟩), (.int .i64 c.2.1), (.int .i64 c.2.2.1), (.slice p (List.length c.2.2.2.1) q), (.slice s (List.length c.2.2.2.2.1) u)]) 37 a0 rfl ?_
 obtain ⟨j, g6, H⟩ := Qd H
 refine iS 2 ?_
 refine cF 20 #[(.tmp 37), (.const (.string ⟨List.toArray ([107] : List UInt8)⟩))] #[33, 9] 38 Tryz.call20 (Dz p q s u c.1 c.2.1 c.2.2.1 c.2.2.2.1 c.2.2.2.2.1 ([107] : List UInt8) b4 (g2 b4 ⟨SP.keeps a0, SP.get a0 (i := 0) rfl⟩) (g3 b4 ⟨SP.keeps a0, SP.get a0 (i := 0) rfl⟩) j g6) ?_
 rintro e i7 ⟨rfl, d9⟩
 refine ⟨_, rfl, ?_⟩
 have g7 := SP.call a0 d9
 clear d9
 refine iR 3 5 [(36, (.tuple #[(.agg #[(.string ⟨List.toArray j.1⟩), (.string ⟨List.toArray j.2.1⟩), (.int .i64 j.2.2.1)]), (.bool j.2.2.2)])), (39, (.agg #[(.string ⟨List.toArray j.1⟩), (.string ⟨List.toArray j.2.1⟩), (.int .i64 j.2.2.1)])), (40, (.bool j.2.2.2))] ?_
 refine iS 6 ?_
 refine Qh.alloc (t := 37) (z := (.agg #[(.string ⟨List.toArray ([] : List UInt8)⟩), (.string ⟨List.toArray ([] : List UInt8)⟩), (.int .i64 0)])) (d := (some 13)) (k := 5) K rfl K g7 ?_
 intro a3 i8 g8
 refine iS 7 ?_
 refine Qh.store (t := 37) (x := (.tmp 13)) (y := (.tmp 39)) (g := a3) (off := 0) (i := 7) (v := (.agg #[(.string ⟨List.toArray j.1⟩), (.string ⟨List.toArray j.2.1⟩), (.int .i64 j.2.2.1)])) (cs' := #[(.string ⟨List.toArray j.1⟩), (.string ⟨List.toArray j.2.1⟩), (.int .i64 j.2.2.1)]) (d := none) (k := 6) K rfl K K g8 rfl K ?_
 intro g9 a4
 refine iR 1 8 [(14, (.bool j.2.2.2))] ?_
 refine iF ?_
 refine aQ ?_
 refine At.join (fun ρ w => ∃ (a1 : Bool), Zm ρ [(0, (.bool a1))] ∧ SP [] w0 w [] ∧ Qr a1 = some r) ?_ ?_
 ·refine aR ?_
  refine iR 3 3 [(41, (.int .i64 z1.2.2.2.2.2.1)), (42, (.bool (z1.2.2.2.2.2.1 == 0))), (43, (.bool (z1.2.2.2.2.2.1 == 0)))] ?_
  refine In.guard (t := 43) (b := (z1.2.2.2.2.2.1 == 0)) K (fun b5 => ?_) (fun b5 => ?_)
  ·have H := ct H b5
   refine iS 4 ?_
   refine sL 24 2 o 0 1 (.agg #[(.int .i64 z1.1), (.int .i64 z1.2.1), (.int .i64 z1.2.2.1), (.int .i64 z1.2.2.2.1), (.slice A5 (List.length (List.map stT d7)) c6)]) 44 a4 rfl ?_
   obtain ⟨a2, h1, H⟩ := Qd H
   refine iS 5 ?_
   refine cF 24 #[(.tmp 44)] #[24] 45 Tryz.call24 (Ud A5 c6 z1.1 z1.2.1 z1.2.2.1 z1.2.2.2.1 d7 g9 (Qw hL (SP.keeps a4)) (U4 (SP.get a4 (i := 0) rfl)) a2 h1) ?_
   rintro e h2 ⟨rfl, e0⟩
   refine ⟨_, rfl, ?_⟩
   have m := SP.call a4 e0
   clear e0
   refine iR 1 6 [(46, (.string ⟨List.toArray ([116, 105, 109, 101, 115, 32, 57, 32, 56, 32, 55, 32, 54, 10, 116, 101, 110, 97, 110, 116, 32, 97, 32, 50, 32, 51, 10, 110, 101, 116, 32, 49, 48, 46, 48, 46, 48, 46, 48, 47, 56, 10, 116, 111, 107, 101, 110, 32, 107, 32, 48, 48, 102, 102, 32, 53, 10, 116, 101, 110, 97, 110, 116, 32, 98, 32, 48, 32, 48, 10] : List UInt8)⟩))] ?_
   refine iS 7 ?_
   refine Xf (op := .eql) (T := 9) (T' := 9) (x := (.tmp 45)) (y := (.tmp 46)) (a := a2) (b := ([116, 105, 109, 101, 115, 32, 57, 32, 56, 32, 55, 32, 54, 10, 116, 101, 110, 97, 110, 116, 32, 97, 32, 50, 32, 51, 10, 110, 101, 116, 32, 49, 48, 46, 48, 46, 48, 46, 48, 47, 56, 10, 116, 111, 107, 101, 110, 32, 107, 32, 48, 48, 102, 102, 32, 53, 10, 116, 101, 110, 97, 110, 116, 32, 98, 32, 48, 32, 48, 10] : List UInt8)) (r := (.bool (a2 == ([116, 105, 109, 101, 115, 32, 57, 32, 56, 32, 55, 32, 54, 10, 116, 101, 110, 97, 110, 116, 32, 97, 32, 50, 32, 51, 10, 110, 101, 116, 32, 49, 48, 46, 48, 46, 48, 46, 48, 47, 56, 10, 116, 111, 107, 101, 110, 32, 107, 32, 48, 48, 102, 102, 32, 53, 10, 116, 101, 110, 97, 110, 116, 32, 98, 32, 48, 32, 48, 10] : List UInt8)))) (d := (some 47)) (k := 6) K rfl K K rfl ?_
   refine iR 2 9 [(48, (.bool (a2 == ([116, 105, 109, 101, 115, 32, 57, 32, 56, 32, 55, 32, 54, 10, 116, 101, 110, 97, 110, 116, 32, 97, 32, 50, 32, 51, 10, 110, 101, 116, 32, 49, 48, 46, 48, 46, 48, 46, 48, 47, 56, 10, 116, 111, 107, 101, 110, 32, 107, 32, 48, 48, 102, 102, 32, 53, 10, 116, 101, 110, 97, 110, 116, 32, 98, 32, 48, 32, 48, 10] : List UInt8)))), (49, (.bool (a2 == ([116, 105, 109, 101, 115, 32, 57, 32, 56, 32, 55, 32, 54, 10, 116, 101, 110, 97, 110, 116, 32, 97, 32, 50, 32, 51, 10, 110, 101, 116, 32, 49, 48, 46, 48, 46, 48, 46, 48, 47, 56, 10, 116, 111, 107, 101, 110, 32, 107, 32, 48, 48, 102, 102, 32, 53, 10, 116, 101, 110, 97, 110, 116, 32, 98, 32, 48, 32, 48, 10] : List UInt8))))] ?_
   refine In.guard (t := 49) (b := (a2 == ([116, 105, 109, 101, 115, 32, 57, 32, 56, 32, 55, 32, 54, 10, 116, 101, 110, 97, 110, 116, 32, 97, 32, 50, 32, 51, 10, 110, 101, 116, 32, 49, 48, 46, 48, 46, 48, 46, 48, 47, 56, 10, 116, 111, 107, 101, 110, 32, 107, 32, 48, 48, 102, 102, 32, 53, 10, 116, 101, 110, 97, 110, 116, 32, 98, 32, 48, 32, 48, 10] : List UInt8))) K (fun b6 => ?_) (fun b6 => ?_)
   ·have H := ct H b6
    refine iR 1 10 [(50, (pt o 4))] ?_
    refine iS 11 ?_
    refine sL 22 50 o 4 1 (.slice A5 (List.length (List.map stT d7)) c6) 51 m rfl ?_
    refine iR 4 15 [(52, (.int .i64 ((List.length (List.map stT d7) : Nat) : Int))), (53, (.bool (((List.length (List.map stT d7) : Nat) : Int) == 2))), (54, (.bool (((List.length (List.map stT d7) : Nat) : Int) == 2))), (55, (.bool (((List.length (List.map stT d7) : Nat) : Int) == 2)))] ?_
    refine In.guard (t := 55) (b := (((List.length (List.map stT d7) : Nat) : Int) == 2)) K (fun b7 => ?_) (fun b7 => ?_)
    ·have H := ct H b7
     refine iR 1 16 [(56, (pt o 3))] ?_
     refine iS 17 ?_
     refine sL 2 56 o 3 1 (.int .i64 z1.2.2.2.1) 57 m rfl ?_
     refine iR 3 20 [(58, (.bool (z1.2.2.2.1 == 6))), (59, (.bool (z1.2.2.2.1 == 6))), (60, (.bool (z1.2.2.2.1 == 6)))] ?_
     refine In.guard (t := 60) (b := (z1.2.2.2.1 == 6)) K (fun b8 => ?_) (fun b8 => ?_)
     ·have H := ct H b8
      refine iR 4 24 [(61, (.int .i64 f.2.2.2.2.2.1)), (62, (.bool (f.2.2.2.2.2.1 == 91))), (63, (.bool (f.2.2.2.2.2.1 == 91))), (64, (.bool (f.2.2.2.2.2.1 == 91)))] ?_
      refine In.guard (t := 64) (b := (f.2.2.2.2.2.1 == 91)) K (fun b9 => ?_) (fun b9 => ?_)
      ·have H := ct H b9
       refine iR 4 28 [(65, (.int .i64 f.2.2.2.2.2.2)), (66, (.bool (f.2.2.2.2.2.2 == 1))), (67, (.bool (f.2.2.2.2.2.2 == 1))), (68, (.bool (f.2.2.2.2.2.2 == 1)))] ?_
       refine In.guard (t := 68) (b := (f.2.2.2.2.2.2 == 1)) K (fun c0 => ?_) (fun c0 => ?_)
       ·have H := ct H c0
        refine iR 4 32 [(69, (.int .i64 h.2.2.2.2.2.1)), (70, (.bool (h.2.2.2.2.2.1 == 91))), (71, (.bool (h.2.2.2.2.2.1 == 91))), (72, (.bool (h.2.2.2.2.2.1 == 91)))] ?_
        refine In.guard (t := 72) (b := (h.2.2.2.2.2.1 == 91)) K (fun c1 => ?_) (fun c1 => ?_)
        ·have H := ct H c1
         refine iR 4 36 [(73, (.int .i64 h.2.2.2.2.2.2)), (74, (.bool (h.2.2.2.2.2.2 == 2))), (75, (.bool (h.2.2.2.2.2.2 == 2))), (76, (.bool (h.2.2.2.2.2.2 == 2)))] ?_
         refine In.guard (t := 76) (b := (h.2.2.2.2.2.2 == 2)) K (fun c2 => ?_) (fun c2 => ?_)
         ·have H := ct H c2
          refine iR 3 39 [(77, (.bool c.2.2.2.2.2)), (78, (.bool c.2.2.2.2.2)), (79, (.bool c.2.2.2.2.2))] ?_
          refine In.guard (t := 79) (b := c.2.2.2.2.2) K (fun c3 => ?_) (fun c3 => ?_)
          ·have H := ct H c3
           refine iR 3 42 [(80, (.bool j.2.2.2)), (81, (.bool j.2.2.2)), (82, (.bool j.2.2.2))] ?_
           refine In.guard (t := 82) (b := j.2.2.2) K (fun c4 => ?_) (fun c4 => ?_)
           ·have H := ct H c4
            refine iR 1 43 [(83, (pt a3 1))] ?_
            refine iS 44 ?_
            refine sL 9 83 a3 1 7 (.string ⟨List.toArray j.2.1⟩) 84 m rfl ?_
            refine iS 45 ?_
            refine Xf (op := .eql) (T := 9) (T' := 9) (x := (.tmp 84)) (y := (.const (.string ⟨List.toArray ([0, 255] : List UInt8)⟩))) (a := j.2.1) (b := ([0, 255] : List UInt8)) (r := (.bool (j.2.1 == ([0, 255] : List UInt8)))) (d := (some 85)) (k := 44) K rfl K K rfl ?_
            refine iR 2 47 [(86, (.bool (j.2.1 == ([0, 255] : List UInt8)))), (87, (.bool (j.2.1 == ([0, 255] : List UInt8))))] ?_
            refine In.guard (t := 87) (b := (j.2.1 == ([0, 255] : List UInt8))) K (fun c5 => ?_) (fun c5 => ?_)
            ·have H := ct H c5
             refine iR 1 48 [(88, (pt a3 2))] ?_
             refine iS 49 ?_
             refine sL 2 88 a3 2 7 (.int .i64 j.2.2.1) 89 m rfl ?_
             refine iR 3 52 [(90, (.bool (j.2.2.1 == 5))), (91, (.bool (j.2.2.1 == 5))), (92, (.bool (j.2.2.1 == 5)))] ?_
             refine In.guard (t := 92) (b := (j.2.2.1 == 5)) K (fun c7 => ?_) (fun c7 => ?_)
             ·have H := ct H c7
              refine iS 53 ?_
              refine sL 24 2 o 0 1 (.agg #[(.int .i64 z1.1), (.int .i64 z1.2.1), (.int .i64 z1.2.2.1), (.int .i64 z1.2.2.2.1), (.slice A5 (List.length (List.map stT d7)) c6)]) 93 m rfl ?_
              obtain ⟨b3, h3, H⟩ := Qd H
              refine iS 54 ?_
              refine cF 22 #[(.tmp 93)] #[24] 94 Tryz.call22 (Xo A5 c6 z1.1 z1.2.1 z1.2.2.1 z1.2.2.2.1 d7 h2 (Qw hL (SP.keeps m)) (U4 (SP.get m (i := 0) rfl)) b3 h3) ?_
              rintro e e1 ⟨rfl, e2⟩
              refine ⟨_, rfl, ?_⟩
              have c8 := SP.call m e2
              clear e2
              refine iR 2 56 [(95, (.bool b3)), (96, (.bool b3))] ?_
              refine In.guard (t := 96) (b := b3) K (fun c9 => ?_) (fun c9 => ?_)
              ·have H := ct H c9
               refine iR 1 57 [(97, (.agg #[(.int .i64 0), (.int .i64 0), (.int .i64 0), (.int .i64 0), (.slice none (List.length ([] : List Qb)) 0)]))] ?_
               obtain ⟨a5, h4, H⟩ := Qd H
               refine iS 58 ?_
               refine cF 22 #[(.tmp 97)] #[24] 98 Tryz.call22 (Xo none 0 0 0 0 0 ([] : List Qs) e1 (Qw hL (SP.keeps c8)) (ds_nil Zh Fa e1) a5 h4) ?_
               rintro e i9 ⟨rfl, e3⟩
               refine ⟨_, rfl, ?_⟩
               have h5 := SP.call c8 e3
               clear e3
               refine iR 3 61 [(99, (.bool (!a5))), (100, (.bool (!a5))), (0, (.bool (!a5)))] ?_
               refine iF ?_
               exact ⟨(!a5), ⟨K, trivial⟩, SP.sel h5 [] rfl rfl, H⟩
              ·have H := cf H c9
               refine iR 5 61 [(97, undef), (98, undef), (99, undef), (100, (.bool false)), (0, (.bool false))] ?_
               refine iF ?_
               exact ⟨false, ⟨K, trivial⟩, SP.sel c8 [] rfl rfl, H⟩
             ·have H := cf H c7
              refine iR 9 61 [(93, undef), (94, undef), (95, (.bool false)), (96, (.bool false)), (97, undef), (98, undef), (99, undef), (100, (.bool false)), (0, (.bool false))] ?_
              refine iF ?_
              exact ⟨false, ⟨K, trivial⟩, SP.sel m [] rfl rfl, H⟩
            ·have H := cf H c5
             refine iR 14 61 [(88, undef), (89, undef), (90, undef), (91, (.bool false)), (92, (.bool false)), (93, undef), (94, undef), (95, (.bool false)), (96, (.bool false)), (97, undef), (98, undef), (99, undef), (100, (.bool false)), (0, (.bool false))] ?_
             refine iF ?_
             exact ⟨false, ⟨K, trivial⟩, SP.sel m [] rfl rfl, H⟩
           ·have H := cf H c4
            refine iR 19 61 [(83, undef), (84, undef), (85, undef), (86, (.bool false)), (87, (.bool false)), (88, undef), (89, undef), (90, undef), (91, (.bool false)), (92, (.bool false)), (93, undef), (94, undef), (95, (.bool false)), (96, (.bool false)), (97, undef), (98, undef), (99, undef), (100, (.bool false)), (0, (.bool false))] ?_
            refine iF ?_
            exact ⟨false, ⟨K, trivial⟩, SP.sel m [] rfl rfl, H⟩
          ·have H := cf H c3
           refine iR 22 61 [(80, undef), (81, (.bool false)), (82, (.bool false)), (83, undef), (84, undef), (85, undef), (86, (.bool false)), (87, (.bool false)), (88, undef), (89, undef), (90, undef), (91, (.bool false)), (92, (.bool false)), (93, undef), (94, undef), (95, (.bool false)), (96, (.bool false)), (97, undef), (98, undef), (99, undef), (100, (.bool false)), (0, (.bool false))] ?_
           refine iF ?_
           exact ⟨false, ⟨K, trivial⟩, SP.sel m [] rfl rfl, H⟩
         ·have H := cf H c2
          refine iR 25 61 [(77, undef), (78, (.bool false)), (79, (.bool false)), (80, undef), (81, (.bool false)), (82, (.bool false)), (83, undef), (84, undef), (85, undef), (86, (.bool false)), (87, (.bool false)), (88, undef), (89, undef), (90, undef), (91, (.bool false)), (92, (.bool false)), (93, undef), (94, undef), (95, (.bool false)), (96, (.bool false)), (97, undef), (98, undef), (99, undef), (100, (.bool false)), (0, (.bool false))] ?_
          refine iF ?_
          exact ⟨false, ⟨K, trivial⟩, SP.sel m [] rfl rfl, H⟩
        ·have H := cf H c1
         refine iR 29 61 [(73, undef), (74, undef), (75, (.bool false)), (76, (.bool false)), (77, undef), (78, (.bool false)), (79, (.bool false)), (80, undef), (81, (.bool false)), (82, (.bool false)), (83, undef), (84, undef), (85, undef), (86, (.bool false)), (87, (.bool false)), (88, undef), (89, undef), (90, undef), (91, (.bool false)), (92, (.bool false)), (93, undef), (94, undef), (95, (.bool false)), (96, (.bool false)), (97, undef), (98, undef), (99, undef), (100, (.bool false)), (0, (.bool false))] ?_
         refine iF ?_
         exact ⟨false, ⟨K, trivial⟩, SP.sel m [] rfl rfl, H⟩
       ·have H := cf H c0
        refine iR 33 61 [(69, undef), (70, undef), (71, (.bool false)), (72, (.bool false)), (73, undef), (74, undef), (75, (.bool false)), (76, (.bool false)), (77, undef), (78, (.bool false)), (79, (.bool false)), (80, undef), (81, (.bool false)), (82, (.bool false)), (83, undef), (84, undef), (85, undef), (86, (.bool false)), (87, (.bool false)), (88, undef), (89, undef), (90, undef), (91, (.bool false)), (92, (.bool false)), (93, undef), (94, undef), (95, (.bool false)), (96, (.bool false)), (97, undef), (98, undef), (99, undef), (100, (.bool false)), (0, (.bool false))] ?_
        refine iF ?_
        exact ⟨false, ⟨K, trivial⟩, SP.sel m [] rfl rfl, H⟩
      ·have H := cf H b9
       refine iR 37 61 [(65, undef), (66, undef), (67, (.bool false)), (68, (.bool false)), (69, undef), (70, undef), (71, (.bool false)), (72, (.bool false)), (73, undef), (74, undef), (75, (.bool false)), (76, (.bool false)), (77, undef), (78, (.bool false)), (79, (.bool false)), (80, undef), (81, (.bool false)), (82, (.bool false)), (83, undef), (84, undef), (85, undef), (86, (.bool false)), (87, (.bool false)), (88, undef), (89, undef), (90, undef), (91, (.bool false)), (92, (.bool false)), (93, undef), (94, undef), (95, (.bool false)), (96, (.bool false)), (97, undef), (98, undef), (99, undef), (100, (.bool false)), (0, (.bool false))] ?_
       refine iF ?_
       exact ⟨false, ⟨K, trivial⟩, SP.sel m [] rfl rfl, H⟩
     ·have H := cf H b8
      refine iR 41 61 [(61, undef), (62, undef), (63, (.bool false)), (64, (.bool false)), (65, undef), (66, undef), (67, (.bool false)), (68, (.bool false)), (69, undef), (70, undef), (71, (.bool false)), (72, (.bool false)), (73, undef), (74, undef), (75, (.bool false)), (76, (.bool false)), (77, undef), (78, (.bool false)), (79, (.bool false)), (80, undef), (81, (.bool false)), (82, (.bool false)), (83, undef), (84, undef), (85, undef), (86, (.bool false)), (87, (.bool false)), (88, undef), (89, undef), (90, undef), (91, (.bool false)), (92, (.bool false)), (93, undef), (94, undef), (95, (.bool false)), (96, (.bool false)), (97, undef), (98, undef), (99, undef), (100, (.bool false)), (0, (.bool false))] ?_
      refine iF ?_
      exact ⟨false, ⟨K, trivial⟩, SP.sel m [] rfl rfl, H⟩
    ·have H := cf H b7
     refine iR 46 61 [(56, undef), (57, undef), (58, undef), (59, (.bool false)), (60, (.bool false)), (61, undef), (62, undef), (63, (.bool false)), (64, (.bool false)), (65, undef), (66, undef), (67, (.bool false)), (68, (.bool false)), (69, undef), (70, undef), (71, (.bool false)), (72, (.bool false)), (73, undef), (74, undef), (75, (.bool false)), (76, (.bool false)), (77, undef), (78, (.bool false)), (79, (.bool false)), (80, undef), (81, (.bool false)), (82, (.bool false)), (83, undef), (84, undef), (85, undef), (86, (.bool false)), (87, (.bool false)), (88, undef), (89, undef), (90, undef), (91, (.bool false)), (92, (.bool false)), (93, undef), (94, undef), (95, (.bool false)), (96, (.bool false)), (97, undef), (98, undef), (99, undef), (100, (.bool false)), (0, (.bool false))] ?_
     refine iF ?_
     exact ⟨false, ⟨K, trivial⟩, SP.sel m [] rfl rfl, H⟩
   ·have H := cf H b6
    refine iR 52 61 [(50, undef), (51, undef), (52, undef), (53, undef), (54, (.bool false)), (55, (.bool false)), (56, undef), (57, undef), (58, undef), (59, (.bool false)), (60, (.bool false)), (61, undef), (62, undef), (63, (.bool false)), (64, (.bool false)), (65, undef), (66, undef), (67, (.bool false)), (68, (.bool false)), (69, undef), (70, undef), (71, (.bool false)), (72, (.bool false)), (73, undef), (74, undef), (75, (.bool false)), (76, (.bool false)), (77, undef), (78, (.bool false)), (79, (.bool false)), (80, undef), (81, (.bool false)), (82, (.bool false)), (83, undef), (84, undef), (85, undef), (86, (.bool false)), (87, (.bool false)), (88, undef), (89, undef), (90, undef), (91, (.bool false)), (92, (.bool false)), (93, undef), (94, undef), (95, (.bool false)), (96, (.bool false)), (97, undef), (98, undef), (99, undef), (100, (.bool false)), (0, (.bool false))] ?_
    refine iF ?_
    exact ⟨false, ⟨K, trivial⟩, SP.sel m [] rfl rfl, H⟩
  ·have H := cf H b5
   refine iR 58 61 [(44, undef), (45, undef), (46, undef), (47, undef), (48, (.bool false)), (49, (.bool false)), (50, undef), (51, undef), (52, undef), (53, undef), (54, (.bool false)), (55, (.bool false)), (56, undef), (57, undef), (58, undef), (59, (.bool false)), (60, (.bool false)), (61, undef), (62, undef), (63, (.bool false)), (64, (.bool false)), (65, undef), (66, undef), (67, (.bool false)), (68, (.bool false)), (69, undef), (70, undef), (71, (.bool false)), (72, (.bool false)), (73, undef), (74, undef), (75, (.bool false)), (76, (.bool false)), (77, undef), (78, (.bool false)), (79, (.bool false)), (80, undef), (81, (.bool false)), (82, (.bool false)), (83, undef), (84, undef), (85, undef), (86, (.bool false)), (87, (.bool false)), (88, undef), (89, undef), (90, undef), (91, (.bool false)), (92, (.bool false)), (93, undef), (94, undef), (95, (.bool false)), (96, (.bool false)), (97, undef), (98, undef), (99, undef), (100, (.bool false)), (0, (.bool false))] ?_
   refine iF ?_
   exact ⟨false, ⟨K, trivial⟩, SP.sel a4 [] rfl rfl, H⟩
 ·rintro ρ j0 ⟨a1, hk, h6, H⟩
  unfold Qr at H
  first | refine At.known [(0, (.bool a1))] hk ?_ | rw [← Qz (l := [(0, (.bool a1))]) hk]
  refine At.ret K ?_
  refine ⟨(.bool a1), K, ?_⟩
  obtain rfl := Qg H
  exact ⟨rfl, SP.sel h6 [] rfl rfl⟩
end Go.Proofs.YtoflbpmbkmephaaGreatDoor
namespace Go.Proofs.YtoflbpmbkmephaaGreatDoor
open Go.RowKit
set_option maxRecDepth 1000000 in
theorem cfgHead : Jm = some true := by decide +kernel
end Go.Proofs.YtoflbpmbkmephaaGreatDoor
namespace Go.Proofs.YtoflbpmbkmephaaGreatDoor
theorem failC_or (s : Str) : (Rp s).2.2.2.2.2.1 = 0 ∨ ∃ e n, (e = 2 ∨ e = 91) ∧ Rp s = Ib e n := by
  unfold Rp
  by_cases hl : 4096 < s.length
  · rw [if_pos hl]
    exact .inr ⟨2, 0, .inl rfl, rfl⟩
  · rw [if_neg hl]
    cases Fk (Qp 10 s).dropLast c0C 0 with
    | inl n => exact .inr ⟨91, n, .inr rfl, rfl⟩
    | inr cn =>
      obtain ⟨c, n⟩ := cn
      unfold finC
      dsimp only
      by_cases hr : (Qp 10 s).getLastD [] ≠ [] ∨ n = 0
      · rw [if_pos hr]
        exact .inr ⟨91, n, .inr rfl, rfl⟩
      · rw [if_neg hr]
        exact .inl rfl
theorem bnd_q {c : U5} (h : Ka 0 c) : c.2.2.2.2.length ≤ 140737488355328 ∧ ∀ t ∈ c.2.2.2.2, t.2.2.2.1.length ≤ 140737488355328 ∧ t.2.2.2.2.length ≤ 140737488355328 :=
  ⟨by have := h.1; omega, fun t ht => ⟨by have := (h.2 t ht).2.1; omega, by have := (h.2 t ht).2.2.1; omega⟩⟩
end Go.Proofs.YtoflbpmbkmephaaGreatDoor
namespace Go.Proofs.YtoflbpmbkmephaaGreatDoor
open Go.RowKit
def Ze (a : Bool) : Option (Bool) :=
  (some (a))
def Vy (a : Bool) : Option (Bool) :=
  (some (a))
def Vz (c : (List UInt8)) (d : (Bool)) : Option (Bool) :=
  ((Zg c).bind fun a => ((some a.2.2.2.2.1).bind fun b => (cond (a.2.2.2.2.2.1 != 0) (cond d ((V9 a.1 a.2.1 a.2.2.1 a.2.2.2.1 b 0 0 0 0 ([] : List Qb)).bind fun e => (Ze e)) (Ze false)) (cond d ((Zs a.1 a.2.1 a.2.2.1 a.2.2.2.1 b).bind fun f => (cond f ((Ys a.1 a.2.1 a.2.2.1 a.2.2.2.1 b).bind fun g => (Vy (g == c))) (Vy false))) (Vy false)))))
def Q4 (a : (List UInt8)) (b : (Bool)) (c : Bool) : Option (Bool) :=
  (cond c (some (false)) (Vz a b))
def Vs (e : Int) (f : Int) (g : Int) (h : Int) (i : (List Qb)) (c : (List UInt8)) (b : (Bool)) (k : Bool) : Option (Bool) :=
  (cond k (some (b)) ((Ys e f g h i).bind fun d => ((Zs e f g h i).bind fun l => (cond (!((!(d == ([] : List UInt8))) == l)) (some (false)) (cond (!(d == ([] : List UInt8))) ((Zg d).bind fun a => ((some a.2.2.2.2.1).bind fun j => (cond (decide (((List.length d : Nat) : Int) > 4096)) (cond (a.2.2.2.2.2.1 != 2) (Q4 c b true) (cond (decide (((List.length d : Nat) : Int) ≤ 4096)) (cond (a.2.2.2.2.2.1 != 0) (Q4 c b true) ((V9 a.1 a.2.1 a.2.2.1 a.2.2.2.1 j e f g h i).bind fun m => (Q4 c b (!m)))) (Q4 c b false))) (cond (decide (((List.length d : Nat) : Int) ≤ 4096)) (cond (a.2.2.2.2.2.1 != 0) (Q4 c b true) ((V9 a.1 a.2.1 a.2.2.1 a.2.2.2.1 j e f g h i).bind fun n => (Q4 c b (!n)))) (Q4 c b false))))) (Vz c b))))))
def Xw (a : Int) (b : Int) (c : Int) (d : Int) (e : (List Qb)) (f : (List UInt8)) : Option (Bool) :=
  ((Jm ).bind fun g => ((Y4 a b c d e).bind fun h => (cond h (Vs a b c d e f g true) (Vs a b c d e f g (decide (((List.length f : Nat) : Int) > 5000))))))
set_option maxHeartbeats 40000000 in
theorem No (A6 : Option Addr) (c7 : Nat) (p : Int) (q : Int) (s : Int) (u : Int) (d9 : (List Qs)) (j : (List UInt8)) (w0 : World) (hL : Nd w0) (b6 : (dDS Zh Fa).ok w0 (A6, c7, d9)) (r : (Bool)) (H : Xw p q s u (List.map stT d9) j = some r) :
  Calls Tryz.prog 4 #[(.agg #[(.int .i64 p), (.int .i64 q), (.int .i64 s), (.int .i64 u), (.slice A6 (List.length (List.map stT d9)) c7)]), (.string ⟨List.toArray j⟩)] w0 (fun e w' => e = .returned (.bool r) ∧ SP [] w0 w' []) := by
 unfold Xw at H
 refine Qx (n := 84) Tryz.func4 K K K ?_
 have g2 := Q2 [] w0
 refine aQ ?_
 refine aR ?_
 refine iS 1 ?_
 refine Z2 (t := 24) (x := (.tmp 0)) (v := (.agg #[(.int .i64 p), (.int .i64 q), (.int .i64 s), (.int .i64 u), (.slice A6 (List.length (List.map stT d9)) c7)])) (d := (some 2)) (k := 0) K rfl K g2 ?_
 intro a4 g3 e6
 refine iR 1 2 [(4, (.bool false))] ?_
 refine iF ?_
 refine aQ ?_
 refine aR ?_
 obtain ⟨m, g4, H⟩ := Qd H
 refine iS 1 ?_
 refine cF 14 #[] #[] 13 Tryz.call14 (Rk   g3 (Qw hL (SP.keeps e6)) m g4) ?_
 rintro e g5 ⟨rfl, e7⟩
 refine ⟨_, rfl, ?_⟩
 have c4 := SP.call e6 e7
 clear e7
 refine iR 1 2 [(5, (.bool m))] ?_
 refine iF ?_
 refine aQ ?_
 refine aQ ?_
 refine At.join (fun ρ w => ∃ (a9 : Bool), Zm ρ [(1, (.string ⟨List.toArray j⟩)), (2, (pt a4 0)), (5, (.bool m)), (20, (.bool a9))] ∧ SP [] w0 w [Qv a4 24 #[(.int .i64 p), (.int .i64 q), (.int .i64 s), (.int .i64 u), (.slice A6 (List.length (List.map stT d9)) c7)]] ∧ Vs p q s u (List.map stT d9) j m a9 = some r) ?_ ?_
 ·refine aR ?_
  refine iS 1 ?_
  refine sL 24 2 a4 0 0 (.agg #[(.int .i64 p), (.int .i64 q), (.int .i64 s), (.int .i64 u), (.slice A6 (List.length (List.map stT d9)) c7)]) 14 c4 rfl ?_
  obtain ⟨c5, g6, H⟩ := Qd H
  refine iS 2 ?_
  refine cF 15 #[(.tmp 14)] #[24] 15 Tryz.call15 (Gv A6 c7 p q s u d9 g5 (Dp.sp b6 c4) c5 g6) ?_
  rintro e j4 ⟨rfl, e8⟩
  refine ⟨_, rfl, ?_⟩
  have e9 := SP.call c4 e8
  clear e8
  refine iR 1 3 [(16, (.bool c5))] ?_
  refine In.guard (t := 16) (b := c5) K (fun c6 => ?_) (fun c6 => ?_)
  ·have H := ct H c6
   refine iR 4 7 [(17, undef), (18, undef), (19, undef), (20, (.bool true))] ?_
   refine iF ?_
   exact ⟨true, ⟨K, K, K, K, trivial⟩, SP.sel e9 [0] rfl rfl, H⟩
  ·have H := cf H c6
   refine iR 4 7 [(17, (.string ⟨List.toArray j⟩)), (18, (.int .i64 ((List.length j : Nat) : Int))), (19, (.bool (decide (((List.length j : Nat) : Int) > 5000)))), (20, (.bool (decide (((List.length j : Nat) : Int) > 5000))))] ?_
   refine iF ?_
   exact ⟨(decide (((List.length j : Nat) : Int) > 5000)), ⟨K, K, K, K, trivial⟩, SP.sel e9 [0] rfl rfl, H⟩
 ·rintro ρ g7 ⟨a9, hk, b7, H⟩
  unfold Vs at H
  first | refine At.known [(1, (.string ⟨List.toArray j⟩)), (2, (pt a4 0)), (5, (.bool m)), (20, (.bool a9))] hk ?_ | rw [← Qz (l := [(1, (.string ⟨List.toArray j⟩)), (2, (pt a4 0)), (5, (.bool m)), (20, (.bool a9))]) hk]
  refine Z4 K (o := (.tmp 20)) K (b := a9) K (fun c8 => ?_) (fun c8 => ?_)
  ·have H := ct H c8
   refine aQ ?_
   refine aR ?_
   refine iR 2 2 [(21, (.bool m)), (4, (.bool m))] ?_
   refine iF ?_
   refine At.ret K ?_
   refine ⟨(.bool m), K, ?_⟩
   obtain rfl := Qg H
   exact ⟨rfl, SP.sel b7 [] rfl rfl⟩
  ·have H := cf H c8
   refine At.skip K ?_
   refine aQ ?_
   refine aR ?_
   refine iS 1 ?_
   refine sL 24 2 a4 0 0 (.agg #[(.int .i64 p), (.int .i64 q), (.int .i64 s), (.int .i64 u), (.slice A6 (List.length (List.map stT d9)) c7)]) 22 b7 rfl ?_
   obtain ⟨h, g8, H⟩ := Qd H
   refine iS 2 ?_
   refine cF 24 #[(.tmp 22)] #[24] 23 Tryz.call24 (Ud A6 c7 p q s u d9 g7 (Qw hL (SP.keeps b7)) (Dp.sp b6 b7) h g8) ?_
   rintro e g9 ⟨rfl, f0⟩
   refine ⟨_, rfl, ?_⟩
   have b9 := SP.call b7 f0
   clear f0
   refine iR 1 3 [(6, (.string ⟨List.toArray h⟩))] ?_
   refine iF ?_
   refine aQ ?_
   refine aQ ?_
   refine aR ?_
   refine iR 1 1 [(24, (.string ⟨List.toArray h⟩))] ?_
   refine iS 2 ?_
   refine Xf (op := .neq) (T := 9) (T' := 9) (x := (.tmp 24)) (y := (.const (.string ⟨List.toArray ([] : List UInt8)⟩))) (a := h) (b := ([] : List UInt8)) (r := (.bool (!(h == ([] : List UInt8))))) (d := (some 25)) (k := 1) K rfl K K rfl ?_
   refine iS 3 ?_
   refine sL 24 2 a4 0 0 (.agg #[(.int .i64 p), (.int .i64 q), (.int .i64 s), (.int .i64 u), (.slice A6 (List.length (List.map stT d9)) c7)]) 26 b9 rfl ?_
   obtain ⟨c9, h1, H⟩ := Qd H
   refine iS 4 ?_
   refine cF 22 #[(.tmp 26)] #[24] 27 Tryz.call22 (Xo A6 c7 p q s u d9 g9 (Qw hL (SP.keeps b9)) (Dp.sp b6 b9) c9 h1) ?_
   rintro e h2 ⟨rfl, f1⟩
   refine ⟨_, rfl, ?_⟩
   have c0 := SP.call b9 f1
   clear f1
   refine iR 1 5 [(28, (.bool (!((!(h == ([] : List UInt8))) == c9))))] ?_
   refine iF ?_
   refine Z4 K (o := (.tmp 28)) K (b := (!((!(h == ([] : List UInt8))) == c9))) K (fun d0 => ?_) (fun d0 => ?_)
   ·have H := ct H d0
    refine aQ ?_
    refine aR ?_
    refine iR 1 1 [(4, (.bool false))] ?_
    refine iF ?_
    refine At.ret K ?_
    refine ⟨(.bool false), K, ?_⟩
    obtain rfl := Qg H
    exact ⟨rfl, SP.sel c0 [] rfl rfl⟩
   ·have H := cf H d0
    refine At.skip K ?_
    refine aQ ?_
    refine aQ ?_
    refine aR ?_
    refine iR 1 1 [(29, (.string ⟨List.toArray h⟩))] ?_
    refine iS 2 ?_
    refine Xf (op := .neq) (T := 9) (T' := 9) (x := (.tmp 29)) (y := (.const (.string ⟨List.toArray ([] : List UInt8)⟩))) (a := h) (b := ([] : List UInt8)) (r := (.bool (!(h == ([] : List UInt8))))) (d := (some 30)) (k := 1) K rfl K K rfl ?_
    refine iF ?_
    refine At.join (fun ρ w => Zm ρ [(1, (.string ⟨List.toArray j⟩)), (5, (.bool m))] ∧ SP [] w0 w [] ∧ Vz j m = some r) ?_ ?_
    ·refine Z4 K (o := (.tmp 30)) K (b := (!(h == ([] : List UInt8)))) K (fun d1 => ?_) (fun d1 => ?_)
     ·have H := ct H d1
      refine aQ ?_
      refine aR ?_
      refine iR 1 1 [(32, (.string ⟨List.toArray h⟩))] ?_
      obtain ⟨c, h3, H⟩ := Qd H
      refine iS 2 ?_
      refine cF 16 #[(.tmp 32)] #[9] 33 Tryz.call16 (Yc  h h2 (Qw hL (SP.keeps c0)) c h3) ?_
      rintro e j5 ⟨a6, a7, a8, rfl, h4, f2⟩
      obtain ⟨j6, hll182, H⟩ := Zp H
      rw [h4] at hll182
      subst hll182
      refine ⟨_, rfl, ?_⟩
      have h5 := SP.call c0 f2
      clear f2
      refine iR 4 6 [(31, (.tuple #[(.agg #[(.int .i64 c.1), (.int .i64 c.2.1), (.int .i64 c.2.2.1), (.int .i64 c.2.2.2.1), (.slice a6 (List.length (List.map stT a8)) a7)]), (.int .i64 c.2.2.2.2.2.1), (.int .i64 c.2.2.2.2.2.2)])), (34, (.agg #[(.int .i64 c.1), (.int .i64 c.2.1), (.int .i64 c.2.2.1), (.int .i64 c.2.2.2.1), (.slice a6 (List.length (List.map stT a8)) a7)])), (35, (.int .i64 c.2.2.2.2.2.1)), (36, (.int .i64 c.2.2.2.2.2.2))] ?_
      refine iS 7 ?_
      refine Qh.alloc (t := 24) (z := (.agg #[(.int .i64 0), (.int .i64 0), (.int .i64 0), (.int .i64 0), (.slice none (List.length ([] : List Qb)) 0)])) (d := (some 7)) (k := 6) K rfl K h5 ?_
      intro d2 j7 h6
      refine iS 8 ?_
      refine Qh.store (t := 24) (x := (.tmp 7)) (y := (.tmp 34)) (g := d2) (off := 0) (i := 2) (v := (.agg #[(.int .i64 c.1), (.int .i64 c.2.1), (.int .i64 c.2.2.1), (.int .i64 c.2.2.2.1), (.slice a6 (List.length (List.map stT a8)) a7)])) (cs' := #[(.int .i64 c.1), (.int .i64 c.2.1), (.int .i64 c.2.2.1), (.int .i64 c.2.2.2.1), (.slice a6 (List.length (List.map stT a8)) a7)]) (d := none) (k := 7) K rfl K K h6 rfl K ?_
      intro f3 a0
      refine iR 2 10 [(8, (.int .i64 c.2.2.2.2.2.1)), (9, (.int .i64 c.2.2.2.2.2.2))] ?_
      refine iF ?_
      refine aQ ?_
      refine At.join (fun ρ w => ∃ (b0 : Bool), Zm ρ [(1, (.string ⟨List.toArray j⟩)), (5, (.bool m)), (58, (.bool b0))] ∧ SP [] w0 w [] ∧ Q4 j m b0 = some r) ?_ ?_
      ·refine aR ?_
       refine iR 4 4 [(37, (.string ⟨List.toArray h⟩)), (38, (.int .i64 ((List.length h : Nat) : Int))), (39, (.bool (decide (((List.length h : Nat) : Int) > 4096)))), (40, (.bool (decide (((List.length h : Nat) : Int) > 4096))))] ?_
       refine In.guard (t := 40) (b := (decide (((List.length h : Nat) : Int) > 4096))) K (fun d3 => ?_) (fun d3 => ?_)
       ·have H := ct H d3
        refine iR 4 8 [(41, (.int .i64 c.2.2.2.2.2.1)), (42, (.bool (c.2.2.2.2.2.1 != 2))), (43, (.bool (c.2.2.2.2.2.1 != 2))), (44, (.bool (c.2.2.2.2.2.1 != 2)))] ?_
        refine In.guard (t := 44) (b := (c.2.2.2.2.2.1 != 2)) K (fun d4 => ?_) (fun d4 => ?_)
        ·have H := ct H d4
         refine iR 14 22 [(45, undef), (46, undef), (47, undef), (48, undef), (49, undef), (50, undef), (51, undef), (52, undef), (53, undef), (54, undef), (55, undef), (56, undef), (57, undef), (58, (.bool true))] ?_
         refine iF ?_
         exact ⟨true, ⟨K, K, K, trivial⟩, SP.sel a0 [] rfl rfl, H⟩
        ·have H := cf H d4
         refine iR 4 12 [(45, (.string ⟨List.toArray h⟩)), (46, (.int .i64 ((List.length h : Nat) : Int))), (47, (.bool (decide (((List.length h : Nat) : Int) ≤ 4096)))), (48, (.bool (decide (((List.length h : Nat) : Int) ≤ 4096))))] ?_
         refine In.guard (t := 48) (b := (decide (((List.length h : Nat) : Int) ≤ 4096))) K (fun d5 => ?_) (fun d5 => ?_)
         ·have H := ct H d5
          refine iR 3 15 [(49, (.int .i64 c.2.2.2.2.2.1)), (50, (.bool (c.2.2.2.2.2.1 != 0))), (51, (.bool (c.2.2.2.2.2.1 != 0)))] ?_
          refine In.guard (t := 51) (b := (c.2.2.2.2.2.1 != 0)) K (fun d6 => ?_) (fun d6 => ?_)
          ·have H := ct H d6
           refine iR 7 22 [(52, undef), (53, undef), (54, undef), (55, undef), (56, (.bool true)), (57, (.bool true)), (58, (.bool true))] ?_
           refine iF ?_
           exact ⟨true, ⟨K, K, K, trivial⟩, SP.sel a0 [] rfl rfl, H⟩
          ·have H := cf H d6
           refine iS 16 ?_
           refine sL 24 7 d2 0 2 (.agg #[(.int .i64 c.1), (.int .i64 c.2.1), (.int .i64 c.2.2.1), (.int .i64 c.2.2.2.1), (.slice a6 (List.length (List.map stT a8)) a7)]) 52 a0 rfl ?_
           refine iS 17 ?_
           refine sL 24 2 a4 0 0 (.agg #[(.int .i64 p), (.int .i64 q), (.int .i64 s), (.int .i64 u), (.slice A6 (List.length (List.map stT d9)) c7)]) 53 a0 rfl ?_
           obtain ⟨b1, h7, H⟩ := Qd H
           refine iS 18 ?_
           refine cF 26 #[(.tmp 52), (.tmp 53)] #[24, 24] 54 Tryz.call26 (Y5 a6 a7 A6 c7 c.1 c.2.1 c.2.2.1 c.2.2.2.1 a8 p q s u d9 f3 (U4 (SP.get a0 (i := 1) rfl)) (Dp.sp b6 a0) b1 h7) ?_
           rintro e j8 ⟨rfl, f4⟩
           refine ⟨_, rfl, ?_⟩
           have h8 := SP.call a0 f4
           clear f4
           refine iR 4 22 [(55, (.bool (!b1))), (56, (.bool (!b1))), (57, (.bool (!b1))), (58, (.bool (!b1)))] ?_
           refine iF ?_
           exact ⟨(!b1), ⟨K, K, K, trivial⟩, SP.sel h8 [] rfl rfl, H⟩
         ·have H := cf H d5
          refine iR 10 22 [(49, undef), (50, undef), (51, undef), (52, undef), (53, undef), (54, undef), (55, undef), (56, undef), (57, (.bool false)), (58, (.bool false))] ?_
          refine iF ?_
          exact ⟨false, ⟨K, K, K, trivial⟩, SP.sel a0 [] rfl rfl, H⟩
       ·have H := cf H d3
        refine iR 8 12 [(41, undef), (42, undef), (43, (.bool false)), (44, (.bool false)), (45, (.string ⟨List.toArray h⟩)), (46, (.int .i64 ((List.length h : Nat) : Int))), (47, (.bool (decide (((List.length h : Nat) : Int) ≤ 4096)))), (48, (.bool (decide (((List.length h : Nat) : Int) ≤ 4096))))] ?_
        refine In.guard (t := 48) (b := (decide (((List.length h : Nat) : Int) ≤ 4096))) K (fun d7 => ?_) (fun d7 => ?_)
        ·have H := ct H d7
         refine iR 3 15 [(49, (.int .i64 c.2.2.2.2.2.1)), (50, (.bool (c.2.2.2.2.2.1 != 0))), (51, (.bool (c.2.2.2.2.2.1 != 0)))] ?_
         refine In.guard (t := 51) (b := (c.2.2.2.2.2.1 != 0)) K (fun d8 => ?_) (fun d8 => ?_)
         ·have H := ct H d8
          refine iR 7 22 [(52, undef), (53, undef), (54, undef), (55, undef), (56, (.bool true)), (57, (.bool true)), (58, (.bool true))] ?_
          refine iF ?_
          exact ⟨true, ⟨K, K, K, trivial⟩, SP.sel a0 [] rfl rfl, H⟩
         ·have H := cf H d8
          refine iS 16 ?_
          refine sL 24 7 d2 0 2 (.agg #[(.int .i64 c.1), (.int .i64 c.2.1), (.int .i64 c.2.2.1), (.int .i64 c.2.2.2.1), (.slice a6 (List.length (List.map stT a8)) a7)]) 52 a0 rfl ?_
          refine iS 17 ?_
          refine sL 24 2 a4 0 0 (.agg #[(.int .i64 p), (.int .i64 q), (.int .i64 s), (.int .i64 u), (.slice A6 (List.length (List.map stT d9)) c7)]) 53 a0 rfl ?_
          obtain ⟨b2, h9, H⟩ := Qd H
          refine iS 18 ?_
          refine cF 26 #[(.tmp 52), (.tmp 53)] #[24, 24] 54 Tryz.call26 (Y5 a6 a7 A6 c7 c.1 c.2.1 c.2.2.1 c.2.2.2.1 a8 p q s u d9 f3 (U4 (SP.get a0 (i := 1) rfl)) (Dp.sp b6 a0) b2 h9) ?_
          rintro e j9 ⟨rfl, f5⟩
          refine ⟨_, rfl, ?_⟩
          have i0 := SP.call a0 f5
          clear f5
          refine iR 4 22 [(55, (.bool (!b2))), (56, (.bool (!b2))), (57, (.bool (!b2))), (58, (.bool (!b2)))] ?_
          refine iF ?_
          exact ⟨(!b2), ⟨K, K, K, trivial⟩, SP.sel i0 [] rfl rfl, H⟩
        ·have H := cf H d7
         refine iR 10 22 [(49, undef), (50, undef), (51, undef), (52, undef), (53, undef), (54, undef), (55, undef), (56, undef), (57, (.bool false)), (58, (.bool false))] ?_
         refine iF ?_
         exact ⟨false, ⟨K, K, K, trivial⟩, SP.sel a0 [] rfl rfl, H⟩
      ·rintro ρ k1 ⟨b0, hk, f6, H⟩
       unfold Q4 at H
       first | refine At.known [(1, (.string ⟨List.toArray j⟩)), (5, (.bool m)), (58, (.bool b0))] hk ?_ | rw [← Qz (l := [(1, (.string ⟨List.toArray j⟩)), (5, (.bool m)), (58, (.bool b0))]) hk]
       refine Z4 K (o := (.tmp 58)) K (b := b0) K (fun e0 => ?_) (fun e0 => ?_)
       ·have H := ct H e0
        refine aQ ?_
        refine aR ?_
        refine iR 1 1 [(4, (.bool false))] ?_
        refine iF ?_
        refine At.ret K ?_
        refine ⟨(.bool false), K, ?_⟩
        obtain rfl := Qg H
        exact ⟨rfl, SP.sel f6 [] rfl rfl⟩
       ·have H := cf H e0
        refine At.skip K ?_
        exact ⟨⟨K, K, trivial⟩, SP.sel f6 [] rfl rfl, H⟩
     ·have H := cf H d1
      refine At.skip K ?_
      exact ⟨⟨K, K, trivial⟩, SP.sel c0 [] rfl rfl, H⟩
    ·rintro ρ i1 ⟨hk, f7, H⟩
     unfold Vz at H
     first | refine At.known [(1, (.string ⟨List.toArray j⟩)), (5, (.bool m))] hk ?_ | rw [← Qz (l := [(1, (.string ⟨List.toArray j⟩)), (5, (.bool m))]) hk]
     refine aQ ?_
     refine aR ?_
     refine iR 1 1 [(60, (.string ⟨List.toArray j⟩))] ?_
     obtain ⟨f, i2, H⟩ := Qd H
     refine iS 2 ?_
     refine cF 16 #[(.tmp 60)] #[9] 61 Tryz.call16 (Yc  j i1 (Qw hL (SP.keeps f7)) f i2) ?_
     rintro e k2 ⟨a1, a2, a3, rfl, i3, f8⟩
     obtain ⟨k3, hll114, H⟩ := Zp H
     rw [i3] at hll114
     subst hll114
     refine ⟨_, rfl, ?_⟩
     have i4 := SP.call f7 f8
     clear f8
     refine iR 4 6 [(59, (.tuple #[(.agg #[(.int .i64 f.1), (.int .i64 f.2.1), (.int .i64 f.2.2.1), (.int .i64 f.2.2.2.1), (.slice a1 (List.length (List.map stT a3)) a2)]), (.int .i64 f.2.2.2.2.2.1), (.int .i64 f.2.2.2.2.2.2)])), (62, (.agg #[(.int .i64 f.1), (.int .i64 f.2.1), (.int .i64 f.2.2.1), (.int .i64 f.2.2.2.1), (.slice a1 (List.length (List.map stT a3)) a2)])), (63, (.int .i64 f.2.2.2.2.2.1)), (64, (.int .i64 f.2.2.2.2.2.2))] ?_
     refine iS 7 ?_
     refine Qh.alloc (t := 24) (z := (.agg #[(.int .i64 0), (.int .i64 0), (.int .i64 0), (.int .i64 0), (.slice none (List.length ([] : List Qb)) 0)])) (d := (some 10)) (k := 6) K rfl K i4 ?_
     intro c1 k4 i5
     refine iS 8 ?_
     refine Qh.store (t := 24) (x := (.tmp 10)) (y := (.tmp 62)) (g := c1) (off := 0) (i := 1) (v := (.agg #[(.int .i64 f.1), (.int .i64 f.2.1), (.int .i64 f.2.2.1), (.int .i64 f.2.2.2.1), (.slice a1 (List.length (List.map stT a3)) a2)])) (cs' := #[(.int .i64 f.1), (.int .i64 f.2.1), (.int .i64 f.2.2.1), (.int .i64 f.2.2.2.1), (.slice a1 (List.length (List.map stT a3)) a2)]) (d := none) (k := 7) K rfl K K i5 rfl K ?_
     intro e1 a5
     refine iR 2 10 [(11, (.int .i64 f.2.2.2.2.2.1)), (12, (.int .i64 f.2.2.2.2.2.2))] ?_
     refine iF ?_
     refine aQ ?_
     refine aQ ?_
     refine aR ?_
     refine iR 2 2 [(65, (.int .i64 f.2.2.2.2.2.1)), (66, (.bool (f.2.2.2.2.2.1 != 0)))] ?_
     refine iF ?_
     refine Z4 K (o := (.tmp 66)) K (b := (f.2.2.2.2.2.1 != 0)) K (fun e2 => ?_) (fun e2 => ?_)
     ·have H := ct H e2
      refine aQ ?_
      refine At.join (fun ρ w => ∃ (b3 : Bool), Zm ρ [(4, (.bool b3))] ∧ SP [] w0 w [] ∧ Ze b3 = some r) ?_ ?_
      ·refine aR ?_
       refine iR 2 2 [(67, (.bool m)), (68, (.bool m))] ?_
       refine In.guard (t := 68) (b := m) K (fun e3 => ?_) (fun e3 => ?_)
       ·have H := ct H e3
        refine iS 3 ?_
        refine sL 24 10 c1 0 1 (.agg #[(.int .i64 f.1), (.int .i64 f.2.1), (.int .i64 f.2.2.1), (.int .i64 f.2.2.2.1), (.slice a1 (List.length (List.map stT a3)) a2)]) 69 a5 rfl ?_
        refine iR 1 4 [(70, (.agg #[(.int .i64 0), (.int .i64 0), (.int .i64 0), (.int .i64 0), (.slice none (List.length ([] : List Qb)) 0)]))] ?_
        obtain ⟨c2, i6, H⟩ := Qd H
        refine iS 5 ?_
        refine cF 26 #[(.tmp 69), (.tmp 70)] #[24, 24] 71 Tryz.call26 (Y5 a1 a2 none 0 f.1 f.2.1 f.2.2.1 f.2.2.2.1 a3 0 0 0 0 ([] : List Qs) e1 (U4 (SP.get a5 (i := 0) rfl)) (ds_nil Zh Fa e1) c2 i6) ?_
        rintro e k5 ⟨rfl, f9⟩
        refine ⟨_, rfl, ?_⟩
        have i7 := SP.call a5 f9
        clear f9
        refine iR 2 7 [(72, (.bool c2)), (4, (.bool c2))] ?_
        refine iF ?_
        exact ⟨c2, ⟨K, trivial⟩, SP.sel i7 [] rfl rfl, H⟩
       ·have H := cf H e3
        refine iR 5 7 [(69, undef), (70, undef), (71, undef), (72, (.bool false)), (4, (.bool false))] ?_
        refine iF ?_
        exact ⟨false, ⟨K, trivial⟩, SP.sel a5 [] rfl rfl, H⟩
      ·rintro ρ k6 ⟨b3, hk, i8, H⟩
       unfold Ze at H
       first | refine At.known [(4, (.bool b3))] hk ?_ | rw [← Qz (l := [(4, (.bool b3))]) hk]
       refine At.ret K ?_
       refine ⟨(.bool b3), K, ?_⟩
       obtain rfl := Qg H
       exact ⟨rfl, SP.sel i8 [] rfl rfl⟩
     ·have H := cf H e2
      refine At.skip K ?_
      refine aQ ?_
      refine At.join (fun ρ w => ∃ (b4 : Bool), Zm ρ [(4, (.bool b4))] ∧ SP [] w0 w [] ∧ Vy b4 = some r) ?_ ?_
      ·refine aR ?_
       refine iR 2 2 [(73, (.bool m)), (74, (.bool m))] ?_
       refine In.guard (t := 74) (b := m) K (fun e4 => ?_) (fun e4 => ?_)
       ·have H := ct H e4
        refine iS 3 ?_
        refine sL 24 10 c1 0 1 (.agg #[(.int .i64 f.1), (.int .i64 f.2.1), (.int .i64 f.2.2.1), (.int .i64 f.2.2.2.1), (.slice a1 (List.length (List.map stT a3)) a2)]) 75 a5 rfl ?_
        obtain ⟨c3, i9, H⟩ := Qd H
        refine iS 4 ?_
        refine cF 22 #[(.tmp 75)] #[24] 76 Tryz.call22 (Xo a1 a2 f.1 f.2.1 f.2.2.1 f.2.2.2.1 a3 e1 (Qw hL (SP.keeps a5)) (U4 (SP.get a5 (i := 0) rfl)) c3 i9) ?_
        rintro e j0 ⟨rfl, g0⟩
        refine ⟨_, rfl, ?_⟩
        have b8 := SP.call a5 g0
        clear g0
        refine iR 2 6 [(77, (.bool c3)), (78, (.bool c3))] ?_
        refine In.guard (t := 78) (b := c3) K (fun e5 => ?_) (fun e5 => ?_)
        ·have H := ct H e5
         refine iS 7 ?_
         refine sL 24 10 c1 0 1 (.agg #[(.int .i64 f.1), (.int .i64 f.2.1), (.int .i64 f.2.2.1), (.int .i64 f.2.2.2.1), (.slice a1 (List.length (List.map stT a3)) a2)]) 79 b8 rfl ?_
         obtain ⟨b5, j1, H⟩ := Qd H
         refine iS 8 ?_
         refine cF 24 #[(.tmp 79)] #[24] 80 Tryz.call24 (Ud a1 a2 f.1 f.2.1 f.2.2.1 f.2.2.2.1 a3 j0 (Qw hL (SP.keeps b8)) (U4 (SP.get b8 (i := 0) rfl)) b5 j1) ?_
         rintro e k7 ⟨rfl, g1⟩
         refine ⟨_, rfl, ?_⟩
         have j2 := SP.call b8 g1
         clear g1
         refine iR 1 9 [(81, (.string ⟨List.toArray j⟩))] ?_
         refine iS 10 ?_
         refine Xf (op := .eql) (T := 9) (T' := 9) (x := (.tmp 80)) (y := (.tmp 81)) (a := b5) (b := j) (r := (.bool (b5 == j))) (d := (some 82)) (k := 9) K rfl K K rfl ?_
         refine iR 2 12 [(83, (.bool (b5 == j))), (4, (.bool (b5 == j)))] ?_
         refine iF ?_
         exact ⟨(b5 == j), ⟨K, trivial⟩, SP.sel j2 [] rfl rfl, H⟩
        ·have H := cf H e5
         refine iR 6 12 [(79, undef), (80, undef), (81, undef), (82, undef), (83, (.bool false)), (4, (.bool false))] ?_
         refine iF ?_
         exact ⟨false, ⟨K, trivial⟩, SP.sel b8 [] rfl rfl, H⟩
       ·have H := cf H e4
        refine iR 10 12 [(75, undef), (76, undef), (77, (.bool false)), (78, (.bool false)), (79, undef), (80, undef), (81, undef), (82, undef), (83, (.bool false)), (4, (.bool false))] ?_
        refine iF ?_
        exact ⟨false, ⟨K, trivial⟩, SP.sel a5 [] rfl rfl, H⟩
      ·rintro ρ k8 ⟨b4, hk, j3, H⟩
       unfold Vy at H
       first | refine At.known [(4, (.bool b4))] hk ?_ | rw [← Qz (l := [(4, (.bool b4))]) hk]
       refine At.ret K ?_
       refine ⟨(.bool b4), K, ?_⟩
       obtain rfl := Qg H
       exact ⟨rfl, SP.sel j3 [] rfl rfl⟩
end Go.Proofs.YtoflbpmbkmephaaGreatDoor
namespace Go.Proofs.YtoflbpmbkmephaaGreatDoor
open Go.RowKit
theorem printC_ne {c : U5} : (!(Nq c == ([] : List UInt8))) = okC c := by
  unfold Nq
  cases h : okC c with
  | false => rfl
  | true =>
    rw [if_pos rfl]
    unfold Nl
    rw [List.flatMap_cons]
    have : ∀ (a b : Str), a ≠ [] → (!((a ++ b) == ([] : List UInt8))) = true := fun a b h => by simp [h]
    refine this _ _ ?_
    unfold U6
    simp
theorem ranged_of {c : U5} (h : ∀ t ∈ c.2.2.2.2, Ly t) : Fn c := fun t ht n hn => (h t ht).2.2.2.1 n hn
theorem Ki (s : Str) : Vz s true = some true := by
  unfold Vz Ze Vy
  rw [pParse, Option.bind_some, Option.bind_some]
  rcases failC_or s with h | ⟨e, n, he, h⟩
  · obtain ⟨c, h1, h2, h3, h4, _⟩ := Kh h
    rw [h1]
    have hq : ∀ t ∈ c.2.2.2.2, Ly t := fun t ht => Kw (bnd_le (h3.2 t ht))
    have hr := lCfg c.1 c.2.1 c.2.2.1 c.2.2.2.1 c.2.2.2.2 (bnd_q h3).1 hq
    have hp := pPrint c (bnd_q h3).1 hq
    rw [show (((0 : Int)) != 0) = false from rfl, cond_false, cond_true, hr, Option.bind_some]
    show cond (okC c) _ _ = _
    rw [h2, cond_true, hp, Option.bind_some, h4, beq_self_eq_true]
  · rw [h]
    rcases he with rfl | rfl
    · rw [show (Ib 2 n).2.2.2.2.2.1 = 2 from rfl, show ((2 : Int) != 0) = true from rfl, cond_true, cond_true]
      show (V9 0 0 0 0 [] 0 0 0 0 []).bind _ = _
      rw [rSame 0 0 0 0 [] (by simp) (fun t ht => by cases ht)]
      rfl
    · rw [show (Ib 91 n).2.2.2.2.2.1 = 91 from rfl, show ((91 : Int) != 0) = true from rfl, cond_true, cond_true]
      show (V9 0 0 0 0 [] 0 0 0 0 []).bind _ = _
      rw [rSame 0 0 0 0 [] (by simp) (fun t ht => by cases ht)]
      rfl
theorem Ck (w g i e : Int) (l : List Qb) (s : Str) (hl : l.length ≤ 140737488355328) (hq : ∀ t ∈ l, Ly t) : Xw w g i e l s = some true := by
  obtain ⟨b, hb, hb2⟩ := cfg_great w g i e l hl hq
  have k1 : Vs w g i e l s true true = some true := rfl
  have k2 : Vs w g i e l s true false = some true := by
    unfold Vs Q4
    have h1 := pPrint (w, g, i, e, l) hl hq
    dsimp only at h1
    rw [cond_false, h1, Option.bind_some, lCfg w g i e l hl hq, Option.bind_some]
    show cond (!((!(Nq (w, g, i, e, l) == ([] : List UInt8))) == okC (w, g, i, e, l))) _ _ = _
    rw [printC_ne, beq_self_eq_true, Bool.not_true, cond_false]
    cases ho : okC (w, g, i, e, l) with
    | false => rw [cond_false, Ki]
    | true =>
      rw [cond_true, pParse, Option.bind_some, Option.bind_some]
      by_cases hlen : 4096 < (Nq (w, g, i, e, l)).length
      · have hp : Rp (Nq (w, g, i, e, l)) = Ib 2 0 := by
          unfold Rp
          rw [if_pos hlen]
        rw [hp, decide_eq_true (show ((List.length (Nq (w, g, i, e, l)) : Nat) : Int) > 4096 by omega), cond_true, show ((Ib 2 0).2.2.2.2.2.1 != 2) = false from rfl, cond_false, decide_eq_false (show ¬ ((List.length (Nq (w, g, i, e, l)) : Nat) : Int) ≤ 4096 by omega), cond_false, cond_false, Ki]
      · have hp := Kg ho (ranged_of hq) (by omega)
        rw [decide_eq_false (show ¬ ((List.length (Nq (w, g, i, e, l)) : Nat) : Int) > 4096 by omega), cond_false, decide_eq_true (show ((List.length (Nq (w, g, i, e, l)) : Nat) : Int) ≤ 4096 by omega), cond_true, hp, show ((0 : Int) != 0) = false from rfl, cond_false,
          rSame w g i e l hl (fun t ht => ⟨(hq t ht).2.1, (hq t ht).2.2.1⟩), Option.bind_some, Bool.not_true, cond_false, Ki]
  unfold Xw
  rw [cfgHead, Option.bind_some, hb, Option.bind_some]
  cases b with
  | true => rw [cond_true, k1]
  | false =>
    rw [cond_false]
    cases decide (((List.length s : Nat) : Int) > 5000) with
    | true => rw [k1]
    | false => rw [k2]
end Go.Proofs.YtoflbpmbkmephaaGreatDoor
namespace Go.Proofs.YtoflbpmbkmephaaGreatDoor
open Go.RowKit Go.ChangeShapes Go.WideShapes Go.Deep
theorem own : ownKnob Tryz.prog.godebug = none := by kernel_rfl
theorem laidOut : laidOutB Tryz.prog = true := by kernel_rfl
section
variable {H : Type} {enc : TypeId × Value → H} {W : World} {spare : Nat → Bool} {held : Bool} {base b0 : Nat} {r : Reach}
end
end Go.Proofs.YtoflbpmbkmephaaGreatDoor
namespace Go.Proofs.YtoflbpmbkmephaaGreatDoor
open Go.RowKit Go.ChangeShapes Go.WideShapes Go.Deep
section
variable {H : Type} {enc : TypeId × Value → H} {P : Program} {W : World}
def Rds (enc : TypeId × Value → H) (P : Program) (W : World) (t : TypeId) {α : Type} (e : Enc α) (Q : Nat → α → Prop) : Prop :=
  ∀ (X0 : Nat) (cs : List Value) (x : DataW H × List MemPlace), DataW.trod enc P W 0 (fun _ => true) true X0 t cs = some x → ∃ a, cs = e.enc a ∧ ∀ r, (x.1.weights P t).all (· ≤ r) = true → Q r a
def RdsFs (enc : TypeId × Value → H) (P : Program) (W : World) (o : Nat) (fs : List (TypeId × Nat)) {α : Type} (e : Enc α) (Q : Nat → α → Prop) : Prop :=
  ∀ (X0 : Nat) (cs : List Value) (xs : List (DataW H × List MemPlace)), xs.length = fs.length → (∀ (i : Nat) f, fs[i]? = some f → DataW.trod enc P W 0 (fun _ => true) true X0 f.1 ((cs.drop f.2).take (P.cellsOf f.1)) = xs[i]?) →
    ∃ a, (cs.drop o).take e.sz = e.enc a ∧ ∀ r, (DataW.weightsEach P (fs.map (·.1)) (xs.map (·.1))).all (· ≤ r) = true → Q r a
theorem Rm {t : TypeId} {k : IntKind} (ht : P.underlying t = some (.int k)) : Rds enc P W t (Q5 k) (fun _ n => (Lit.int k n).wf = true) := by
  intro X0 cs x h
  obtain ⟨n, rfl, rfl, hw⟩ := DataW.trod_int ht h
  exact ⟨n, rfl, fun _ _ => hw⟩
theorem Kj {t : TypeId} (ht : P.underlying t = some .string) : Rds enc P W t Qk (fun r s => s.length ≤ r) := by
  intro X0 cs x h
  obtain ⟨s, rfl, rfl, hs⟩ := DataW.trod_string ht h
  refine ⟨s.data.toList, rfl, fun r hr => ?_⟩
  simpa [DataW.weights] using hr
theorem K5 {t : TypeId} {o : Nat} {α : Type} {e : Enc α} {Q : Nat → α → Prop} (h : Rds enc P W t e Q) (hc : P.cellsOf t = e.sz) : RdsFs enc P W o [(t, o)] e Q := by
  intro X0 cs xs hl hf
  match xs, hl with
  | [x], _ =>
    have := hf 0 (t, o) rfl
    obtain ⟨a, ha, hq⟩ := h X0 _ _ this
    rw [hc] at ha
    refine ⟨a, ha, fun r hr => hq r ?_⟩
    simpa [DataW.weightsEach] using hr
theorem Ga {t : TypeId} {o : Nat} {fs : List (TypeId × Nat)} {α β : Type} {e : Enc α} {e' : Enc β} {Q : Nat → α → Prop} {Q' : Nat → β → Prop} (h : Rds enc P W t e Q) (hc : P.cellsOf t = e.sz) (hr : RdsFs enc P W (o + e.sz) fs e' Q') :
    RdsFs enc P W o ((t, o) :: fs) (Qf e e') (fun r a => Q r a.1 ∧ Q' r a.2) := by
  intro X0 cs xs hl hf
  match xs, hl with
  | x :: xs, hl =>
    have := hf 0 (t, o) rfl
    obtain ⟨a, ha, hq⟩ := h X0 _ _ this
    obtain ⟨b, hb, hq'⟩ := hr X0 cs xs (by simpa using hl) (fun i f hi => by have := hf (i + 1) f (by simpa using hi); simpa using this)
    refine ⟨(a, b), ?_, fun r hw => ?_⟩
    · show (cs.drop o).take (e.sz + e'.sz) = e.enc a ++ e'.enc b
      rw [hc] at ha
      rw [← ha, ← hb, List.take_add, List.drop_drop]
    · simp only [List.map_cons, DataW.weightsEach, List.all_append, Bool.and_eq_true] at hw
      exact ⟨hq r hw.1, hq' r hw.2⟩
theorem Dc {t : TypeId} {l : List (TypeId × Nat)} {α : Type} {e : Enc α} {Q : Nat → α → Prop} (hl : (match P.underlying t with | some (.struct fs) => some (fs.toList.map (fun f => (f.type, f.offset))) | _ => none) = some l) (hc : P.cellsOf t = e.sz)
    (hr : RdsFs enc P W 0 l e Q) : Rds enc P W t e Q := by
  intro X0 cs x hx
  split at hl
  · rename_i fs hs
    simp only [Option.some.injEq] at hl
    subst hl
    obtain ⟨xs, n, _, rfl, hlen, hxs, hg⟩ := DataW.trod_struct hs hx
    obtain ⟨a, ha, hq⟩ := hr n cs xs (by simpa using hxs) (fun i f hi => by
      rw [List.getElem?_map, Option.map_eq_some_iff] at hi
      obtain ⟨f', hf', rfl⟩ := hi
      exact hg i f' (by simpa using hf'))
    rw [List.drop_zero, List.take_of_length_le (by omega)] at ha
    refine ⟨a, ha, fun r hw => hq r ?_⟩
    simp only [DataW.weights, hs] at hw
    simpa [List.map_map, Function.comp_def] using hw
  · cases hl
theorem Dr {t : TypeId} {n : Nat} : ∀ {ds : List (DataW H)} {d : DataW H}, d ∈ ds → n ∈ d.weights P t → n ∈ DataW.weightsAll P t ds
  | d0 :: ds, d, hd, hn => by
    simp only [DataW.weightsAll, List.mem_append]
    rcases List.mem_cons.1 hd with rfl | h
    · exact .inl hn
    · exact .inr (Dr h hn)
theorem rds_row {t te : TypeId} {α : Type} {e : Enc α} {Q : Nat → α → Prop} (ht : P.underlying t = some (.slice te)) (h : Rds enc P W te e Q) (hc : P.cellsOf te = e.sz) (h0 : 0 < e.sz) {X0 : Nat} {cs : List Value} {x : DataW H × List MemPlace}
    (hx : DataW.trod enc P W 0 (fun _ => true) true X0 t cs = some x) :
    ∃ (A : Option Addr) (c : Nat) (l : List α), cs = [.slice A l.length c] ∧ RdT e W A c l ∧ ∀ r, (x.1.weights P t).all (· ≤ r) = true → l.length * P.bytesOf te ≤ r ∧ ∀ a ∈ l, Q r a := by
  rcases DataW.trod_slice ht hx with ⟨rfl, rfl⟩ | ⟨a, len, cap, elems, rest, n, _, rfl, rfl, _, hl, hm, hlen, hel, _, _⟩
  · exact ⟨none, 0, [], rfl, RdT.nil _ W, fun r _ => ⟨by simp, fun a ha => by cases ha⟩⟩
  · have each : ∀ i, i ≤ len → ∃ l : List α, l.length = i ∧ ∀ j (hj : j < l.length), W.cells? 0 (a.add (j * P.cellsOf te)) (P.cellsOf te) = some (e.enc l[j]) ∧ ∀ y, elems[j]? = some y → ∀ r, (y.1.weights P te).all (· ≤ r) = true → Q r l[j] := by
      intro i
      induction i with
      | zero => exact fun _ => ⟨[], rfl, fun j hj => by simp at hj⟩
      | succ i ih =>
        intro hi
        obtain ⟨l, hll, hlg⟩ := ih (by omega)
        have := hel i (by omega)
        rw [List.getElem?_eq_getElem (by omega), Option.bind_eq_some_iff] at this
        obtain ⟨cs', h1, h2⟩ := this
        obtain ⟨b, rfl, hb⟩ := h n cs' _ h2
        refine ⟨l ++ [b], by simp [hll], fun j hj => ?_⟩
        by_cases hji : j < l.length
        · rw [List.getElem_append_left hji]
          exact hlg j hji
        · obtain rfl : j = i := by simp at hj; omega
          subst hll
          rw [List.getElem_concat_length rfl]
          refine ⟨h1, fun y hy => ?_⟩
          rw [List.getElem?_eq_getElem (by omega), Option.some.injEq] at hy
          subst hy
          exact hb
    obtain ⟨l, hll, hlg⟩ := each len (Nat.le_refl _)
    subst hll
    refine ⟨some a, cap, l, rfl, ⟨by rw [Zf], hl, hm, fun hn => ?_⟩, fun r hw => ?_⟩
    · have cell : ∀ j (hj : j < l.length) k, k < e.sz → W.cell? ((a.add (j * e.sz)).add k) = (e.enc l[j])[k]? := by
        intro j hj k hk
        have := (hlg j hj).1
        rw [hc] at this
        exact (World.cells?_some this).2.2 k hk
      have c0 := cell 0 hn 0 h0
      rw [Nat.zero_mul, List.getElem?_eq_getElem (by rw [e.len]; exact h0)] at c0
      obtain ⟨b, off, spot⟩ := a
      obtain rfl : spot = none := by simpa [Addr.add] using World.cell?_spot c0
      have hadd : ∀ i j : Nat, ((⟨b, off, none⟩ : Addr).add i).add j = ⟨b, off + (i + j), none⟩ := by
        intro i j
        unfold Addr.add
        by_cases hi : i = 0 <;> by_cases hj : j = 0 <;> simp [hi, hj, Nat.add_assoc]
      rw [hadd] at c0
      refine ⟨b, off, rfl, block_lt_of_cell c0, fun j u hu => ?_⟩
      have hlen2 := (List.getElem?_eq_some_iff.1 hu).1
      rw [Zf] at hlen2
      have hq : j / e.sz < l.length := Nat.div_lt_of_lt_mul (by rw [Nat.mul_comm]; exact hlen2)
      have hk : j % e.sz < e.sz := Nat.mod_lt _ h0
      have hj : j = j / e.sz * e.sz + j % e.sz := by rw [Nat.mul_comm]; exact (Nat.div_add_mod j e.sz).symm
      have hce := cell (j / e.sz) hq (j % e.sz) hk
      rw [hadd, ← hj] at hce
      rw [hce]
      have hgt := Nx e (l := l) (i := j / e.sz) (x := l[j / e.sz]) (List.getElem?_eq_getElem hq) (j := j % e.sz) (u := (e.enc l[j / e.sz])[j % e.sz]'(by rw [e.len]; exact hk)) (List.getElem?_eq_getElem _)
      rw [← hj, hu] at hgt
      rw [List.getElem?_eq_getElem (by rw [e.len]; exact hk), ← hgt]
    · simp only [DataW.weights, ht, List.all_cons, Bool.and_eq_true, decide_eq_true_eq, List.all_append] at hw
      refine ⟨Nat.le_trans (Nat.mul_le_mul_right _ (by simp; omega)) hw.1, fun b hb => ?_⟩
      obtain ⟨j, hj, rfl⟩ := List.mem_iff_getElem.1 hb
      refine (hlg j hj).2 _ (List.getElem?_eq_getElem (by omega)) r ?_
      rw [List.all_eq_true] at hw ⊢
      intro m hm'
      exact hw.2.1 m (Dr (List.mem_map.2 ⟨_, List.getElem_mem (by omega), rfl⟩) hm')
variable {r0 : Reach} {b0 : Nat}
theorem open_agg {t : TypeId} {fs : Array Field} {α : Type} {e : Enc α} {Q : Nat → α → Prop} (hs : P.underlying t = some (.struct fs)) (h : Rds enc P W t e Q) {v : Value} {d : DataW H} {p : List MemPlace} (hv : Value.okWide P W r0 b0 t v)
    (hd : DataW.Trod enc P W 0 (fun _ => true) true t v d p) (hr : ∀ n ∈ d.weights P t, n ≤ reachBytes) : ∃ a, v = .agg ⟨e.enc a⟩ ∧ Q reachBytes a := by
  obtain ⟨cs, rfl, hsz⟩ := okWide_struct hs hv
  obtain ⟨X0, hf⟩ := hd
  obtain ⟨a, ha, hq⟩ := h X0 _ _ hf
  refine ⟨a, ?_, hq _ (by rw [List.all_eq_true]; intro n hn; exact decide_eq_true (hr n hn))⟩
  simp only [Value.cells] at ha
  rw [← ha]
end
end Go.Proofs.YtoflbpmbkmephaaGreatDoor
namespace Go.Proofs.YtoflbpmbkmephaaGreatDoor
theorem reachM : reachBytes ≤ 140737488355328 := by decide
section
variable {H : Type} {enc : TypeId × Value → H} {P : Program} {W : World}
theorem rds_ds {t te : TypeId} {α : Type} {e : Enc α} {Q : Nat → α → Prop} (p : Dp α) (ht : P.underlying t = some (.slice te)) (h : Rds enc P W te e Q) (hc : P.cellsOf te = e.sz) (h0 : 0 < e.sz) (hb : Nat.ble 1 (P.bytesOf te) = true) (hp : ∀ r a, Q r a → p.ok W a) :
    Rds enc P W t (eDS e) (fun r x => (dDS e p).ok W x ∧ x.2.2.length ≤ r ∧ ∀ a ∈ x.2.2, Q r a) := by
  intro X0 cs x hx
  obtain ⟨A, c, l, rfl, hr, hq⟩ := rds_row ht h hc h0 hx
  refine ⟨(A, c, l), rfl, fun r hw => ?_⟩
  obtain ⟨h1, h2⟩ := hq r hw
  exact ⟨⟨hr, fun y hy => hp r y (h2 y hy)⟩, Nat.le_trans (Nat.le_mul_of_pos_right _ (Nat.le_of_ble_eq_true hb)) h1, h2⟩
def NetQ (r : Nat) (n : Int × Int) : Prop := (Lit.int .u32 n.1).wf = true ∧ (Lit.int .i64 n.2).wf = true
def TokQ (r : Nat) (x : List UInt8 × List UInt8 × Int) : Prop := x.1.length ≤ r ∧ x.2.1.length ≤ r ∧ (Lit.int .i64 x.2.2).wf = true
def TenDQ (W : World) (r : Nat) (y : Qs) : Prop := y.1.length ≤ r ∧ (Lit.int .i64 y.2.1).wf = true ∧ (Lit.int .i64 y.2.2.1).wf = true ∧
  ((dDS eNet dT).ok W y.2.2.2.1 ∧ y.2.2.2.1.2.2.length ≤ r ∧ ∀ n ∈ y.2.2.2.1.2.2, NetQ r n) ∧ ((dDS eTok dT).ok W y.2.2.2.2 ∧ y.2.2.2.2.2.2.length ≤ r ∧ ∀ x ∈ y.2.2.2.2.2.2, TokQ r x)
def CfgQ (W : World) (r : Nat) (c : Int × Int × Int × Int × DS Qs) : Prop := (Lit.int .i64 c.1).wf = true ∧ (Lit.int .i64 c.2.1).wf = true ∧ (Lit.int .i64 c.2.2.1).wf = true ∧ (Lit.int .i64 c.2.2.2.1).wf = true ∧
  ((dDS Zh Fa).ok W c.2.2.2.2 ∧ c.2.2.2.2.2.2.length ≤ r ∧ ∀ y ∈ c.2.2.2.2.2.2, TenDQ W r y)
theorem net_rds : Rds enc Tryz.prog W 102 eNet NetQ :=
  Dc (l := [(50, 0), (3, 1)]) (by kernel_rfl) (by kernel_rfl) (Ga (Rm Tryz.underlying50) (by kernel_rfl) (K5 (Rm Tryz.underlying3) (by kernel_rfl)))
theorem tok_rds : Rds enc Tryz.prog W 37 eTok TokQ :=
  Dc (l := [(9, 0), (9, 1), (2, 2)]) (by kernel_rfl) (by kernel_rfl) (Ga (Kj Tryz.underlying9) (by kernel_rfl) (Ga (Kj Tryz.underlying9) (by kernel_rfl) (K5 (Rm Tryz.underlying2) (by kernel_rfl))))
theorem ten_rds : Rds enc Tryz.prog W 33 Zh (TenDQ W) :=
  Dc (l := [(9, 0), (3, 1), (3, 2), (30, 3), (31, 4)]) (by kernel_rfl) (by kernel_rfl)
    (Ga (Kj Tryz.underlying9) (by kernel_rfl) (Ga (Rm Tryz.underlying3) (by kernel_rfl) (Ga (Rm Tryz.underlying3) (by kernel_rfl)
      (Ga (rds_ds dT Tryz.underlying30 net_rds (by kernel_rfl) (by decide) (by kernel_rfl) (fun _ _ _ => trivial)) (by kernel_rfl) (K5 (rds_ds dT Tryz.underlying31 tok_rds (by kernel_rfl) (by decide) (by kernel_rfl) (fun _ _ _ => trivial)) (by kernel_rfl))))))
theorem cfg_rds : Rds enc Tryz.prog W 24 (Qf (Q5 .i64) (Qf (Q5 .i64) (Qf (Q5 .i64) (Qf (Q5 .i64) (eDS Zh))))) (CfgQ W) :=
  Dc (l := [(2, 0), (2, 1), (2, 2), (2, 3), (22, 4)]) (by kernel_rfl) (by kernel_rfl)
    (Ga (Rm Tryz.underlying2) (by kernel_rfl) (Ga (Rm Tryz.underlying2) (by kernel_rfl) (Ga (Rm Tryz.underlying2) (by kernel_rfl) (Ga (Rm Tryz.underlying2) (by kernel_rfl)
      (K5 (rds_ds Fa Tryz.underlying22 ten_rds (by kernel_rfl) (by decide) (by kernel_rfl) (fun _ _ h => ⟨trivial, trivial, trivial, h.2.2.2.1.1, h.2.2.2.2.1⟩)) (by kernel_rfl))))))
theorem open_cfg {r0 : Reach} {b0 : Nat} {v : Value} {d : DataW H} {p : List MemPlace} (hv : Value.okWide Tryz.prog W r0 b0 24 v) (hd : DataW.Trod enc Tryz.prog W 0 (fun _ => true) true 24 v d p) (hr : ∀ n ∈ d.weights Tryz.prog 24, n ≤ reachBytes) :
    ∃ (a b c e : Int) (A : Option Addr) (k : Nat) (l : List Qs), v = .agg #[.int .i64 a, .int .i64 b, .int .i64 c, .int .i64 e, .slice A (List.length (List.map stT l)) k] ∧ CfgQ W reachBytes (a, b, c, e, A, k, l) := by
  obtain ⟨⟨a, b, c, e, A, k, l⟩, rfl, q⟩ := open_agg Tryz.underlying24 cfg_rds hv hd hr
  refine ⟨a, b, c, e, A, k, l, ?_, q⟩
  rw [List.length_map]
  rfl
theorem cfg_q {W : World} {a b c d : Int} {A : Option Addr} {k : Nat} {x : List Qs} (h : CfgQ W reachBytes (a, b, c, d, A, k, x)) : (List.map stT x).length ≤ 140737488355328 ∧ ∀ t ∈ List.map stT x, Ly t := by
  have hM := reachM
  obtain ⟨_, _, _, _, _, h1, h2⟩ := h
  refine ⟨by rw [List.length_map]; exact Nat.le_trans h1 hM, fun t ht => ?_⟩
  obtain ⟨y, hy, rfl⟩ := List.mem_map.1 ht
  obtain ⟨q1, q2, q3, ⟨_, q4, q5⟩, _, q6, q7⟩ := h2 y hy
  refine ⟨Nat.le_trans q1 hM, Nat.le_trans q4 hM, Nat.le_trans q6 hM, fun n hn => ?_, fun z hz => ⟨Nat.le_trans (q7 z hz).1 hM, Nat.le_trans (q7 z hz).2.1 hM⟩⟩
  have := (q5 n hn).1
  simp [Lit.wf, IntKind.min, IntKind.max, IntKind.signed, IntKind.bits] at this
  omega
end
end Go.Proofs.YtoflbpmbkmephaaGreatDoor
namespace Go.Proofs.YtoflbpmbkmephaaGreatDoor
open Go.RowKit
abbrev K6 : List (String × DataW Unit) := [("math/bits.deBruijn32tab", Rows.laid_math_bits_deBruijn32tab), ("math/bits.deBruijn64tab", Rows.laid_math_bits_deBruijn64tab), ("internal/strconv.uint64pow10", Rows.laid_internal_strconv_uint64pow10)
  , ("unicode/utf8.acceptRanges", Rows.laid_unicode_utf8_acceptRanges), ("unicode/utf8.first", Rows.laid_unicode_utf8_first)
  ]
theorem gTab : Tryz.prog.globalNamed Rz = some 1 := by kernel_rfl
theorem gTabType : (Tryz.prog.globals[1]?).map (·.type) = some 209 := by kernel_rfl
theorem cellsTab : Tryz.prog.cellsOf 209 = 20 := by kernel_rfl
theorem cellsU64 : Tryz.prog.cellsOf 196 = 1 := by kernel_rfl
theorem laid_of {W : World} (h : laidMetH Tryz.prog K6 W) : Nd W := by
  have h1 := h.filter (fun x => x.1 == Rz)
  have e : K6.filter (fun x => x.1 == Rz) = [(Rz, Lib.tabData .u64 Lib.pow10Tab)] := by kernel_rfl
  rw [e] at h1
  have ht : Lib.TabIs Tryz.prog W Rz .u64 Lib.pow10Tab := Lib.tabIs_of_head (rest := []) gTab gTabType Tryz.underlying209 Tryz.underlying196 cellsU64 cellsTab h1
  refine ⟨ht, fun g hg => ?_⟩
  obtain rfl := Option.some.inj (gTab.symm.trans hg)
  have := ht.cell gTab 0 (by decide)
  exact block_lt_of_cell this
def cells1 : DataW Unit → List Value
  | .lit (.int k z) => [.int k z]
  | .lit (.bool b) => [.bool b]
  | _ => []
def cells2 : DataW Unit → List Value
  | .agg l => l.flatMap cells1
  | d => cells1 d
def cells3 : DataW Unit → List Value
  | .agg l => l.flatMap cells2
  | d => cells2 d
def Bm (d : DataW Unit) : Obj → Obj
  | .cells _ t frozen => .cells (cells3 d).toArray t frozen
  | o => o
noncomputable def Eo (os : Os) : World :=
  { World.holding Tryz.prog os ⟨#[], #[], []⟩ with heap := ((((World.holding Tryz.prog os ⟨#[], #[], []⟩).heap.modify 4 (Bm Rows.laid_math_bits_deBruijn32tab)).modify 5 (Bm Rows.laid_math_bits_deBruijn64tab)).modify 1 (Bm Rows.laid_internal_strconv_uint64pow10)
    |>.modify 3 (Bm Rows.laid_unicode_utf8_acceptRanges) |>.modify 2 (Bm Rows.laid_unicode_utf8_first)
    ) }
end Go.Proofs.YtoflbpmbkmephaaGreatDoor
namespace Go.Proofs.YtoflbpmbkmephaaGreatDoor
open Go.ChangeShapes Go.WideShapes Go.ChangeAt Go.RowKit
open Go.ChangeMaps (open_string shut_string)
theorem D0 (H : Type) (enc : TypeId × Value → H) (W : World) (base : Nat) (args : Array Value) (ds gs : List (DataW H)) (before : List MemPlace) (vt : List TypeId)
    (hval : ∀ (j : Nat) t v, Tryz.f4.params[j]? = some t → args[j]? = some v → Value.okWide Tryz.prog W .any base t v)
    (hW : DataW.Whole enc Tryz.prog Tryz.f4.params.toList Rows.configBackSpec.vars false W args.toList ds gs before) (hL : laidMetH Tryz.prog Rows.configBackRow.laid W)
    (hZ : (DataW.weightsEach Tryz.prog (Tryz.f4.params.toList ++ vt) (ds ++ gs)).all (· ≤ reachBytes) = true) :
    Calls Tryz.prog 4 args W fun e W' => ∃ v, e = .returned v ∧ Rows.configBackSpec.post enc Tryz.prog Tryz.f4 false true false false W args v W' := by
  have hW' := hW
  obtain ⟨p, q, hA0, hV, rfl, hfz, hnd⟩ := hW
  have hA : DataW.TrodAll enc Tryz.prog W 0 (fun _ => true) true Tryz.f4.params.toList args.toList ds p := hA0
  rw [Tryz.params4] at hA hval hZ
  obtain ⟨v0, vs0, d0, ds0, p0, q0, hargs, rfl, rfl, h0, r0⟩ := trodAll_cons hA
  obtain ⟨v1, vs1, d1, ds1, p1, q1, rfl, rfl, rfl, h1, r1⟩ := trodAll_cons r0
  obtain ⟨rfl, rfl, rfl⟩ := trodAll_nil r1
  obtain rfl : args = #[v0, v1] := by cases args; simp_all
  obtain ⟨rfl, rfl⟩ := trodVars_none hV
  have wz : ∀ (j : Nat) t d, _ → _ → ∀ n ∈ DataW.weights Tryz.prog t d, n ≤ reachBytes := fun j t d ht hd n hn => of_decide_eq_true (List.all_eq_true.1 hZ n (DataW.weights_mem_each (j := j) ht hd n hn))
  have k0 := h0
  have lt0 : ∀ x ∈ p0, x.block < W.heap.size := by obtain ⟨m, hm⟩ := k0; exact DataW.trod_lt m _ _ _ hm
  have k1 := h1
  have lt1 : ∀ x ∈ p1, x.block < W.heap.size := by obtain ⟨m, hm⟩ := k1; exact DataW.trod_lt m _ _ _ hm
  obtain ⟨a0_0, a0_1, a0_2, a0_3, A0_, c0_, l0_, rfl, q0_⟩ := open_cfg (hval 0 24 v0 rfl rfl) h0 (wz 0 24 d0 rfl rfl)
  obtain ⟨s1_, rfl, ed1_, _, hs1_⟩ := open_string Tryz.underlying9 (hval 1 9 v1 rfl rfl) h1
  have hn1_ : s1_.data.toList.length ≤ reachBytes := (wz 1 9 d1 rfl rfl) _ (by rw [ed1_]; simp [DataW.weights])
  clear hA0
  refine (No A0_ c0_ a0_0 a0_1 a0_2 a0_3 l0_ s1_.data.toList W (laid_of hL) q0_.2.2.2.2.1 true (Ck _ _ _ _ _ _ (cfg_q q0_).1 (cfg_q q0_).2)).mono fun e W' ⟨he, bel0⟩ => ?_
  have bel := SP.keeps bel0
  subst he
  exact ⟨_, rfl, _, _, _, [], _, [], hW', trodAll_mk1 (shut_bool Tryz.underlying4 _), (trodAll_cons_mk (Below.trod laidOut (by kernel_rfl) (of_decide_eq_true (by kernel_rfl)) k0 bel lt0) (trodAll_cons_mk (Below.trod laidOut (by kernel_rfl) (of_decide_eq_true (by kernel_rfl)) k1 bel lt1) trodAll_mk0)), rfl, bel.frame _, fun h => by cases h⟩
theorem D1 (os : Os) : laidMet Tryz.prog Rows.configBackRow.laid ((Eo os).forCall (fun _ _ => 0) ⟨#[], #[.agg #[.int .i64 0, .int .i64 0, .int .i64 0, .int .i64 0, .slice none 0 0], .string ⟨#[]⟩], []⟩).memory :=
  laidMet_of_run' 8 (by kernel_rfl) (by kernel_rfl)
theorem Cl (os : Os) {H : Type} (enc : TypeId × Value → H) : ∃ places, DataW.whole enc Tryz.prog ((Eo os).forCall (fun _ _ => 0) ⟨#[], #[.agg #[.int .i64 0, .int .i64 0, .int .i64 0, .int .i64 0, .slice none 0 0], .string ⟨#[]⟩], []⟩).memory Tryz.f4.params.toList Rows.configBackSpec.vars false [.agg #[.int .i64 0, .int .i64 0, .int .i64 0, .int .i64 0, .slice none 0 0], .string ⟨#[]⟩] 8 = some ([.agg [.lit (.int .i64 0), .lit (.int .i64 0), .lit (.int .i64 0), .lit (.int .i64 0), .nil], .lit (.string [])], [], places) :=
  ⟨[], by kernel_rfl⟩
theorem B2 (os : Os) (started : os.Started) (H : Type) (enc : TypeId × Value → H) (F : Stop.Interp) :
    ReturnsInHanded {} Tryz.checked os 4 .any ((OpenSpec.ofChange Rows.configBackSpec).preRow enc Tryz.prog Tryz.f4 Rows.configBackRow.domain false Rows.configBackRow.laid) (((OpenSpec.ofChange Rows.configBackSpec).at F).post enc Tryz.prog Tryz.f4 false true false false) := by
  obtain ⟨places, hx⟩ := Cl os enc
  refine returnsInHanded_of_row (C := Tryz.checked) (s := OpenSpec.ofChange Rows.configBackSpec) own started (by kernel_rfl) Tryz.func4
    (witness_row_at (enc := enc) (C := Tryz.checked) false (Eo os) #[.agg #[.int .i64 0, .int .i64 0, .int .i64 0, .int .i64 0, .slice none 0 0], .string ⟨#[]⟩] rfl (by kernel_rfl) (by kernel_rfl) (by kernel_rfl)
      (OpenSpec.preRow_of_cond 8 hx (by kernel_rfl) (fun k hk => by cases hk) (by kernel_rfl) (D1 os))) ?_
  intro W base args ds gs before hval hW _ _ hZ hL _ _
  exact D0 H enc W base args ds gs before _ hval hW hL hZ
theorem Ep : Rows.ConfigBackSaid :=
  OpenClaim.holds_of_cond 4 Tryz.f4 rfl rfl rfl rfl rfl rfl rfl ⟨rfl, rfl, rfl, rfl, rfl⟩ rfl rfl rfl rfl rfl (by kernel_rfl) Tryz.func4 (by kernel_rfl)
    (of_decide_eq_true (by kernel_rfl)) (by unfold Func.isWrapper; first | (rw [if_pos (by decide +kernel)]; kernel_rfl) | (rw [if_neg (by decide +kernel)]; exact ⟨rfl, rfl⟩))
    (fun os started H enc _ F => by rw [OpenClaim.pre_eq_preRow]; exact B2 os started H enc F)
theorem Dm (f : FuncId) (fn : Func) (hf : Tryz.pinned.checked.prog.funcNamed Rows.configBackRow.func = some f) (hfn : Tryz.pinned.checked.prog.funcs[f]? = some fn) :
    false = Tryz.pinned.checked.prog.looks [] ∧ ∀ (j : Nat) t, fn.params[j]? = some t → Tryz.pinned.checked.prog.wantsStandIn t = false := by
  obtain rfl : f = 4 := Option.some.inj ((show Tryz.prog.funcNamed Rows.configBackRow.func = some 4 by kernel_rfl).symm.trans hf) |>.symm
  obtain rfl : fn = Tryz.f4 := (Option.some.inj (Tryz.func4.symm.trans hfn)).symm
  refine ⟨by kernel_rfl, fun j t ht => ?_⟩
  have ha : (Tryz.f4.params.toList.all fun t => !Tryz.prog.wantsStandIn t) = true := by kernel_rfl
  rw [List.all_eq_true] at ha
  have := ha t (by rw [← Array.getElem?_toList] at ht; exact List.mem_of_getElem? ht)
  have h2 : Tryz.prog.wantsStandIn t = false := by simpa using this
  exact h2
theorem configBack_card : Rows.ConfigBackCardSaid :=
  Claim7.holds_tied_plain_at .later [] _ _ _ _ Ep (fun _ h => by cases h) (by kernel_rfl) (fun _ h => by cases h) configBack_row_tie rfl ⟨rfl, rfl⟩ (by kernel_rfl) rfl Dm (by kernel_rfl)
#print axioms configBack_card
end Go.Proofs.YtoflbpmbkmephaaGreatDoor
