/- WHAT A LIFTED WALK KNOWS OF MEMORY: its own blocks, apart from each other; rows that are read; over any program. -/
import Derived.Test.YtfffjaijflbeaaaDoorCore
import Derived.Test.YtfffjaijflbeaaaDoorRows2
import Derived.Laws.CopyRow
namespace Go.Proofs.YtfffjaijflbeaaaDoor
set_option linter.unusedSimpArgs false
set_option linter.unusedVariables false
open Go.RowKit

/-- something in memory: the blocks that it is of, and what holds of them -/
structure Ent where
  fp : List Nat
  ok : World → Prop
  loc : ∀ w w' : World, (∀ k ∈ fp, w'.heap[k]? = w.heap[k]?) → ok w → ok w'
def HL (S : List Nat) (B : Nat) (w : World) : List Ent → Prop
  | [] => True
  | e :: es => e.ok w ∧ (∀ k ∈ e.fp, (B ≤ k ∨ k ∈ S) ∧ k < w.heap.size ∧ ∀ e' ∈ es, k ∉ e'.fp) ∧ HL S B w es
section
variable {S : List Nat} {B : Nat} {w w' : World}
theorem HL.get : ∀ {es : List Ent} {i : Nat} {e : Ent}, HL S B w es → es[i]? = some e → e.ok w ∧ ∀ k ∈ e.fp, (B ≤ k ∨ k ∈ S) ∧ k < w.heap.size
  | [], i, e, _, h => by simp at h
  | x :: es, 0, e, h, hi => by
    simp at hi; subst hi
    exact ⟨h.1, fun k hk => ⟨(h.2.1 k hk).1, (h.2.1 k hk).2.1⟩⟩
  | x :: es, i + 1, e, h, hi => HL.get (es := es) h.2.2 (by simpa using hi)
theorem HL.mem : ∀ {es : List Ent} {e : Ent}, HL S B w es → e ∈ es → e.ok w ∧ ∀ k ∈ e.fp, (B ≤ k ∨ k ∈ S) ∧ k < w.heap.size := by
  intro es e h he
  obtain ⟨i, hi⟩ := List.mem_iff_getElem?.1 he
  exact h.get hi
theorem HL.keep : ∀ {es : List Ent}, HL S B w es → w.heap.size ≤ w'.heap.size → (∀ e ∈ es, ∀ k ∈ e.fp, w'.heap[k]? = w.heap[k]?) → HL S B w' es
  | [], _, _, _ => trivial
  | e :: es, h, hs, hk => ⟨e.loc w w' (hk e (by simp)) h.1, fun k hm => ⟨(h.2.1 k hm).1, Nat.lt_of_lt_of_le (h.2.1 k hm).2.1 hs, (h.2.1 k hm).2.2⟩, HL.keep h.2.2 hs fun e' he' => hk e' (List.mem_cons_of_mem _ he')⟩
theorem HL.below {es : List Ent} (h : HL S B w es) (hb : Below w.heap.size w w') : HL S B w' es :=
  h.keep hb.size fun e he k hk => hb.block k (h.mem he |>.2 k hk).2
theorem HL.append : ∀ {es fs : List Ent}, HL S B w es → HL S B w fs → (∀ e ∈ es, ∀ k ∈ e.fp, ∀ f ∈ fs, k ∉ f.fp) → HL S B w (es ++ fs)
  | [], fs, _, h, _ => h
  | e :: es, fs, h, hf, hd => ⟨h.1, fun k hk => ⟨(h.2.1 k hk).1, (h.2.1 k hk).2.1, fun e' he' => by
      rcases List.mem_append.1 he' with h1 | h1
      · exact (h.2.1 k hk).2.2 e' h1
      · exact hd e (by simp) k hk e' h1⟩, HL.append h.2.2 hf fun e' he' => hd e' (List.mem_cons_of_mem _ he')⟩
theorem HL.widen : ∀ {es : List Ent} {S' : List Nat} {B' : Nat}, HL S B w es → (∀ e ∈ es, ∀ k ∈ e.fp, (B ≤ k ∨ k ∈ S) → B' ≤ k ∨ k ∈ S') → HL S' B' w es
  | [], _, _, _, _ => trivial
  | e :: es, S', B', h, hw => ⟨h.1, fun k hk => ⟨hw e (by simp) k hk (h.2.1 k hk).1, (h.2.1 k hk).2⟩, HL.widen h.2.2 fun e' he' => hw e' (List.mem_cons_of_mem _ he')⟩
theorem HL.erase : ∀ {es : List Ent} (i : Nat), HL S B w es → HL S B w (es.eraseIdx i)
  | [], _, _ => trivial
  | _ :: _, 0, h => h.2.2
  | e :: es, i + 1, h => ⟨h.1, fun k hk => ⟨(h.2.1 k hk).1, (h.2.1 k hk).2.1, fun e' he' => (h.2.1 k hk).2.2 e' (List.mem_of_mem_eraseIdx he')⟩, HL.erase i h.2.2⟩
/-- what is at another place is apart -/
theorem HL.other : ∀ {es : List Ent} {i : Nat} {e : Ent}, HL S B w es → es[i]? = some e → ∀ e' ∈ es.eraseIdx i, ∀ k ∈ e.fp, k ∉ e'.fp
  | [], i, e, _, h => by simp at h
  | x :: es, 0, e, h, hi => by
    simp at hi; subst hi
    intro e' he' k hk
    exact (h.2.1 k hk).2.2 e' (by simpa using he')
  | x :: es, i + 1, e, h, hi => by
    intro e' he' k hk
    have hi' : es[i]? = some e := by simpa using hi
    simp only [List.eraseIdx_cons_succ, List.mem_cons] at he'
    rcases he' with rfl | he'
    · exact fun hk' => (h.2.1 k hk').2.2 e (List.mem_of_getElem? hi') hk
    · exact HL.other h.2.2 hi' e' he' k hk
/-- one thing has turned, the others have not -/
theorem HL.set : ∀ {es : List Ent} {i : Nat} {e e' : Ent}, HL S B w es → es[i]? = some e → w.heap.size ≤ w'.heap.size → (∀ f ∈ es.eraseIdx i, ∀ k ∈ f.fp, w'.heap[k]? = w.heap[k]?) → e'.ok w' →
    (∀ k ∈ e'.fp, (k ∈ e.fp ∨ (w.heap.size ≤ k ∧ B ≤ k)) ∧ k < w'.heap.size) → HL S B w' (es.set i e')
  | [], i, e, e', _, h, _, _, _, _ => by simp at h
  | x :: es, 0, e, e', h, hi, hs, hk, hok, hfp => by
    simp at hi; subst hi
    refine ⟨hok, fun k hm => ?_, h.2.2.keep hs (by simpa using hk)⟩
    obtain ⟨h1, h2⟩ := hfp k hm
    rcases h1 with h1 | ⟨h1, h1'⟩
    · exact ⟨(h.2.1 k h1).1, h2, (h.2.1 k h1).2.2⟩
    · exact ⟨.inl h1', h2, fun f hf hkf => by have := (h.2.2.mem hf).2 k hkf; omega⟩
  | x :: es, i + 1, e, e', h, hi, hs, hk, hok, hfp => by
    have hi' : es[i]? = some e := by simpa using hi
    simp only [List.eraseIdx_cons_succ, List.mem_cons, forall_eq_or_imp] at hk
    refine ⟨x.loc w w' hk.1 h.1, fun k hm => ⟨(h.2.1 k hm).1, Nat.lt_of_lt_of_le (h.2.1 k hm).2.1 hs, fun f hf hkf => ?_⟩, HL.set h.2.2 hi' hs hk.2 hok hfp⟩
    rcases List.mem_or_eq_of_mem_set hf with hf | rfl
    · exact (h.2.1 k hm).2.2 f hf hkf
    · rcases (hfp k hkf).1 with h1 | ⟨h1, _⟩
      · exact (h.2.1 k hm).2.2 e (List.mem_of_getElem? hi') h1
      · have := (h.2.1 k hm).2.1; omega
end

/-- from w0 to w only S's blocks have turned; the things es are there, apart from each other, of new blocks or of S -/
structure SP (S : List Nat) (w0 w : World) (es : List Ent) : Prop where
  mod : Mod S w0 w
  own : HL S w0.heap.size w es
section
variable {S T : List Nat} {w0 w w' : World} {es : List Ent}
theorem SP.start (S : List Nat) (w : World) : SP S w w [] := ⟨Mod.refl S w, trivial⟩
theorem SP.get {i : Nat} {e : Ent} (h : SP S w0 w es) (hi : es[i]? = some e) : e.ok w := (h.own.get hi).1
theorem SP.below (h : SP S w0 w es) (hb : Below w.heap.size w w') : SP S w0 w' es := ⟨h.mod.trans (Mod.of_below hb S), h.own.below hb⟩
theorem SP.drew (h : SP S w0 w es) : SP S w0 w.drew es := h.below ((Below.refl _ _).drew)
theorem SP.push {e : Ent} (h : SP S w0 w es) (hb : Below w.heap.size w w') (hok : e.ok w') (hfp : ∀ k ∈ e.fp, w.heap.size ≤ k ∧ k < w'.heap.size) : SP S w0 w' (es ++ [e]) := by
  have hs := h.mod.size
  refine ⟨h.mod.trans (Mod.of_below hb S), (h.own.below hb).append ⟨hok, fun k hk => ⟨.inl (by have := (hfp k hk).1; omega), (hfp k hk).2, by simp⟩, trivial⟩ ?_⟩
  intro f hf k hk f' hf' hk'
  simp at hf'
  subst hf'
  have h1 := (h.own.mem hf).2 k hk
  have h2 := hfp k hk'
  omega
theorem SP.erase (i : Nat) (h : SP S w0 w es) {es' : List Ent} (he : es' = es.eraseIdx i) : SP S w0 w es' := by subst he; exact ⟨h.mod, h.own.erase i⟩
theorem SP.set {i : Nat} {e e' : Ent} (h : SP S w0 w es) (hi : es[i]? = some e) {T : List Nat} (hm : Mod T w w') (hT : ∀ k ∈ T, k ∈ e.fp) (hok : e'.ok w')
    (hfp : ∀ k ∈ e'.fp, (k ∈ e.fp ∨ w.heap.size ≤ k) ∧ k < w'.heap.size) : SP S w0 w' (es.set i e') := by
  have hs := h.mod.size
  have he := h.own.get hi
  refine ⟨⟨hm.os.trans h.mod.os, hm.tape.trans h.mod.tape, hm.output.trans h.mod.output, Nat.le_trans h.mod.size hm.size, fun k hk hn => ?_⟩, h.own.set hi hm.size ?_ hok ?_⟩
  · refine (hm.block k (Nat.lt_of_lt_of_le hk hs) fun hkT => ?_).trans (h.mod.block k hk hn)
    rcases (he.2 k (hT k hkT)).1 with h1 | h1
    · omega
    · exact hn h1
  · intro f hf k hk
    refine hm.block k (h.own.mem (List.mem_of_mem_eraseIdx hf) |>.2 k hk).2 fun hkT => ?_
    exact h.own.other hi f hf k (hT k hkT) hk
  · intro k hk
    obtain ⟨h1, h2⟩ := hfp k hk
    exact ⟨h1.imp id fun h => ⟨h, by omega⟩, h2⟩
/-- a callee that turns nothing that was there -/
theorem SP.call {es' : List Ent} (h : SP S w0 w es) (hc : SP [] w w' es') : SP S w0 w' (es ++ es') := by
  have hs := h.mod.size
  have hb : Below w.heap.size w w' := hc.mod.below (Nat.le_refl _) (by simp)
  refine ⟨h.mod.trans (Mod.of_below hb S), (h.own.below hb).append (hc.own.widen fun e he k hk hor => ?_) ?_⟩
  · rcases hor with h1 | h1
    · exact .inl (by omega)
    · simp at h1
  · intro f hf k hk f' hf' hk'
    have h1 := (h.own.mem hf).2 k hk
    rcases ((hc.own.mem hf').2 k hk').1 with h2 | h2
    · omega
    · simp at h2
/-- a callee that turns one thing -/
theorem SP.call1 {es' : List Ent} {i : Nat} {e : Ent} (h : SP S w0 w es) (hi : es[i]? = some e) (hc : SP T w w' es') (hT : ∀ k ∈ T, k ∈ e.fp) : SP S w0 w' (es.eraseIdx i ++ es') := by
  have hs := h.mod.size
  have he := h.own.get hi
  have hm := hc.mod
  have hS : ∀ k ∈ T, w0.heap.size ≤ k ∨ k ∈ S := fun k hk => (he.2 k (hT k hk)).1
  refine ⟨⟨hm.os.trans h.mod.os, hm.tape.trans h.mod.tape, hm.output.trans h.mod.output, Nat.le_trans h.mod.size hm.size, fun k hk hn => ?_⟩, ((h.own.erase i).keep hm.size ?_).append (hc.own.widen ?_) ?_⟩
  · refine (hm.block k (Nat.lt_of_lt_of_le hk hs) fun hkT => ?_).trans (h.mod.block k hk hn)
    rcases hS k hkT with h1 | h1
    · omega
    · exact hn h1
  · intro f hf k hk
    exact hm.block k (h.own.mem (List.mem_of_mem_eraseIdx hf) |>.2 k hk).2 fun hkT => h.own.other hi f hf k (hT k hkT) hk
  · intro f hf k hk hor
    rcases hor with h1 | h1
    · exact .inl (by omega)
    · exact hS k h1
  · intro f hf k hk f' hf' hk'
    have h1 := (h.own.mem (List.mem_of_mem_eraseIdx hf)).2 k hk
    rcases ((hc.own.mem hf').2 k hk').1 with h2 | h2
    · omega
    · exact h.own.other hi f hf k (hT k h2) hk
theorem SP.keeps (h : SP [] w0 w es) : Below w0.heap.size w0 w := h.mod.below (Nat.le_refl _) (by simp)
end

/-- a block that is just these cells -/
def boxE (g : Nat) (t : TypeId) (cs : Array Value) : Ent :=
  ⟨[g], fun w => w.heap[g]? = some (.cells cs t (0, 0)), fun w w' h hk => by rw [h g (by simp)]; exact hk⟩
/-- a row that the call owns -/
def row (E : TypeId) (sz : Nat) (v : Value) (n : Nat) (xs : List Value) : Ent :=
  ⟨v.ownBlock.toList, fun w => w.ownsRow 0 E sz v n xs, fun w w' h hk => by
    refine ⟨hk.1, ?_⟩
    rcases hk.2 with h1 | ⟨g, cap, cur, rfl, hb, hg, r⟩
    · exact .inl h1
    · exact .inr ⟨g, cap, cur, rfl, hb, by rw [h g (by simp [Value.ownBlock])]; exact hg, r⟩⟩
/-- a row that is read -/
def RdX (w : World) (A : Option Addr) (n c sz : Nat) (xs : List Value) : Prop :=
  xs.length = n * sz ∧ n ≤ c ∧ c ≤ maxLen ∧ (0 < n → ∃ b off, A = some ⟨b, off, none⟩ ∧ b < w.heap.size ∧ ∀ j u, xs[j]? = some u → w.cell? ⟨b, off + j, none⟩ = some u)
section
variable {S T : List Nat} {w0 w w' : World} {es : List Ent} {A : Option Addr} {n c sz : Nat} {xs : List Value}
theorem RdX.mod (h : RdX w A n c sz xs) (hm : Mod S w w') (hS : ∀ b o, A = some ⟨b, o, none⟩ → b ∉ S) : RdX w' A n c sz xs := by
  obtain ⟨h1, h2, h3, h4⟩ := h
  refine ⟨h1, h2, h3, fun hn => ?_⟩
  obtain ⟨b, off, hA, hb, hc⟩ := h4 hn
  exact ⟨b, off, hA, Nat.lt_of_lt_of_le hb hm.size, fun j u hu => (hm.cell hb (hS _ _ hA)).trans (hc j u hu)⟩
theorem RdX.below (h : RdX w A n c sz xs) (hb : Below w.heap.size w w') : RdX w' A n c sz xs := h.mod (Mod.of_below hb []) (by simp)
theorem RdX.sp (h : RdX w0 A n c sz xs) (hs : SP [] w0 w es) : RdX w A n c sz xs := h.below hs.keeps
theorem RdX.nil (w : World) (sz : Nat) : RdX w none 0 0 sz [] := ⟨by simp, Nat.le_refl _, Nat.zero_le _, fun h => absurd h (by omega)⟩
theorem RdX.len (h : RdX w A n c sz xs) : xs.length = n * sz := h.1
theorem RdX.le (h : RdX w A n c sz xs) : n ≤ c := h.2.1
theorem RdX.cap (h : RdX w A n c sz xs) : c ≤ maxLen := h.2.2.1
theorem RdX.max (h : RdX w A n c sz xs) : n ≤ maxLen := Nat.le_trans h.2.1 h.2.2.1
/-- an own row is read -/
theorem row_rdx {E : TypeId} {A : Option Addr} {n c : Nat} (h : (row E sz (.slice A n c) n xs).ok w) : RdX w A n c sz xs := by
  rcases h.2 with ⟨hv, hn⟩ | ⟨g, cap, cur, hv, hb, hh, hnc, hcm, hcs, ht⟩
  · injection hv with hA hn' hc
    subst hA hn' hc
    exact ⟨h.1, Nat.le_refl _, Nat.zero_le _, fun h => absurd h (by omega)⟩
  · injection hv with hA hn' hc
    subst hA hc
    refine ⟨h.1, hnc, hcm, fun _ => ⟨g, 0, rfl, (Array.getElem?_eq_some_iff.1 hh).1, fun j u hu => ?_⟩⟩
    rw [Nat.zero_add]
    obtain ⟨hj, _⟩ := List.getElem?_eq_some_iff.1 hu
    rw [World.ownsRow.cellAt (g := g) (cap := c) h j (by rw [← h.1]; exact hj)]
    exact hu
/-- a row's part -/
theorem RdX.part (h : RdX w A n c sz xs) {i j : Nat} (hij : i ≤ j) (hjn : j ≤ n) :
    RdX w (if c = i then A else A.map (·.add (i * sz))) (j - i) (c - i) sz ((xs.take (j * sz)).drop (i * sz)) := by
  obtain ⟨h1, h2, h3, h4⟩ := h
  have hjs : j * sz ≤ n * sz := Nat.mul_le_mul_right _ hjn
  have his : i * sz ≤ j * sz := Nat.mul_le_mul_right _ hij
  refine ⟨by rw [List.length_drop, List.length_take, h1, Nat.sub_mul]; omega, by omega, by omega, fun hn => ?_⟩
  obtain ⟨b, off, rfl, hb, hc⟩ := h4 (by omega)
  rw [if_neg (by omega)]
  refine ⟨b, off + i * sz, ?_, hb, fun k u hu => ?_⟩
  · have hadd : (⟨b, off, none⟩ : Addr).add (i * sz) = ⟨b, off + i * sz, none⟩ := by unfold Addr.add; split <;> simp_all
    simp [hadd]
  · rw [List.getElem?_drop] at hu
    have hlt : i * sz + k < j * sz := by
      have := (List.getElem?_eq_some_iff.1 hu).1
      rw [List.length_take] at this
      omega
    rw [List.getElem?_take, if_pos hlt] at hu
    rw [Nat.add_assoc]
    exact hc _ _ hu
theorem add_lit (b off k : Nat) : (⟨b, off, none⟩ : Addr).add k = ⟨b, off + k, none⟩ := by unfold Addr.add; split <;> simp_all

/-! loads and stores of boxes -/
def aggD : TypeDesc → Bool
  | .struct _ | .array _ _ => true
  | _ => false
def loadF (P : Program) (t : TypeId) (off : Nat) (cs : Array Value) : Option Value :=
  match P.underlying t with
  | none => none
  | some d => match aggD d with
    | true => match P.info? t with
      | some i => match Nat.ble (off + i.size) cs.size with
        | true => some (.agg ((cs.toList.drop off).take i.size).toArray)
        | false => none
      | none => none
    | false => cs.toList[off]?
theorem loadVar_of {P : Program} {t : TypeId} {g off : Nat} {cs : Array Value} {v : Value} {e : TypeId} {fr : Nat × Nat} (hl : loadF P t off cs = some v) (hg : w.heap[g]? = some (.cells cs e fr)) :
    (loadVar t ⟨g, off, none⟩).run P w = .ok v w := by
  have hcell : ∀ o, w.cell? ⟨g, o, none⟩ = cs[o]? := fun o => cell_of_row w g o cs e fr hg
  unfold loadF at hl
  cases hu : P.underlying t with
  | none => rw [hu] at hl; cases hl
  | some d =>
    rw [hu] at hl
    simp only at hl
    have hagg : (isAgg t).run P w = .ok (aggD d) w := by
      simp only [isAgg, Sem.run_bind, run_underlying hu, Result.andThen_ok]
      cases d <;> rfl
    cases hd : aggD d with
    | true =>
      rw [hd] at hl hagg
      simp only at hl
      cases hi : P.info? t with
      | none => rw [hi] at hl; cases hl
      | some i =>
        rw [hi] at hl
        simp only at hl
        cases hb : Nat.ble (off + i.size) cs.size with
        | false => rw [hb] at hl; cases hl
        | true =>
          rw [hb] at hl
          simp only [Option.some.injEq] at hl
          have hle := Nat.le_of_ble_eq_true hb
          have hsz : (sizeOf t).run P w = .ok i.size w := by simp [sizeOf, typeInfo, hi]
          have hlen : ((cs.toList.drop off).take i.size).length = i.size := by simp; omega
          have hload := run_loadCells_list (P := P) w ⟨g, off, none⟩ ((cs.toList.drop off).take i.size) (fun j u hu => by
            rw [add_lit, hcell]
            rw [List.getElem?_take] at hu
            split at hu
            · rw [List.getElem?_drop] at hu
              simpa using hu
            · cases hu)
          rw [hlen] at hload
          simp only [loadVar, Sem.run_bind, hagg, Result.andThen_ok, if_true, hsz, hload]
          rw [← hl]
          rfl
    | false =>
      rw [hd] at hl hagg
      simp only at hl
      simp only [loadVar, Sem.run_bind, hagg, Result.andThen_ok, Bool.false_eq_true, if_false]
      have : w.cell? ⟨g, off, none⟩ = some v := by rw [hcell]; simpa using hl
      simp [load, Sem.run, this]
def allOne : List Value → Bool
  | [] => true
  | .agg _ :: _ => false
  | .tuple _ :: _ => false
  | _ :: l => allOne l
theorem allOne_spec : ∀ {l : List Value}, allOne l = true → ∀ v ∈ l, v.oneCell' = true
  | [], _, v, hv => by simp at hv
  | x :: l, h, v, hv => by
    rcases List.mem_cons.1 hv with rfl | hv
    · cases v <;> first | rfl | (simp [allOne] at h)
    · exact allOne_spec (l := l) (by cases x <;> first | (exact h) | (simp [allOne] at h)) v hv
def storeF (P : Program) (t : TypeId) (off : Nat) (cs : Array Value) (v : Value) : Option (Array Value) :=
  match P.info? t with
  | none => none
  | some i => match Nat.beq v.cells.size i.size, Nat.ble (off + v.cells.size) cs.size, allOne v.cells.toList with
    | true, true, true => some (cs.toList.take off ++ v.cells.toList ++ cs.toList.drop (off + v.cells.toList.length)).toArray
    | _, _, _ => none
theorem storeVar_of {P : Program} {t : TypeId} {g off : Nat} {cs cs' : Array Value} {v : Value} {e : TypeId} (hl : storeF P t off cs v = some cs') (hg : w.heap[g]? = some (.cells cs e (0, 0))) :
    (storeVar t ⟨g, off, none⟩ v).run P w = .ok () (w.setRow g cs') := by
  unfold storeF at hl
  cases hi : P.info? t with
  | none => rw [hi] at hl; cases hl
  | some i =>
    rw [hi] at hl
    simp only at hl
    split at hl
    · rename_i h1 h2 h3
      simp only [Option.some.injEq] at hl
      have h1 := Nat.eq_of_beq_eq_true h1
      have h2 := Nat.le_of_ble_eq_true h2
      have hsz : (sizeOf t).run P w = .ok i.size w := by simp [sizeOf, typeInfo, hi]
      have hst := run_storeCells_at P g off e v.cells.toList 0 cs w hg (by simp; omega) (allOne_spec h3)
      simp only [Nat.add_zero] at hst
      simp only [storeVar, Sem.run_bind, hsz, Result.andThen_ok, h1, ne_eq, not_true_eq_false, if_false]
      rw [hst, hl]
    · cases hl
theorem Mod.setRow (w : World) (g : Nat) (cs : Array Value) : Mod [g] w (w.setRow g cs) :=
  ⟨rfl, rfl, rfl, by simp [World.setRow], fun k _ hk => setRow_other w g k cs (by simpa using hk)⟩
theorem SP.store {i g : Nat} {t : TypeId} {cs cs' : Array Value} (h : SP S w0 w es) (hi : es[i]? = some (boxE g t cs)) : SP S w0 (w.setRow g cs') (es.set i (boxE g t cs')) := by
  have hg : w.heap[g]? = some (.cells cs t (0, 0)) := h.get hi
  have hlt : g < w.heap.size := (Array.getElem?_eq_some_iff.1 hg).1
  refine h.set hi (Mod.setRow w g cs') (fun k hk => hk) (setRow_heap w g cs cs' t (0, 0) hg) fun k hk => ⟨.inl hk, ?_⟩
  have : k = g := by simpa [boxE] using hk
  subst this
  simpa [World.setRow] using hlt
theorem SP.alloc {t : TypeId} {cs : Array Value} (h : SP S w0 w es) : SP S w0 (w.alloc (.cells cs t)) (es ++ [boxE w.heap.size t cs]) :=
  h.push ((Below.refl _ _).alloc (Nat.le_refl _) _) (heap_alloc_new w _) fun k hk => by
    have : k = w.heap.size := by simpa [boxE] using hk
    subst this
    simp
end
end Go.Proofs.YtfffjaijflbeaaaDoor
