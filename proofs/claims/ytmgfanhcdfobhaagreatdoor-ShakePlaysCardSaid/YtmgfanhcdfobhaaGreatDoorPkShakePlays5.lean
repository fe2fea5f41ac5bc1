import Derived.Test.YtmgfanhcdfobhaaGreatDoorPkShakePlays4
set_option linter.unusedSimpArgs false
set_option linter.unusedVariables false
set_option linter.unusedSectionVars false
set_option maxRecDepth 100000
set_option maxHeartbeats 4000000
namespace Go.Proofs.YtmgfanhcdfobhaaGreatDoor
open Go.RowKit Go.WideMaps Go.WideShapes
abbrev Uw := List ((List UInt8 × List UInt8) × Int)
def Iq (k : List UInt8 × List UInt8) : Value := .agg #[.string ⟨k.1.toArray⟩, .string ⟨k.2.toArray⟩]
theorem On {a b : List UInt8 × List UInt8} (h : Iq a = Iq b) : a = b := by
  unfold Iq at h
  injection h with h
  have := congrArg Array.toList h
  simp at this
  exact Prod.ext this.1 this.2
def Ro (L : Uw) (k : List UInt8 × List UInt8) : Int := match L.findIdx? (fun e => e.1 == k) with | some j => (L.getD j (k, 0)).2 | none => 0
def Oo (L : Uw) (k : List UInt8 × List UInt8) (v : Int) : Uw := match L.findIdx? (fun e => e.1 == k) with | some j => L.set j (k, v) | none => L ++ [(k, v)]
def Fd (L : Uw) (k : List UInt8 × List UInt8) : Uw := match L.findIdx? (fun e => e.1 == k) with | some j => L | none => L ++ [(k, 0)]
def mEnc (L : Uw) : List (Value × Value) := L.map fun p => (Iq p.1, .int .i64 p.2)
structure MOk (m : Nat) (L : Uw) (es : Array MapEntry) (clock : Nat) (w : World) : Prop where
  heap : w.heap[m]? = some (.map es clock)
  ents : es.toList.map (fun e => (e.key, e.val)) = mEnc L
  len : ∀ p ∈ L, p.1.1.length ≤ maxLen ∧ p.1.2.length ≤ maxLen
  nd : L.Pairwise fun a b => a.1 ≠ b.1
  born : es.toList.Pairwise fun a b => a.born ≠ b.born
  clk : ∀ e ∈ es.toList, e.born < clock
def V5 (m : Nat) (L : Uw) : Ent := ⟨[m], fun w => ∃ es clock, MOk m L es clock w, fun w w' hk ⟨es, clock, h⟩ => ⟨es, clock, (hk m (by simp)).trans h.heap, h.ents, h.len, h.nd, h.born, h.clk⟩⟩
def Mw (m : Nat) (L : Uw) (k : List UInt8 × List UInt8) (b : Nat) : Ent := ⟨[m], fun w => ∃ es clock, MOk m (Fd L k) es clock w ∧ ∃ (j : Nat) (e : MapEntry), es.toList[j]? = some e ∧ e.key = Iq k ∧ e.born = b,
  fun w w' hk ⟨es, clock, h, h2⟩ => ⟨es, clock, ⟨(hk m (by simp)).trans h.heap, h.ents, h.len, h.nd, h.born, h.clk⟩, h2⟩⟩
theorem Oq {L : Uw} {k : List UInt8 × List UInt8} {j : Nat} {p : (List UInt8 × List UInt8) × Int} (hn : L.Pairwise fun a b => a.1 ≠ b.1) (hj : L[j]? = some p) (hp : p.1 = k) : L.findIdx? (fun e => e.1 == k) = some j := by
  obtain ⟨hlt, he⟩ := List.getElem?_eq_some_iff.1 hj
  rw [List.findIdx?_eq_some_iff_getElem]
  refine ⟨hlt, by rw [he, hp]; simp, fun i hi => ?_⟩
  have := List.pairwise_iff_getElem.1 hn i j (by omega) hlt hi
  rw [he, hp] at this
  simpa using this
theorem Ph {L : Uw} {k : List UInt8 × List UInt8} (h : ∀ p ∈ L, p.1 ≠ k) : L.findIdx? (fun e => e.1 == k) = none := by
  rw [List.findIdx?_eq_none_iff]
  intro p hp
  simpa using h p hp
theorem m2put_get (L : Uw) (k : List UInt8 × List UInt8) : Ro (Fd L k) k = Ro L k := by
  unfold Fd
  split
  · rfl
  · rename_i h
    unfold Ro
    rw [h]
    have hf : (L ++ [(k, (0 : Int))]).findIdx? (fun e => e.1 == k) = some L.length := by
      rw [List.findIdx?_append, h]
      simp [List.findIdx?_cons]
    rw [hf]
    simp [List.getD]
theorem m2put_set (L : Uw) (k : List UInt8 × List UInt8) (v : Int) : Oo (Fd L k) k v = Oo L k v := by
  unfold Fd
  split
  · rfl
  · rename_i h
    have hf : (L ++ [(k, (0 : Int))]).findIdx? (fun e => e.1 == k) = some L.length := by
      rw [List.findIdx?_append, h]
      simp [List.findIdx?_cons]
    unfold Oo
    rw [hf, h]
    simp
section
variable {P : Program} {w : World} {m : Nat} {L : Uw} {es : Array MapEntry} {clock : Nat} {T kt et : TypeId} {k : List UInt8 × List UInt8}
structure KeyT (P : Program) (kt : TypeId) : Prop where
  law : KeyLaw P kt
  key : ∀ k : List UInt8 × List UInt8, k.1.length ≤ maxLen → k.2.length ≤ maxLen → ∃ l, keyOf P kt (Iq k) = some l
theorem MOk.find (h : MOk m L es clock w) (K : KeyT P kt) (h1 : k.1.length ≤ maxLen) (h2 : k.2.length ≤ maxLen) :
    ((Instr.findKey kt (Iq k) es.toList).run P w = .ok none w ∧ L.findIdx? (fun e => e.1 == k) = none) ∨ ∃ j p e, L[j]? = some p ∧ p.1 = k ∧ es.toList[j]? = some e ∧ e.key = Iq k ∧ e.val = .int .i64 p.2 ∧ L.findIdx? (fun e => e.1 == k) = some j ∧ (Instr.findKey kt (Iq k) es.toList).run P w = .ok (some (j, .int .i64 p.2)) w := by
  obtain ⟨l, hl⟩ := K.key k h1 h2
  have get : ∀ (j : Nat) (e : MapEntry), es.toList[j]? = some e → ∃ p, L[j]? = some p ∧ e.key = Iq p.1 ∧ e.val = .int .i64 p.2 := fun j e hj => by
    have h3 := congrArg (fun x => x[j]?) h.ents
    simp only [mEnc, List.getElem?_map, hj, Option.map_some] at h3
    have h3' := h3.symm
    rw [Option.map_eq_some_iff] at h3'
    obtain ⟨p, hp, he⟩ := h3'
    injection he with e1 e2
    exact ⟨p, hp, e1.symm, e2.symm⟩
  have hes : ∀ e ∈ es.toList, ∃ l, keyOf P kt e.key = some l := fun e he => by
    obtain ⟨j, hj⟩ := List.mem_iff_getElem?.1 he
    obtain ⟨p, hp, hk, _⟩ := get j e hj
    obtain ⟨q1, q2⟩ := h.len p (List.mem_of_getElem? hp)
    rw [hk]
    exact K.key p.1 q1 q2
  rcases K.law.find w hl es.toList hes with ⟨r, hno⟩ | ⟨j, e, r, hj, hk⟩
  · left
    refine ⟨r, Ph fun p hp hpk => ?_⟩
    obtain ⟨j, hj⟩ := List.mem_iff_getElem?.1 hp
    have h3 := congrArg (fun x => x[j]?) h.ents
    simp only [mEnc, List.getElem?_map, hj, Option.map_some] at h3
    rw [Option.map_eq_some_iff] at h3
    obtain ⟨e, he, hee⟩ := h3
    injection hee with e1 _
    exact hno e (List.mem_of_getElem? he) (by rw [e1, hpk])
  · right
    obtain ⟨p, hp, hk2, hv⟩ := get j e hj
    have hpk : p.1 = k := On (hk2.symm.trans hk)
    exact ⟨j, p, e, hp, hpk, hj, hk, hv, Oq h.nd hp hpk, by rw [← hv]; exact r⟩
theorem Lu (h : MOk m L es clock w) (K : KeyT P kt) (hT : P.underlying T = some (.map kt et)) (hz : ∀ w, (zeroValue et).run P w = .ok (.int .i64 0) w) (h1 : k.1.length ≤ maxLen) (h2 : k.2.length ≤ maxLen) :
    (Instr.lookup T (.map (some m)) (Iq k) false).run P w = .ok (.int .i64 (Ro L k)) w := by
  obtain ⟨l, hl⟩ := K.key k h1 h2
  have hck := K.law.check w es.isEmpty hl
  unfold Ro
  rcases h.find K h1 h2 with ⟨r, hf⟩ | ⟨j, p, e, hp, hpk, hj, hk, hv, hf, r⟩
  · rw [hf]
    simp only [Instr.lookup, Sem.run_bind, run_underlying hT, Go.MapKept.run_getObj_map h.heap, hck, r, hz, Result.andThen_ok, Sem.run_pure]
    rfl
  · rw [hf]
    have : L.getD j (k, 0) = p := by simp [List.getD, hp]
    simp only [this]
    simp only [Instr.lookup, Sem.run_bind, run_underlying hT, Go.MapKept.run_getObj_map h.heap, hck, r, Result.andThen_ok, Sem.run_pure]
    rfl
end
section
variable {P : Program} {w : World} {m : Nat} {L : Uw} {es : Array MapEntry} {clock : Nat} {T kt et : TypeId} {k : List UInt8 × List UInt8}
theorem MOk.push {w' : World} (h : MOk m L es clock w) (h1 : k.1.length ≤ maxLen) (h2 : k.2.length ≤ maxLen) (hf : L.findIdx? (fun e => e.1 == k) = none) (hw : w'.heap[m]? = some (.map (es.push { key := Iq k, val := .int .i64 0, born := clock }) (clock + 1))) :
    MOk m (L ++ [(k, 0)]) (es.push { key := Iq k, val := .int .i64 0, born := clock }) (clock + 1) w' := by
  refine ⟨hw, by rw [Array.toList_push, List.map_append, h.ents]; simp [mEnc], fun p hp => ?_, ?_, ?_, fun e he => ?_⟩
  · rcases List.mem_append.1 hp with hp | hp
    · exact h.len p hp
    · simp at hp; subst hp; exact ⟨h1, h2⟩
  · refine List.pairwise_append.2 ⟨h.nd, List.pairwise_singleton _ _, fun a ha b hb => ?_⟩
    simp at hb; subst hb
    rw [List.findIdx?_eq_none_iff] at hf
    simpa using hf a ha
  · rw [Array.toList_push]
    refine List.pairwise_append.2 ⟨h.born, List.pairwise_singleton _ _, fun a ha b hb => ?_⟩
    simp at hb; subst hb
    have := h.clk a ha
    show a.born ≠ clock
    omega
  · rw [Array.toList_push] at he
    rcases List.mem_append.1 he with he | he
    · have := h.clk e he; omega
    · simp at he; subst he; exact Nat.lt_succ_self _
theorem Kz {w : World} {m : Nat} {o o' : Obj} (h : w.heap[m]? = some o) : ({ w with heap := w.heap.setIfInBounds m o' } : World).heap[m]? = some o' := (Go.MapKept.heap_set h).1
theorem Mx {w : World} {m : Nat} {o o' : Obj} (h : w.heap[m]? = some o) : Mod [m] w { w with heap := w.heap.setIfInBounds m o' } :=
  ⟨rfl, rfl, rfl, by simp, fun k _ hk => (Go.MapKept.heap_set h).2 k (by simpa using hk)⟩
theorem My (h : MOk m L es clock w) (K : KeyT P kt) (hT : P.underlying T = some (.map kt et)) (hz : ∀ w, (zeroValue et).run P w = .ok (.int .i64 0) w) (h1 : k.1.length ≤ maxLen) (h2 : k.2.length ≤ maxLen) :
    ∃ (b : Nat) (w' : World), (Instr.mapEntry T (.map (some m)) (Iq k)).run P w = .ok (.tuple #[.int .i64 (Ro L k), .int .i64 (b : Int)]) w' ∧ Mod [m] w w' ∧ (Mw m L k b).ok w' ∧ w'.heap.size = w.heap.size := by
  obtain ⟨l, hl⟩ := K.key k h1 h2
  have hck := K.law.check w false hl
  have hst := K.law.stays w hl
  rcases h.find K h1 h2 with ⟨r, hf⟩ | ⟨j, p, e, hp, hpk, hj, hk, hv, hf, r⟩
  · refine ⟨clock, { w with heap := w.heap.setIfInBounds m (.map (es.push { key := Iq k, val := .int .i64 0, born := clock }) (clock + 1)) }, ?_, Mx h.heap, ⟨_, _, by rw [show Fd L k = L ++ [(k, 0)] by unfold Fd; rw [hf]]; exact h.push h1 h2 hf (Kz h.heap), L.length, { key := Iq k, val := .int .i64 0, born := clock }, ?_, rfl, rfl⟩, by simp⟩
    · simp only [Instr.mapEntry, Sem.run_bind, run_underlying hT, Go.MapKept.run_getObj_map h.heap, hck, r, hz, Go.MapKept.run_setObj_map _ h.heap, Result.andThen_ok, Sem.run_pure]
      rw [show Ro L k = 0 by unfold Ro; rw [hf]]
      rfl
    · have hl2 := congrArg List.length h.ents
      simp [mEnc] at hl2
      rw [Array.toList_push]
      simp [hl2]
  · have hj' : es[j]? = some e := by simpa using hj
    have hmod : es.modify j (fun e => { e with key := Iq k }) = es := by
      apply Array.ext_getElem?
      intro i
      rw [Array.getElem?_modify]
      by_cases hij : j = i
      · subst hij
        rw [if_pos rfl, hj', Option.map_some]
        rw [← hk]
      · rw [if_neg hij]
    refine ⟨e.born, { w with heap := w.heap.setIfInBounds m (.map es clock) }, ?_, Mx h.heap, ⟨es, clock, ?_, j, e, hj, hk, rfl⟩, by simp⟩
    · simp only [Instr.mapEntry, Sem.run_bind, run_underlying hT, Go.MapKept.run_getObj_map h.heap, hck, r, hj', Option.map_some, Option.getD_some, hk, hst, hmod, Go.MapKept.run_setObj_map _ h.heap, Result.andThen_ok, Sem.run_pure]
      rw [show Ro L k = p.2 by unfold Ro; rw [hf]; simp [List.getD, hp]]
      rfl
    · rw [show Fd L k = L by unfold Fd; rw [hf]]
      exact ⟨Kz h.heap, h.ents, h.len, h.nd, h.born, h.clk⟩
theorem Mz {b : Nat} {v : Int} (hp : (Mw m L k b).ok w) (h1 : k.1.length ≤ maxLen) (h2 : k.2.length ≤ maxLen) :
    ∃ w' : World, (Instr.entryStore T (.map (some m)) (.int .i64 (b : Int)) (.int .i64 v)).run P w = .ok () w' ∧ Mod [m] w w' ∧ (V5 m (Oo L k v)).ok w' ∧ w'.heap.size = w.heap.size := by
  obtain ⟨es, clock, h, j, e, hj, hk, hb⟩ := hp
  have hlt : j < es.toList.length := (List.getElem?_eq_some_iff.1 hj).1
  have hfind : es.findIdx? (fun e => (e.born : Int) == (b : Int)) = some j := by
    rw [show es = es.toList.toArray by simp, List.findIdx?_toArray, List.findIdx?_eq_some_iff_getElem]
    have he := (List.getElem?_eq_some_iff.1 hj).2
    refine ⟨hlt, by rw [he, hb]; simp, fun i hi => ?_⟩
    have := List.pairwise_iff_getElem.1 h.born i j (by omega) hlt hi
    rw [he, hb] at this
    intro hh
    have h9 : ((es.toList[i].born : Nat) : Int) = (b : Int) := eq_of_beq hh
    omega
  have get : ∃ p, (Fd L k)[j]? = some p ∧ p.1 = k := by
    have h3 := congrArg (fun x => x[j]?) h.ents
    simp only [mEnc, List.getElem?_map, hj, Option.map_some] at h3
    have h3' := h3.symm
    rw [Option.map_eq_some_iff] at h3'
    obtain ⟨p, hp, he⟩ := h3'
    injection he with e1 _
    exact ⟨p, hp, On (e1.trans hk)⟩
  obtain ⟨p, hp, hpk⟩ := get
  have hf := Oq h.nd hp hpk
  have hset : Oo L k v = (Fd L k).set j (k, v) := by rw [← m2put_set]; unfold Oo; rw [hf]
  refine ⟨{ w with heap := w.heap.setIfInBounds m (.map (es.modify j fun e => { e with val := .int .i64 v }) clock) }, ?_, Mx h.heap, ⟨es.modify j fun e => { e with val := .int .i64 v }, clock, ?_⟩, by simp⟩
  · simp only [Instr.entryStore, Sem.run_bind, Go.MapKept.run_getObj_map h.heap, asInt, asIntOf, Result.andThen_ok, Sem.run_pure, hfind, Go.MapKept.run_setObj_map _ h.heap]
  · have hml : (es.modify j fun e => { e with val := .int .i64 v }).toList = es.toList.modify j (fun e => { e with val := .int .i64 v }) := by simp
    refine ⟨Kz h.heap, ?_, ?_, ?_, ?_, ?_⟩
    · rw [hset, hml]
      apply List.ext_getElem?
      intro i
      have h3 := congrArg (fun x => x[i]?) h.ents
      simp only [mEnc, List.getElem?_map] at h3 ⊢
      rw [List.getElem?_modify, List.getElem?_set]
      by_cases hij : j = i
      · subst hij
        have hlt2 : j < (Fd L k).length := (List.getElem?_eq_some_iff.1 hp).1
        simp [hj, hlt2, hk]
      · simp only [if_neg hij]
        simpa using h3
    · rw [hset]
      intro q hq
      rcases List.mem_or_eq_of_mem_set hq with hq | rfl
      · exact h.len q hq
      · exact ⟨h1, h2⟩
    · rw [hset]
      rw [List.pairwise_iff_getElem]
      intro a b ha hb hab
      have hkey : ∀ (i : Nat) (hi : i < ((Fd L k).set j (k, v)).length), (((Fd L k).set j (k, v))[i]).1 = ((Fd L k)[i]'(by simpa using hi)).1 := fun i hi => by
        rw [List.getElem_set]
        split
        · rename_i hji
          subst hji
          have := (List.getElem?_eq_some_iff.1 hp).2
          rw [this, hpk]
        · rfl
      rw [hkey a ha, hkey b hb]
      exact List.pairwise_iff_getElem.1 h.nd a b (by simpa using ha) (by simpa using hb) hab
    · rw [hml, List.pairwise_iff_getElem]
      intro a b ha hb hab
      have hbn : ∀ (i : Nat) (hi : i < (es.toList.modify j (fun e => { e with val := .int .i64 v })).length), ((es.toList.modify j (fun e => { e with val := .int .i64 v }))[i]).born = (es.toList[i]'(by simpa using hi)).born := fun i hi => by
        rw [List.getElem_modify]
        split <;> rfl
      rw [hbn a ha, hbn b hb]
      exact List.pairwise_iff_getElem.1 h.born a b (by simpa using ha) (by simpa using hb) hab
    · rw [hml]
      intro q hq
      obtain ⟨i, hi, rfl⟩ := List.mem_iff_getElem.1 hq
      have hbn : ((es.toList.modify j (fun e => { e with val := .int .i64 v }))[i]).born = (es.toList[i]'(by simpa using hi)).born := by
        rw [List.getElem_modify]
        split <;> rfl
      rw [hbn]
      exact h.clk _ (List.getElem_mem _)
end
section
variable {P : Program} {n : Nat} {B : Code} {p : List Bool} {o : Nat} {K : Fr → World → Prop} {ρ : Fr} {w w0 : World} {ens : List Ent} {S : List Nat} {m : Nat} {L : Uw} {dst : Option Nat} {k : List UInt8 × List UInt8}
theorem M0 {T : TypeId} (ho : D3 (Qm B p) o ρ = some (.makeMap T none, dst)) (hd : Ji n dst = true) (hs : SP S w0 w ens)
    (next : ∀ (m : Nat) (w' : World), SP S w0 w' (ens ++ [V5 m []]) → K (G4 ρ dst (.map (some m))) w') : Qi P n B p o K ρ w := by
  refine Qi.val ho hd (w' := w.alloc (.map #[] 0)) (v := .map (some w.heap.size)) (fun o hop => ?_) (next _ _ ?_)
  · unfold execOp; rw [hop]
    rfl
  · refine hs.push ((Below.refl _ _).alloc (Nat.le_refl _) _) ⟨#[], 0, heap_alloc_new w _, rfl, fun p hp => (by cases hp), List.Pairwise.nil, List.Pairwise.nil, fun e he => (by cases he)⟩ fun k hk => ?_
    have : k = w.heap.size := by simpa [V5] using hk
    subst this
    simp
theorem Et {T kt et : TypeId} {x ix : Operand} (ho : D3 (Qm B p) o ρ = some (.lookup T x ix false, dst)) (hd : Ji n dst = true) (hx : opv ρ x = .map (some m)) (hix : opv ρ ix = Iq k) (hT : P.underlying T = some (.map kt et)) (hK : KeyT P kt)
    (hz : ∀ w, (zeroValue et).run P w = .ok (.int .i64 0) w) (h : (V5 m L).ok w) (h1 : k.1.length ≤ maxLen) (h2 : k.2.length ≤ maxLen) (next : K (G4 ρ dst (.int .i64 (Ro L k))) w) : Qi P n B p o K ρ w := by
  obtain ⟨es, clock, h⟩ := h
  refine Qi.val ho hd (fun o hop => ?_) next
  unfold execOp; rw [hop]
  simp only [hx, hix, Sem.run_bind, Lu h hK hT hz h1 h2, Result.andThen_ok]
  rfl
theorem Ir {T kt et : TypeId} {b : Nat} {x ix : Operand} (ho : D3 (Qm B p) o ρ = some (.lookup T x ix false, dst)) (hd : Ji n dst = true) (hx : opv ρ x = .map (some m)) (hix : opv ρ ix = Iq k) (hT : P.underlying T = some (.map kt et)) (hK : KeyT P kt)
    (hz : ∀ w, (zeroValue et).run P w = .ok (.int .i64 0) w) (h : (Mw m L k b).ok w) (h1 : k.1.length ≤ maxLen) (h2 : k.2.length ≤ maxLen) (next : K (G4 ρ dst (.int .i64 (Ro L k))) w) : Qi P n B p o K ρ w := by
  obtain ⟨es, clock, h, _⟩ := h
  refine Qi.val ho hd (fun o hop => ?_) next
  unfold execOp; rw [hop]
  simp only [hx, hix, Sem.run_bind, Lu h hK hT hz h1 h2, m2put_get, Result.andThen_ok]
  rfl
theorem Lv {T kt et : TypeId} {x ix : Operand} {i : Nat} (ho : D3 (Qm B p) o ρ = some (.mapEntry T x ix, dst)) (hd : Ji n dst = true) (hx : opv ρ x = .map (some m)) (hix : opv ρ ix = Iq k) (hT : P.underlying T = some (.map kt et)) (hK : KeyT P kt)
    (hz : ∀ w, (zeroValue et).run P w = .ok (.int .i64 0) w) (hs : SP S w0 w ens) (hi : ens[i]? = some (V5 m L)) (h1 : k.1.length ≤ maxLen) (h2 : k.2.length ≤ maxLen)
    (next : ∀ (b : Nat) (w' : World), SP S w0 w' (ens.set i (Mw m L k b)) → K (G4 ρ dst (.tuple #[.int .i64 (Ro L k), .int .i64 (b : Int)])) w') : Qi P n B p o K ρ w := by
  obtain ⟨es, clock, h⟩ := hs.get hi
  obtain ⟨b, w', hr, hm, hok, hsz⟩ := My h hK hT hz h1 h2
  refine Qi.val ho hd (w' := w') (v := .tuple #[.int .i64 (Ro L k), .int .i64 (b : Int)]) (fun o hop => ?_) (next b w' ?_)
  · unfold execOp; rw [hop]
    simp only [hx, hix, Sem.run_bind, hr, Result.andThen_ok]
    rfl
  · refine hs.set hi (T := [m]) hm (fun k hk => hk) hok fun k hk => ⟨.inl hk, ?_⟩
    have := (hs.own.get hi).2 k hk
    omega
theorem Lw {T : TypeId} {x ix y : Operand} {i b : Nat} {v : Int} (ho : D3 (Qm B p) o ρ = some (.entryStore T x ix y, dst)) (hd : Ji n dst = true) (hx : opv ρ x = .map (some m)) (hix : opv ρ ix = .int .i64 (b : Int)) (hy : opv ρ y = .int .i64 v)
    (hs : SP S w0 w ens) (hi : ens[i]? = some (Mw m L k b)) (h1 : k.1.length ≤ maxLen) (h2 : k.2.length ≤ maxLen)
    (next : ∀ (w' : World), SP S w0 w' (ens.set i (V5 m (Oo L k v))) → K (G4 ρ dst undef) w') : Qi P n B p o K ρ w := by
  obtain ⟨w', hr, hm, hok, hsz⟩ := Mz (T := T) (P := P) (v := v) (hs.get hi) h1 h2
  refine Fi ho hd (w' := w') (fun o hop => ?_) (next w' ?_)
  · unfold execOp; rw [hop]
    simp only [hx, hix, hy, Sem.run_bind, hr, Result.andThen_ok]
    rfl
  · refine hs.set hi (T := [m]) hm (fun k hk => hk) hok fun k hk => ⟨.inl hk, ?_⟩
    have := (hs.own.get hi).2 k hk
    omega
end
theorem Lz {a b : List UInt8} (h : (Nat.ble (List.length a) 140737488355328 && Nat.ble (List.length b) 140737488355328) = true) : a.length ≤ maxLen ∧ b.length ≤ maxLen := by
  rw [Bool.and_eq_true] at h
  have hm : 140737488355328 ≤ maxLen := by decide
  exact ⟨Nat.le_trans (Nat.le_of_ble_eq_true h.1) hm, Nat.le_trans (Nat.le_of_ble_eq_true h.2) hm⟩
theorem Cw : KeyT Tryz.prog 83 := by
  have hA : ArrKey Tryz.prog 83 9 2 := ⟨by kernel_rfl, by kernel_rfl, by kernel_rfl, by kernel_rfl⟩
  refine ⟨hA.law, fun k h1 h2 => ?_⟩
  have hs1 : (⟨k.1.toArray⟩ : ByteArray).size ≤ maxLen := by rw [Rh]; exact h1
  have hs2 : (⟨k.2.toArray⟩ : ByteArray).size ≤ maxLen := by rw [Rh]; exact h2
  unfold keyOf
  rw [hA.hu]
  have hkt : Tryz.prog.keyType 83 = true := by kernel_rfl
  have hfm : (Iq k).formed Tryz.prog 83 = true := by kernel_rfl
  simp only [hkt, hfm, Bool.and_self, if_true]
  have hkl : ∃ ls, Tryz.prog.keyLits (Tryz.prog.types.size + 1) 83 (Iq k).cells.toList = some ls := by
    obtain ⟨N, hN⟩ : ∃ N, Tryz.prog.types.size = N + 1 := ⟨Tryz.prog.types.size - 1, by kernel_rfl⟩
    rw [hN]
    unfold Program.keyLits
    rw [hA.hu]
    simp only [hA.size, hA.one]
    have hst : Tryz.prog.underlying 9 = some .string := by kernel_rfl
    have e1 : Tryz.prog.keyLits (N + 1) 9 [.string ⟨k.1.toArray⟩] = some [.string k.1] := by
      unfold Program.keyLits
      rw [hst]
      simp [hs1]
    have e2 : Tryz.prog.keyLits (N + 1) 9 [.string ⟨k.2.toArray⟩] = some [.string k.2] := by
      unfold Program.keyLits
      rw [hst]
      simp [hs2]
    refine ⟨[.string k.1, .string k.2], ?_⟩
    simp [Iq, Value.cells, List.range_succ, e1, e2]
  obtain ⟨ls, hls⟩ := hkl
  exact ⟨_, by rw [hls]; rfl⟩
end Go.Proofs.YtmgfanhcdfobhaaGreatDoor
namespace Go.Proofs.YtmgfanhcdfobhaaGreatDoor
abbrev KeyL := List UInt8 × List UInt8
theorem mget_nil (k : KeyL) : Ro [] k = 0 := rfl
theorem Em (e : KeyL × Int) (L : Uw) (k : KeyL) : Ro (e :: L) k = if e.1 = k then e.2 else Ro L k := by
  unfold Ro
  rw [List.findIdx?_cons]
  by_cases h : e.1 = k
  · rw [if_pos h, if_pos (by simpa using h)]
    simp [List.getD]
  · rw [if_neg h, if_neg (by simpa using h)]
    cases hf : L.findIdx? (fun e => e.1 == k) with
    | none => rfl
    | some j => simp [List.getD]
theorem mset_nil (k : KeyL) (v : Int) : Oo [] k v = [(k, v)] := rfl
theorem mset_cons (e : KeyL × Int) (L : Uw) (k : KeyL) (v : Int) : Oo (e :: L) k v = if e.1 = k then (k, v) :: L else e :: Oo L k v := by
  unfold Oo
  rw [List.findIdx?_cons]
  by_cases h : e.1 = k
  · rw [if_pos h, if_pos (by simpa using h)]
    simp
  · rw [if_neg h, if_neg (by simpa using h)]
    cases hf : L.findIdx? (fun e => e.1 == k) with
    | none => simp
    | some j => simp
theorem Is : ∀ (L : Uw) (k k' : KeyL) (v : Int), Ro (Oo L k v) k' = if k = k' then v else Ro L k'
  | [], k, k', v => by
    rw [mset_nil, Em]
  | e :: L, k, k', v => by
    rw [mset_cons]
    by_cases h : e.1 = k
    · rw [if_pos h, Em, Em, h]
      by_cases h2 : k = k'
      · rw [if_pos h2, if_pos h2]
      · rw [if_neg h2, if_neg h2, if_neg h2]
    · rw [if_neg h, Em, Em, Is L k k' v]
      by_cases h2 : e.1 = k'
      · rw [if_pos h2, if_pos h2, if_neg (fun h3 => h (h2.trans h3.symm))]
      · rw [if_neg h2, if_neg h2]
end Go.Proofs.YtmgfanhcdfobhaaGreatDoor
namespace Go.Proofs.YtmgfanhcdfobhaaGreatDoor
open Go.RowKit
def Gw (a : (List UInt8)) (c : Int) (d : Int) (e : (List (Int × Int))) (f : (List ((List UInt8) × (List UInt8) × Int))) (b : (List UInt8)) : Option (Bool) :=
  (some ((a == b)))
theorem Ew (A5 : Option Addr) (c6 : Nat) (A9 : Option Addr) (j : Nat) (l : Nat) (c : (List UInt8)) (m : Int) (o : Int) (h : (List (Int × Int))) (i : (List ((List UInt8) × (List UInt8) × Int))) (f : (List UInt8)) (w0 : World) (u : RdT (Qj (Qc .u32) (Qc .i64)) w0 A5 c6 h) (w : RdT (Qj Qx (Qj Qx (Qc .i64))) w0 A9 j i) (hg13 : w0.heap[l]? = some (.cells #[(.string ⟨List.toArray f⟩)] 9 (0, 0))) (r : (Bool)) (H : Gw c m o h i f = some r) :
  Calls Tryz.prog 88 #[(.agg #[(.string ⟨List.toArray c⟩), (.int .i64 m), (.int .i64 o), (.slice A5 (List.length h) c6), (.slice A9 (List.length i) j)]), (pt l 0)] w0 (fun e w' => e = .returned (.bool r) ∧ SP [] w0 w' []) := by
 unfold Gw at H
 refine Qs (n := 8) Tryz.func88 K K K ?_
 have s := Q0 [] w0
 refine aQ ?_
 refine aR ?_
 refine iS 1 ?_
 refine Vn (t := 44) (x := (.tmp 0)) (v := (.agg #[(.string ⟨List.toArray c⟩), (.int .i64 m), (.int .i64 o), (.slice A5 (List.length h) c6), (.slice A9 (List.length i) j)])) (d := (some 2)) (k := 0) K rfl K s ?_
 intro q z p
 refine iR 1 2 [(3, (.bool false))] ?_
 refine iF ?_
 refine aQ ?_
 refine aR ?_
 refine iR 1 1 [(4, (pt q 0))] ?_
 refine iS 2 ?_
 refine sL 9 4 q 0 0 (.string ⟨List.toArray c⟩) 5 p rfl ?_
 refine iS 3 ?_
 refine I6 (t := 9) (t' := 9) (x := (.tmp 1)) (g := l) (off := 0) (cs := #[(.string ⟨List.toArray f⟩)]) (v := (.string ⟨List.toArray f⟩)) (d := (some 6)) (k := 2) K rfl K (Fj hg13 (SP.keeps p)) K ?_
 refine iS 4 ?_
 refine V0 (op := .eql) (T := 9) (T' := 9) (x := (.tmp 5)) (y := (.tmp 6)) (a := c) (b := f) (r := (.bool (c == f))) (d := (some 7)) (k := 3) K rfl K K rfl ?_
 refine iR 1 5 [(3, (.bool (c == f)))] ?_
 refine iF ?_
 refine At.ret K ?_
 refine ⟨(.bool (c == f)), K, ?_⟩
 obtain rfl := Qe H
 exact ⟨rfl, SP.sel p [] rfl rfl⟩
def N3 (e : Int) (f : Int) (g : Int) (h : Int) (b : (List Qg)) (d : (List UInt8)) : Option ((List UInt8) × Int × Int × (List (Int × Int)) × (List ((List UInt8) × (List UInt8) × Int)) × Bool) :=
  ((Vh b (fun y0 y1 y2 y3 y4 => Gw y0 y1 y2 y3 y4 d)).bind fun c => (cond (decide (c < 0)) (some (([] : List UInt8), 0, 0, ([] : List (Int × Int)), ([] : List ((List UInt8) × (List UInt8) × Int)), false)) ((idx b c).bind fun a => (some (a.1, a.2.1, a.2.2.1, a.2.2.2.1, a.2.2.2.2, true)))))
theorem R1 {R : World → Prop} (A6 : Option Addr) (c7 : Nat) (a1 : Int) (a2 : Int) (a3 : Int) (a4 : Int) (d9 : (List Va)) (j : (List UInt8)) (w0 : World) (hR : ∀ w, Below w0.heap.size w0 w → R w) (m : ∀ w, R w → (dDS Js Ce).ok w (A6, c7, d9)) (r : ((List UInt8) × Int × Int × (List (Int × Int)) × (List ((List UInt8) × (List UInt8) × Int)) × Bool)) (H : N3 a1 a2 a3 a4 (List.map stT d9) j = some r) :
  Calls Tryz.prog 67 #[(.agg #[(.int .i64 a1), (.int .i64 a2), (.int .i64 a3), (.int .i64 a4), (.slice A6 (List.length (List.map stT d9)) c7)]), (.string ⟨List.toArray j⟩)] w0 (fun e w' => ∃ (a8 : Option Addr) (a9 : Nat) (b0 : Option Addr) (b1 : Nat), e = .returned (.tuple #[(.agg #[(.string ⟨List.toArray r.1⟩), (.int .i64 r.2.1), (.int .i64 r.2.2.1), (.slice a8 (List.length r.2.2.2.1) a9), (.slice b0 (List.length r.2.2.2.2.1) b1)]), (.bool r.2.2.2.2.2)]) ∧ (∀ w, R w → RdT (Qj (Qc .u32) (Qc .i64)) w a8 a9 r.2.2.2.1) ∧ (∀ w, R w → RdT (Qj Qx (Qj Qx (Qc .i64))) w b0 b1 r.2.2.2.2.1) ∧ SP [] w0 w' []) := by
 unfold N3 at H
 refine Qs (n := 19) Tryz.func67 K K K ?_
 have b8 := Q0 [] w0
 refine aQ ?_
 refine aR ?_
 refine iS 1 ?_
 refine Vn (t := 24) (x := (.tmp 0)) (v := (.agg #[(.int .i64 a1), (.int .i64 a2), (.int .i64 a3), (.int .i64 a4), (.slice A6 (List.length (List.map stT d9)) c7)])) (d := (some 2)) (k := 0) K rfl K b8 ?_
 intro q c5 b9
 refine iS 2 ?_
 refine Vn (t := 9) (x := (.tmp 1)) (v := (.string ⟨List.toArray j⟩)) (d := (some 3)) (k := 1) K rfl K b9 ?_
 intro s c6 c0
 refine iS 3 ?_
 refine Qi.alloc (t := 44) (z := (.agg #[(.string ⟨List.toArray ([] : List UInt8)⟩), (.int .i64 0), (.int .i64 0), (.slice none (List.length ([] : List (Int × Int))) 0), (.slice none (List.length ([] : List ((List UInt8) × (List UInt8) × Int))) 0)])) (d := (some 4)) (k := 2) K rfl K c0 ?_
 intro u a5 a0
 refine iR 1 4 [(5, (.bool false))] ?_
 refine iF ?_
 refine aQ ?_
 refine aR ?_
 refine iR 1 1 [(7, (pt q 4))] ?_
 refine iS 2 ?_
 refine sL 22 7 q 4 0 (.slice A6 (List.length (List.map stT d9)) c7) 8 a0 rfl ?_
 refine iR 1 3 [(9, (.func (.func 88) #[] #[(pt s 0)]))] ?_
 obtain ⟨h, c1, H⟩ := Qb H
 refine iS 4 ?_
 refine cF 76 #[(.tmp 8), (.tmp 9)] #[22, 102] 10 Tryz.call76 (Yu A6 c7 88 #[(pt s 0)] d9 (fun y0 y1 y2 y3 y4 => Gw y0 y1 y2 y3 y4 j) a5 (m a5 (hR _ (SP.keeps a0))) Tryz.call88 (fun y0 y1 y2 y3 y4 z w Ay3 cy3 Ay4 cy4 hw hy3 hy4 hz => Ew Ay3 cy3 Ay4 cy4 s y0 y1 y2 y3 y4 j w hy3 hy4 (Fj (show a5.heap[s]? = some (.cells #[(.string ⟨List.toArray j⟩)] 9 (0, 0)) from SP.get a0 (i := 1) rfl) hw) z hz) h c1) ?_
 rintro e b2 ⟨rfl, b3⟩
 refine ⟨_, rfl, ?_⟩
 have p := SP.call a0 b3
 clear b3
 refine iR 1 5 [(6, (.int .i64 h))] ?_
 refine iF ?_
 refine aQ ?_
 refine aQ ?_
 refine aR ?_
 refine iR 2 2 [(11, (.int .i64 h)), (12, (.bool (decide (h < 0))))] ?_
 refine iF ?_
 refine V1 K (o := (.tmp 12)) K (b := (decide (h < 0))) K (fun a6 => ?_) (fun a6 => ?_)
 ·have H := ct H a6
  refine aQ ?_
  refine aR ?_
  refine iR 1 1 [(13, (.agg #[(.string ⟨List.toArray ([] : List UInt8)⟩), (.int .i64 0), (.int .i64 0), (.slice none (List.length ([] : List (Int × Int))) 0), (.slice none (List.length ([] : List ((List UInt8) × (List UInt8) × Int))) 0)]))] ?_
  refine iS 2 ?_
  refine Qi.store (t := 44) (x := (.tmp 4)) (y := (.tmp 13)) (g := u) (off := 0) (i := 2) (v := (.agg #[(.string ⟨List.toArray ([] : List UInt8)⟩), (.int .i64 0), (.int .i64 0), (.slice none (List.length ([] : List (Int × Int))) 0), (.slice none (List.length ([] : List ((List UInt8) × (List UInt8) × Int))) 0)])) (cs' := #[(.string ⟨List.toArray ([] : List UInt8)⟩), (.int .i64 0), (.int .i64 0), (.slice none (List.length ([] : List (Int × Int))) 0), (.slice none (List.length ([] : List ((List UInt8) × (List UInt8) × Int))) 0)]) (d := none) (k := 1) K rfl K K p rfl K ?_
  intro c8 b4
  refine iR 1 3 [(5, (.bool false))] ?_
  refine iF ?_
  refine At.ret K ?_
  refine ⟨(.tuple #[(.agg #[(.string ⟨List.toArray ([] : List UInt8)⟩), (.int .i64 0), (.int .i64 0), (.slice none (List.length ([] : List (Int × Int))) 0), (.slice none (List.length ([] : List ((List UInt8) × (List UInt8) × Int))) 0)]), (.bool false)]), C2 K (J4 (a := 4) (t := 44) (g := u) (off := 0) K (SP.get b4 (i := 2) rfl) K) (R4 (t := 5) K), ?_⟩
  obtain rfl := Qe H
  exact ⟨none, 0, none, 0, rfl, (fun w _ => RdT.nil (Qj (Qc .u32) (Qc .i64)) w), (fun w _ => RdT.nil (Qj Qx (Qj Qx (Qc .i64))) w), SP.sel b4 [] rfl rfl⟩
 ·have H := cf H a6
  refine At.skip K ?_
  refine aQ ?_
  refine aR ?_
  refine iR 1 1 [(14, (pt q 4))] ?_
  refine iS 2 ?_
  refine sL 22 14 q 4 0 (.slice A6 (List.length (List.map stT d9)) c7) 15 p rfl ?_
  refine iR 1 3 [(16, (.int .i64 h))] ?_
  obtain ⟨f, b5, b6, a7, H⟩ := Rc H
  refine iS 4 ?_
  refine Ul stT (e := Js) (l := d9) (A := A6) (c := c7) (T := 22) (E := 44) (x := (.tmp 15)) (ix := (.tmp 16)) (ki := .i64) (iz := h) (d := (some 17)) (k := 3) K rfl K K K K ((fun w hm => (Uz (m w hm))) b2 (hR _ (SP.keeps p))) b5 b6 ?_
  intro c2 c3 c4 c9 hc46
  refine iS 5 ?_
  refine Qi.cells (t := 44) (x := (.tmp 17)) (b := c2) (off := (c3 + Int.toNat h * Js.sz)) (xs := [(.string ⟨List.toArray (stT f).1⟩), (.int .i64 (stT f).2.1), (.int .i64 (stT f).2.2.1), (.slice f.2.2.2.1.1 (List.length (stT f).2.2.2.1) f.2.2.2.1.2.1), (.slice f.2.2.2.2.1 (List.length (stT f).2.2.2.2) f.2.2.2.2.2.1)]) (d := (some 18)) (k := 4) K rfl K K K (Z2 (e := Js) (Qh ((fun w hm => (Uz (m w hm))) b2 (hR _ (SP.keeps p))) c4 b5 b6) a7 rfl) ?_
  refine iS 6 ?_
  refine Qi.store (t := 44) (x := (.tmp 4)) (y := (.tmp 18)) (g := u) (off := 0) (i := 2) (v := (.agg #[(.string ⟨List.toArray (stT f).1⟩), (.int .i64 (stT f).2.1), (.int .i64 (stT f).2.2.1), (.slice f.2.2.2.1.1 (List.length (stT f).2.2.2.1) f.2.2.2.1.2.1), (.slice f.2.2.2.2.1 (List.length (stT f).2.2.2.2) f.2.2.2.2.2.1)])) (cs' := #[(.string ⟨List.toArray (stT f).1⟩), (.int .i64 (stT f).2.1), (.int .i64 (stT f).2.2.1), (.slice f.2.2.2.1.1 (List.length (stT f).2.2.2.1) f.2.2.2.1.2.1), (.slice f.2.2.2.2.1 (List.length (stT f).2.2.2.2) f.2.2.2.2.2.1)]) (d := none) (k := 5) K rfl K K p rfl K ?_
  intro d0 b7
  refine iR 1 7 [(5, (.bool true))] ?_
  refine iF ?_
  refine At.ret K ?_
  refine ⟨(.tuple #[(.agg #[(.string ⟨List.toArray (stT f).1⟩), (.int .i64 (stT f).2.1), (.int .i64 (stT f).2.2.1), (.slice f.2.2.2.1.1 (List.length (stT f).2.2.2.1) f.2.2.2.1.2.1), (.slice f.2.2.2.2.1 (List.length (stT f).2.2.2.2) f.2.2.2.2.2.1)]), (.bool true)]), C2 K (J4 (a := 4) (t := 44) (g := u) (off := 0) K (SP.get b7 (i := 2) rfl) K) (R4 (t := 5) K), ?_⟩
  obtain rfl := Qe H
  exact ⟨f.2.2.2.1.1, f.2.2.2.1.2.1, f.2.2.2.2.1, f.2.2.2.2.2.1, rfl, (fun w hm => (Uz ((fun w hm => (dp1 (dp2 (dp2 (dp2 (Bx (m w hm) a7)))))) w hm))), (fun w hm => (Uz ((fun w hm => (dp2 (dp2 (dp2 (dp2 (Bx (m w hm) a7)))))) w hm))), SP.sel b7 [] rfl rfl⟩
def Ge (a : (List UInt8)) (b : (List UInt8)) (c : Int) (c6 : (List UInt8)) : Option (Bool) :=
  (some ((a == c6)))
theorem En (g4 : Nat) (c : (List UInt8)) (f : (List UInt8)) (h : Int) (c6 : (List UInt8)) (w0 : World) (hg5 : w0.heap[g4]? = some (.cells #[(.string ⟨List.toArray c6⟩)] 9 (0, 0))) (r : (Bool)) (H : Ge c f h c6 = some r) :
  Calls Tryz.prog 90 #[(.agg #[(.string ⟨List.toArray c⟩), (.string ⟨List.toArray f⟩), (.int .i64 h)]), (pt g4 0)] w0 (fun e w' => e = .returned (.bool r) ∧ SP [] w0 w' []) := by
 unfold Ge at H
 refine Qs (n := 8) Tryz.func90 K K K ?_
 have j := Q0 [] w0
 refine aQ ?_
 refine aR ?_
 refine iS 1 ?_
 refine Vn (t := 48) (x := (.tmp 0)) (v := (.agg #[(.string ⟨List.toArray c⟩), (.string ⟨List.toArray f⟩), (.int .i64 h)])) (d := (some 2)) (k := 0) K rfl K j ?_
 intro g7 w8 i
 refine iR 1 2 [(3, (.bool false))] ?_
 refine iF ?_
 refine aQ ?_
 refine aR ?_
 refine iR 1 1 [(4, (pt g7 0))] ?_
 refine iS 2 ?_
 refine sL 9 4 g7 0 0 (.string ⟨List.toArray c⟩) 5 i rfl ?_
 refine iS 3 ?_
 refine I6 (t := 9) (t' := 9) (x := (.tmp 1)) (g := g4) (off := 0) (cs := #[(.string ⟨List.toArray c6⟩)]) (v := (.string ⟨List.toArray c6⟩)) (d := (some 6)) (k := 2) K rfl K (Fj hg5 (SP.keeps i)) K ?_
 refine iS 4 ?_
 refine V0 (op := .eql) (T := 9) (T' := 9) (x := (.tmp 5)) (y := (.tmp 6)) (a := c) (b := c6) (r := (.bool (c == c6))) (d := (some 7)) (k := 3) K rfl K K rfl ?_
 refine iR 1 5 [(3, (.bool (c == c6)))] ?_
 refine iF ?_
 refine At.ret K ?_
 refine ⟨(.bool (c == c6)), K, ?_⟩
 obtain rfl := Qe H
 exact ⟨rfl, SP.sel i [] rfl rfl⟩
def Nf (e : (List UInt8)) (f : Int) (g : Int) (h : (List (Int × Int))) (b : (List ((List UInt8) × (List UInt8) × Int))) (d : (List UInt8)) : Option ((List UInt8) × (List UInt8) × Int × Bool) :=
  ((Vl b (fun y0 y1 y2 => Ge y0 y1 y2 d)).bind fun c => (cond (decide (c < 0)) (some (([] : List UInt8), ([] : List UInt8), 0, false)) ((idx b c).bind fun a => (some (a.1, a.2.1, a.2.2, true)))))
theorem Rp (A5 : Option Addr) (c6 : Nat) (A9 : Option Addr) (m : Nat) (a3 : (List UInt8)) (a4 : Int) (a5 : Int) (s : (List (Int × Int))) (h : (List ((List UInt8) × (List UInt8) × Int))) (p : (List UInt8)) (w0 : World) (c2 : RdT (Qj (Qc .u32) (Qc .i64)) w0 A5 c6 s) (a6 : RdT (Qj Qx (Qj Qx (Qc .i64))) w0 A9 m h) (r : ((List UInt8) × (List UInt8) × Int × Bool)) (H : Nf a3 a4 a5 s h p = some r) :
  Calls Tryz.prog 68 #[(.agg #[(.string ⟨List.toArray a3⟩), (.int .i64 a4), (.int .i64 a5), (.slice A5 (List.length s) c6), (.slice A9 (List.length h) m)]), (.string ⟨List.toArray p⟩)] w0 (fun e w' => e = .returned (.tuple #[(.agg #[(.string ⟨List.toArray r.1⟩), (.string ⟨List.toArray r.2.1⟩), (.int .i64 r.2.2.1)]), (.bool r.2.2.2)]) ∧ SP [] w0 w' []) := by
 unfold Nf at H
 refine Qs (n := 19) Tryz.func68 K K K ?_
 have b4 := Q0 [] w0
 refine aQ ?_
 refine aR ?_
 refine iS 1 ?_
 refine Vn (t := 44) (x := (.tmp 0)) (v := (.agg #[(.string ⟨List.toArray a3⟩), (.int .i64 a4), (.int .i64 a5), (.slice A5 (List.length s) c6), (.slice A9 (List.length h) m)])) (d := (some 2)) (k := 0) K rfl K b4 ?_
 intro u c3 b5
 refine iS 2 ?_
 refine Vn (t := 9) (x := (.tmp 1)) (v := (.string ⟨List.toArray p⟩)) (d := (some 3)) (k := 1) K rfl K b5 ?_
 intro a0 c4 b6
 refine iS 3 ?_
 refine Qi.alloc (t := 48) (z := (.agg #[(.string ⟨List.toArray ([] : List UInt8)⟩), (.string ⟨List.toArray ([] : List UInt8)⟩), (.int .i64 0)])) (d := (some 4)) (k := 2) K rfl K b6 ?_
 intro a1 a8 a2
 refine iR 1 4 [(5, (.bool false))] ?_
 refine iF ?_
 refine aQ ?_
 refine aR ?_
 refine iR 1 1 [(7, (pt u 4))] ?_
 refine iS 2 ?_
 refine sL 42 7 u 4 0 (.slice A9 (List.length h) m) 8 a2 rfl ?_
 refine iR 1 3 [(9, (.func (.func 90) #[] #[(pt a0 0)]))] ?_
 obtain ⟨j, b7, H⟩ := Qb H
 refine iS 4 ?_
 refine cF 89 #[(.tmp 8), (.tmp 9)] #[42, 117] 10 Tryz.call89 (Y4 A9 m 90 #[(pt a0 0)] h (fun y0 y1 y2 => Ge y0 y1 y2 p) a8 (RdT.sp a6 a2) Tryz.call90 (fun y0 y1 y2 z w  hw  hz => En a0 y0 y1 y2 p w (Fj (show a8.heap[a0]? = some (.cells #[(.string ⟨List.toArray p⟩)] 9 (0, 0)) from SP.get a2 (i := 1) rfl) hw) z hz) j b7) ?_
 rintro e c5 ⟨rfl, a9⟩
 refine ⟨_, rfl, ?_⟩
 have q := SP.call a2 a9
 clear a9
 refine iR 1 5 [(6, (.int .i64 j))] ?_
 refine iF ?_
 refine aQ ?_
 refine aQ ?_
 refine aR ?_
 refine iR 2 2 [(11, (.int .i64 j)), (12, (.bool (decide (j < 0))))] ?_
 refine iF ?_
 refine V1 K (o := (.tmp 12)) K (b := (decide (j < 0))) K (fun a7 => ?_) (fun a7 => ?_)
 ·have H := ct H a7
  refine aQ ?_
  refine aR ?_
  refine iR 1 1 [(13, (.agg #[(.string ⟨List.toArray ([] : List UInt8)⟩), (.string ⟨List.toArray ([] : List UInt8)⟩), (.int .i64 0)]))] ?_
  refine iS 2 ?_
  refine Qi.store (t := 48) (x := (.tmp 4)) (y := (.tmp 13)) (g := a1) (off := 0) (i := 2) (v := (.agg #[(.string ⟨List.toArray ([] : List UInt8)⟩), (.string ⟨List.toArray ([] : List UInt8)⟩), (.int .i64 0)])) (cs' := #[(.string ⟨List.toArray ([] : List UInt8)⟩), (.string ⟨List.toArray ([] : List UInt8)⟩), (.int .i64 0)]) (d := none) (k := 1) K rfl K K q rfl K ?_
  intro w32 b0
  refine iR 1 3 [(5, (.bool false))] ?_
  refine iF ?_
  refine At.ret K ?_
  refine ⟨(.tuple #[(.agg #[(.string ⟨List.toArray ([] : List UInt8)⟩), (.string ⟨List.toArray ([] : List UInt8)⟩), (.int .i64 0)]), (.bool false)]), C2 K (J4 (a := 4) (t := 48) (g := a1) (off := 0) K (SP.get b0 (i := 2) rfl) K) (R4 (t := 5) K), ?_⟩
  obtain rfl := Qe H
  exact ⟨rfl, SP.sel b0 [] rfl rfl⟩
 ·have H := cf H a7
  refine At.skip K ?_
  refine aQ ?_
  refine aR ?_
  refine iR 1 1 [(14, (pt u 4))] ?_
  refine iS 2 ?_
  refine sL 42 14 u 4 0 (.slice A9 (List.length h) m) 15 q rfl ?_
  refine iR 1 3 [(16, (.int .i64 j))] ?_
  obtain ⟨f, b1, b2, b8, H⟩ := Qo H
  refine iS 4 ?_
  refine Vi (e := (Qj Qx (Qj Qx (Qc .i64)))) (l := h) (A := A9) (c := m) (T := 42) (E := 48) (x := (.tmp 15)) (ix := (.tmp 16)) (ki := .i64) (iz := j) (d := (some 17)) (k := 3) K rfl K K K K (RdT.sp a6 q) b1 b2 ?_
  intro b9 c0 c1 c7 hc41
  refine iS 5 ?_
  refine Qi.cells (t := 48) (x := (.tmp 17)) (b := b9) (off := (c0 + Int.toNat j * (Qj Qx (Qj Qx (Qc .i64))).sz)) (xs := [(.string ⟨List.toArray f.1⟩), (.string ⟨List.toArray f.2.1⟩), (.int .i64 f.2.2)]) (d := (some 18)) (k := 4) K rfl K K K (Z2 (e := (Qj Qx (Qj Qx (Qc .i64)))) (Qh (RdT.sp a6 q) c1 b1 b2) b8 rfl) ?_
  refine iS 6 ?_
  refine Qi.store (t := 48) (x := (.tmp 4)) (y := (.tmp 18)) (g := a1) (off := 0) (i := 2) (v := (.agg #[(.string ⟨List.toArray f.1⟩), (.string ⟨List.toArray f.2.1⟩), (.int .i64 f.2.2)])) (cs' := #[(.string ⟨List.toArray f.1⟩), (.string ⟨List.toArray f.2.1⟩), (.int .i64 f.2.2)]) (d := none) (k := 5) K rfl K K q rfl K ?_
  intro c8 b3
  refine iR 1 7 [(5, (.bool true))] ?_
  refine iF ?_
  refine At.ret K ?_
  refine ⟨(.tuple #[(.agg #[(.string ⟨List.toArray f.1⟩), (.string ⟨List.toArray f.2.1⟩), (.int .i64 f.2.2)]), (.bool true)]), C2 K (J4 (a := 4) (t := 48) (g := a1) (off := 0) K (SP.get b3 (i := 2) rfl) K) (R4 (t := 5) K), ?_⟩
  obtain rfl := Qe H
  exact ⟨rfl, SP.sel b3 [] rfl rfl⟩
end Go.Proofs.YtmgfanhcdfobhaaGreatDoor
namespace Go.Proofs.YtmgfanhcdfobhaaGreatDoor
open Go.RowKit
def N4 (c : UInt8 → Int → Option (Bool)) (p1 : (List UInt8)) (p5 : (List UInt8)) (b : UInt8) (a : Int) : Option (Bool) :=
  (cond (decide (a < ((List.length p1 : Nat) : Int))) ((idx p1 a).bind fun d => ((idx p5 a).bind fun e => (c (Bc (bOr .u8 ((b).toNat : Int) (V7 .u8 ((d).toNat : Int) ((e).toNat : Int)))) (IntKind.wrap .i64 (a + 1))))) (some ((((b).toNat : Int) == 0))))
def N5 (p1 : (List UInt8)) (p5 : (List UInt8)) : Nat → UInt8 → Int → Option (Bool)
  | 0, _, _ => none
  | f + 1, a, b => N4  (N5 p1 p5 f) p1 p5 a b
def B7 (p1 : (List UInt8)) (p5 : (List UInt8)) : Option (Bool) :=
  (cond (((List.length p1 : Nat) : Int) != ((List.length p5 : Nat) : Int)) (some (false)) (N5 p1 p5 Zj (0 : UInt8) 0))
theorem It (A2 : Option Addr) (c3 : Nat) (A6 : Option Addr) (c7 : Nat) (p1 : (List UInt8)) (p5 : (List UInt8)) (w0 : World) (s : RdT eU8 w0 A2 c3 p1) (t : RdT eU8 w0 A6 c7 p5) (r : (Bool)) (H : B7 p1 p5 = some r) :
  Calls Tryz.prog 52 #[(.slice A2 (List.length p1) c3), (.slice A6 (List.length p5) c7)] w0 (fun e w' => e = .returned (.bool r) ∧ SP [] w0 w' []) := by
 unfold B7 at H
 refine Qs (n := 31) Tryz.func52 K K K ?_
 have u := Q0 [] w0
 refine aQ ?_
 refine aR ?_
 refine iR 1 1 [(4, (.bool false))] ?_
 refine iF ?_
 refine aQ ?_
 refine aQ ?_
 refine aR ?_
 refine iR 5 5 [(7, (.slice A2 (List.length p1) c3)), (8, (.int .i64 ((List.length p1 : Nat) : Int))), (9, (.slice A6 (List.length p5) c7)), (10, (.int .i64 ((List.length p5 : Nat) : Int))), (11, (.bool (((List.length p1 : Nat) : Int) != ((List.length p5 : Nat) : Int))))] ?_
 refine iF ?_
 refine V1 K (o := (.tmp 11)) K (b := (((List.length p1 : Nat) : Int) != ((List.length p5 : Nat) : Int))) K (fun p => ?_) (fun p => ?_)
 ·have H := ct H p
  refine aQ ?_
  refine aR ?_
  refine iR 1 1 [(4, (.bool false))] ?_
  refine iF ?_
  refine At.ret K ?_
  refine ⟨(.bool false), K, ?_⟩
  obtain rfl := Qe H
  exact ⟨rfl, SP.sel u [] rfl rfl⟩
 ·have H := cf H p
  refine At.skip K ?_
  refine aQ ?_
  refine aR ?_
  refine iR 1 1 [(5, (.int .u8 0))] ?_
  refine iF ?_
  refine aQ ?_
  refine aQ ?_
  refine aR ?_
  refine iR 3 3 [(12, (.slice A2 (List.length p1) c3)), (13, (.int .i64 ((List.length p1 : Nat) : Int))), (14, (.int .i64 0))] ?_
  refine iF ?_
  refine Z1 K (id := 0) K ?_
  refine Nl K (fun f1 ρ w => ∃ (f : UInt8) (a : Int), V6 ρ [(0, (.slice A2 (List.length p1) c3)), (1, (.slice A6 (List.length p5) c7)), (5, (.int .u8 ((f).toNat : Int))), (13, (.int .i64 ((List.length p1 : Nat) : Int))), (14, (.int .i64 a))] ∧ SP [] w0 w [] ∧ N5 p1 p5 f1 f a = some r) (by rintro ρ w ⟨f, a, hk, hs, H⟩; cases H) ?_ Zj ?_
  ·rintro f1 ρ c5 ⟨f, a, hk, v, H⟩
   refine At.known [(0, (.slice A2 (List.length p1) c3)), (1, (.slice A6 (List.length p5) c7)), (5, (.int .u8 ((f).toNat : Int))), (13, (.int .i64 ((List.length p1 : Nat) : Int))), (14, (.int .i64 a))] hk ?_
   replace H := (show N4 (N5 p1 p5 f1) p1 p5 f a = some r from H)
   unfold N4 at H
   refine aQ ?_
   refine aR ?_
   refine iR 1 1 [(15, (.bool (decide (a < ((List.length p1 : Nat) : Int)))))] ?_
   refine iF ?_
   refine aQ ?_
   refine V1 K (o := (.tmp 15)) K (b := (decide (a < ((List.length p1 : Nat) : Int)))) K (fun q => ?_) (fun q => ?_)
   ·have H := ct H q
    refine At.skip K ?_
    refine aQ ?_
    refine Z1 K (id := 1) K ?_
    refine aQ ?_
    refine aR ?_
    refine iR 2 2 [(16, (.int .i64 a)), (6, (.int .i64 a))] ?_
    refine iF ?_
    obtain ⟨g, y, z, a3, H⟩ := Qo H
    obtain ⟨h, a0, a1, a4, H⟩ := Qo H
    refine aG [GEq (.int .u8 ((f).toNat : Int)), GEq (.slice A2 (List.length p1) c3), GEq (.int .i64 a), Vr A2 eU8.sz a, GEq (.int .u8 ((g).toNat : Int)), GEq (.slice A6 (List.length p5) c7), GEq (.int .i64 a), Vr A6 eU8.sz a, GEq (.int .u8 ((h).toNat : Int)), GEq (.int .u8 (V7 .u8 ((g).toNat : Int) ((h).toNat : Int))), GEq (.int .u8 (bOr .u8 ((f).toNat : Int) (V7 .u8 ((g).toNat : Int) ((h).toNat : Int)))), GEq (.int .u8 (bOr .u8 ((f).toNat : Int) (V7 .u8 ((g).toNat : Int) ((h).toNat : Int))))] [] (tG [] w0 [] [([], [])]) 12 0 ⟨trivial, SP.drew v⟩ ?_ ?_
    iterate 12 refine And.intro ?_ ?_
    exact trivial
    ·exact oV (hC (hS 5 (.int .u8 ((f).toNat : Int))) (h0)) (.int .u8 ((f).toNat : Int))
    ·exact oV (hC (hS 0 (.slice A2 (List.length p1) c3)) (h0)) (.slice A2 (List.length p1) c3)
    ·exact oV (hC (hS 6 (.int .i64 a)) (h0)) (.int .i64 a)
    ·refine oL 0 ?_
     ·rintro ρ' w' hs i ⟨c6, a5⟩
      refine kM (kc (kA i 1 18) (kc (kA i 2 19) k0)) fun m => ?_
      refine Vi (e := eU8) (l := p1) (A := A2) (c := c3) (T := 52) (E := 5) (x := (.tmp 18)) (ix := (.tmp 19)) (ki := .i64) (iz := a) (d := (some 20)) (k := 3) K rfl K K K K (RdT.sp s a5) y z ?_
      intro a6 a7 a8 c8 hc131
      exact ⟨rfl, _, Qa m, ⟨a6, a7, a8, rfl⟩⟩
    ·refine oL 0 ?_
     ·rintro ρ' w' hs i ⟨c9, a9⟩
      obtain ⟨b0, b1, b2, b3⟩ := i 3 20 K
      refine kM (kc b3 k0) fun m => ?_
      refine sC 5 20 b0 (b1 + Int.toNat a * eU8.sz) (.int .u8 ((g).toNat : Int)) 21 (Qk (e := eU8) (Qh (RdT.sp s a9) b2 y z) a3 (j := 0) rfl) ?_
      exact eK m
    ·exact oV (hC (hS 1 (.slice A6 (List.length p5) c7)) (h0)) (.slice A6 (List.length p5) c7)
    ·exact oV (hC (hS 6 (.int .i64 a)) (h0)) (.int .i64 a)
    ·refine oL 0 ?_
     ·rintro ρ' w' hs i ⟨d0, b4⟩
      refine kM (kc (kA i 5 22) (kc (kA i 6 23) k0)) fun m => ?_
      refine Vi (e := eU8) (l := p5) (A := A6) (c := c7) (T := 52) (E := 5) (x := (.tmp 22)) (ix := (.tmp 23)) (ki := .i64) (iz := a) (d := (some 24)) (k := 7) K rfl K K K K (RdT.sp t b4) a0 a1 ?_
      intro b5 b6 b7 d1 hc143
      exact ⟨rfl, _, Qa m, ⟨b5, b6, b7, rfl⟩⟩
    ·refine oL 0 ?_
     ·rintro ρ' w' hs i ⟨d2, b8⟩
      obtain ⟨b9, c0, c1, c2⟩ := i 7 24 K
      refine kM (kc c2 k0) fun m => ?_
      refine sC 5 24 b9 (c0 + Int.toNat a * eU8.sz) (.int .u8 ((h).toNat : Int)) 25 (Qk (e := eU8) (Qh (RdT.sp t b8) c1 a0 a1) a4 (j := 0) rfl) ?_
      exact eK m
    ·exact oV (hC (hA 4 21) (hC (hA 8 25) (h0))) (.int .u8 (V7 .u8 ((g).toNat : Int) ((h).toNat : Int)))
    ·exact oV (hC (hA 0 17) (hC (hA 9 26) (h0))) (.int .u8 (bOr .u8 ((f).toNat : Int) (V7 .u8 ((g).toNat : Int) ((h).toNat : Int))))
    ·exact oV (hC (hA 10 27) (h0)) (.int .u8 (bOr .u8 ((f).toNat : Int) (V7 .u8 ((g).toNat : Int) ((h).toNat : Int))))
    ·rintro ρ' w' hs hf ⟨d3, a2⟩
     refine Q3 [(0, (.slice A2 (List.length p1) c3)), (1, (.slice A6 (List.length p5) c7)), (5, (.int .u8 (bOr .u8 ((f).toNat : Int) (V7 .u8 ((g).toNat : Int) ((h).toNat : Int))))), (13, (.int .i64 ((List.length p1 : Nat) : Int))), (14, (.int .i64 a))] ⟨(hs 0 K).trans K, (hs 1 K).trans K, hf 11 5 K, (hs 13 K).trans K, (hs 14 K).trans K, trivial⟩ ?_
     obtain ⟨d4, c4⟩ : ∃ x, w' = x := ⟨_, rfl⟩
     rw [c4] at a2 ⊢
     refine aR ?_
     refine iR 2 2 [(28, (.int .i64 (IntKind.wrap .i64 (a + 1)))), (14, (.int .i64 (IntKind.wrap .i64 (a + 1))))] ?_
     refine iF ?_
     exact ⟨(Bc (bOr .u8 ((f).toNat : Int) (V7 .u8 ((g).toNat : Int) ((h).toNat : Int)))), (IntKind.wrap .i64 (a + 1)), ⟨(by first | exact (by simp only [D5 (u8_or _ _)]; rfl) | rfl), (by first | exact (by simp only [D5 (u8_or _ _)]; rfl) | rfl), (by first | exact (by simp only [D5 (u8_or _ _)]; rfl) | rfl), (by first | exact (by simp only [D5 (u8_or _ _)]; rfl) | rfl), (by first | exact (by simp only [D5 (u8_or _ _)]; rfl) | rfl), trivial⟩, SP.sel a2 [] rfl rfl, H⟩
   ·have H := cf H q
    refine At.exit K (id := 0) K ?_
    refine aQ ?_
    refine aR ?_
    refine iR 3 3 [(29, (.int .u8 ((f).toNat : Int))), (30, (.bool (((f).toNat : Int) == 0))), (4, (.bool (((f).toNat : Int) == 0)))] ?_
    refine iF ?_
    refine At.ret K ?_
    refine ⟨(.bool (((f).toNat : Int) == 0)), K, ?_⟩
    obtain rfl := Qe H
    exact ⟨rfl, SP.sel v [] rfl rfl⟩
  ·exact ⟨(0 : UInt8), 0, ⟨K, K, K, K, K, trivial⟩, SP.sel u [] rfl rfl, H⟩
end Go.Proofs.YtmgfanhcdfobhaaGreatDoor
namespace Go.Proofs.YtmgfanhcdfobhaaGreatDoor
open Go.RowKit
def Rq (a : Int) (b : Int) (c : Int) (d : Int) (e : (List Qg)) : Option (Option (Int × Int × Int × Int × Uw)) :=
  ((Rf a b c d e).bind fun f => (cond (!f) (some none) (some (some (a, b, c, d, ([] : Uw))))))
theorem Rj (A6 : Option Addr) (c7 : Nat) (a : Int) (c : Int) (f : Int) (g : Int) (d9 : (List Va)) (w0 : World) (hL : Fn w0) (y : (dDS Js Ce).ok w0 (A6, c7, d9)) (r : (Option (Int × Int × Int × Int × Uw))) (H : Rq a c f g (List.map stT d9) = some r) :
  Calls Tryz.prog 18 #[(.agg #[(.int .i64 a), (.int .i64 c), (.int .i64 f), (.int .i64 g), (.slice A6 (List.length (List.map stT d9)) c7)])] w0 (fun e w' => match r with | none => e = .returned (.pointer none) ∧ SP [] w0 w' [] | some o => ∃ (q : Nat) (s : Nat), e = .returned (pt q 0) ∧ SP [] w0 w' [Qn q 79 #[(.int .i64 o.1), (.int .i64 o.2.1), (.int .i64 o.2.2.1), (.int .i64 o.2.2.2.1), (.slice A6 (List.length (List.map stT d9)) c7), (.map (some s))], V5 s o.2.2.2.2]) := by
 unfold Rq at H
 refine Qs (n := 10) Tryz.func18 K K K ?_
 have z := Q0 [] w0
 refine aQ ?_
 refine aR ?_
 refine iS 1 ?_
 refine Vn (t := 24) (x := (.tmp 0)) (v := (.agg #[(.int .i64 a), (.int .i64 c), (.int .i64 f), (.int .i64 g), (.slice A6 (List.length (List.map stT d9)) c7)])) (d := (some 1)) (k := 0) K rfl K z ?_
 intro u w32 h
 refine iR 1 2 [(2, (.pointer none))] ?_
 refine iF ?_
 refine aQ ?_
 refine aQ ?_
 refine aR ?_
 refine iS 1 ?_
 refine sL 24 1 u 0 0 (.agg #[(.int .i64 a), (.int .i64 c), (.int .i64 f), (.int .i64 g), (.slice A6 (List.length (List.map stT d9)) c7)]) 3 h rfl ?_
 obtain ⟨i, a0, H⟩ := Qb H
 refine iS 2 ?_
 refine cF 43 #[(.tmp 3)] #[24] 4 Tryz.call43 (Fa A6 c7 a c f g d9 w32 (Y9 hL (SP.keeps h)) (Dp.sp y h) i a0) ?_
 rintro e a3 ⟨rfl, w⟩
 refine ⟨_, rfl, ?_⟩
 have j := SP.call h w
 clear w
 refine iR 1 3 [(5, (.bool (!i)))] ?_
 refine iF ?_
 refine V1 K (o := (.tmp 5)) K (b := (!i)) K (fun l => ?_) (fun l => ?_)
 ·have H := ct H l
  refine aQ ?_
  refine aR ?_
  refine iR 1 1 [(2, (.pointer none))] ?_
  refine iF ?_
  refine At.ret K ?_
  refine ⟨(.pointer none), K, ?_⟩
  obtain rfl := Qe H
  exact ⟨rfl, SP.sel j [] rfl rfl⟩
 ·have H := cf H l
  refine At.skip K ?_
  refine aQ ?_
  refine aR ?_
  refine iS 1 ?_
  refine sL 24 1 u 0 0 (.agg #[(.int .i64 a), (.int .i64 c), (.int .i64 f), (.int .i64 g), (.slice A6 (List.length (List.map stT d9)) c7)]) 6 j rfl ?_
  refine iS 2 ?_
  refine M0 (T := 77) (dst := (some 7)) (o := 1) K rfl j ?_
  intro m a4 a1
  refine iR 1 3 [(8, (.agg #[(.int .i64 a), (.int .i64 c), (.int .i64 f), (.int .i64 g), (.slice A6 (List.length (List.map stT d9)) c7), (.map (some m))]))] ?_
  refine iS 4 ?_
  refine Vn (t := 79) (x := (.tmp 8)) (v := (.agg #[(.int .i64 a), (.int .i64 c), (.int .i64 f), (.int .i64 g), (.slice A6 (List.length (List.map stT d9)) c7), (.map (some m))])) (d := (some 9)) (k := 3) K rfl K a1 ?_
  intro p a5 a2
  refine iR 1 5 [(2, (pt p 0))] ?_
  refine iF ?_
  refine At.ret K ?_
  refine ⟨(pt p 0), K, ?_⟩
  obtain rfl := Qe H
  exact ⟨p, m, rfl, SP.sel a2 [2,1] rfl rfl⟩
def Ux (f : (List UInt8)) (g : (List UInt8)) (h : Int) (q5 : (List UInt8)) (q7 : (List UInt8)) (q9 : Int) (c : Int) (d : Int) (e : Int) (i : (List Qg)) (a : Uw) (j : Bool) : Option (Int × Int × Int × Int × Uw × Bool) :=
  ((chk (Nat.ble (List.length q5) 140737488355328 && Nat.ble (List.length q7) 140737488355328)).bind fun _ => ((chk (Nat.ble (List.length q5) 140737488355328 && Nat.ble (List.length q7) 140737488355328)).bind fun _ => ((some (Oo a (q5, q7) (IntKind.wrap .i64 ((Ro a (q5, q7)) + 1)))).bind fun b => ((chk (Nat.ble (List.length q5) 140737488355328 && Nat.ble (List.length q7) 140737488355328)).bind fun _ => (some (q9, c, d, e, b, ((Ro b (q5, q7)) == 1)))))))
theorem Ba {S : List Nat} (g4 : Nat) (g6 : Nat) (g8 : Nat) (a1 : Option Addr) (a2 : Nat) (c : Nat) (p : Nat) (q : Nat) (a3 : (List UInt8)) (a4 : (List UInt8)) (a5 : Int) (q5 : (List UInt8)) (q7 : (List UInt8)) (q9 : Int) (a6 : Int) (a7 : Int) (a8 : Int) (u : (List Va)) (j : Uw) (b0 : Bool) (w0 : World) (hO : SP S w0 w0 [Qn g4 9 #[(.string ⟨List.toArray q5⟩)], Qn g6 9 #[(.string ⟨List.toArray q7⟩)], Qn g8 79 #[(.int .i64 q9), (.int .i64 a6), (.int .i64 a7), (.int .i64 a8), (.slice a1 (List.length (List.map stT u)) a2), (.map (some c))], V5 c j, Qn p 29 #[(pt g8 0)], Qn q 4 #[(.bool b0)]]) (e6 : ∀ w, Mod S w0 w → (dDS Js Ce).ok w (a1, a2, u)) (r : (Int × Int × Int × Int × Uw × Bool)) (H : Ux a3 a4 a5 q5 q7 q9 a6 a7 a8 (List.map stT u) j b0 = some r) :
  Calls Tryz.prog 46 #[(.agg #[(.string ⟨List.toArray a3⟩), (.string ⟨List.toArray a4⟩), (.int .i64 a5)]), (pt g4 0), (pt g6 0), (pt p 0), (pt q 0)] w0 (fun e w' => e = .returned (.tuple #[]) ∧ SP S w0 w' [Qn g4 9 #[(.string ⟨List.toArray q5⟩)], Qn g6 9 #[(.string ⟨List.toArray q7⟩)], Qn g8 79 #[(.int .i64 r.1), (.int .i64 r.2.1), (.int .i64 r.2.2.1), (.int .i64 r.2.2.2.1), (.slice a1 (List.length (List.map stT u)) a2), (.map (some c))], V5 c r.2.2.2.2.1, Qn p 29 #[(pt g8 0)], Qn q 4 #[(.bool r.2.2.2.2.2)]]) := by
 unfold Ux at H
 refine Qs (n := 26) Tryz.func46 K K K ?_
 have c2 := hO
 refine aQ ?_
 refine aR ?_
 refine iS 1 ?_
 refine Vn (t := 48) (x := (.tmp 0)) (v := (.agg #[(.string ⟨List.toArray a3⟩), (.string ⟨List.toArray a4⟩), (.int .i64 a5)])) (d := (some 5)) (k := 0) K rfl K c2 ?_
 intro b2 e7 b5
 refine iF ?_
 refine aQ ?_
 refine aR ?_
 refine iS 1 ?_
 refine sL 9 1 g4 0 0 (.string ⟨List.toArray q5⟩) 7 b5 rfl ?_
 refine iS 2 ?_
 refine sL 9 2 g6 0 1 (.string ⟨List.toArray q7⟩) 8 b5 rfl ?_
 refine iR 1 3 [(9, (.agg (Qd Qx ([q5, q7] : List (List UInt8))).toArray))] ?_
 refine iS 4 ?_
 refine Q4 (e := Qx) (l := (List.replicate 2 ([] : List UInt8))) (m := 2) (t := 83) (z := .agg (Qd Qx (List.replicate 2 ([] : List UInt8))).toArray) (d := (some 6)) (k := 3) K rfl K rfl rfl K b5 ?_
 intro s e8 c3
 refine iS 5 ?_
 refine Vf (e := Qx) (l := (List.replicate 2 ([] : List UInt8))) (l' := ([q5, q7] : List (List UInt8))) (m := 2) (t := 83) (x := (.tmp 6)) (y := (.tmp 9)) (g := s) (i := 7) (d := none) (k := 4) K rfl K K rfl c3 rfl K ?_
 intro e9 c4
 refine iF ?_
 refine aQ ?_
 obtain ⟨b3, H⟩ := V4 H
 obtain ⟨b4, H⟩ := V4 H
 obtain ⟨a0, hyl137, H⟩ := Zk H
 refine aG [GEq (pt g8 0), GEq (pt g8 0), GEq (pt g8 5), GEq (.map (some c)), GEq (.agg (Qd Qx ([q5, q7] : List (List UInt8))).toArray), GEq (.int .i64 (Ro j (q5, q7))), GEq (.int .i64 (IntKind.wrap .i64 ((Ro j (q5, q7)) + 1))), Ey, Ey, Ey] [7, 8, 9] [([], fun vs w => VL vs [] ∧ SP S w0 w [Qn g4 9 #[(.string ⟨List.toArray q5⟩)], Qn g6 9 #[(.string ⟨List.toArray q7⟩)], Qn g8 79 #[(.int .i64 q9), (.int .i64 a6), (.int .i64 a7), (.int .i64 a8), (.slice a1 (List.length (List.map stT u)) a2), (.map (some c))], V5 c j, Qn p 29 #[(pt g8 0)], Qn q 4 #[(.bool b0)], Qn b2 48 #[(.string ⟨List.toArray a3⟩), (.string ⟨List.toArray a4⟩), (.int .i64 a5)], Vk 83 Qx s 2 ([q5, q7] : List (List UInt8))]), ([7], fun vs w => ∃ (b1 : Nat), VL vs [(.tuple #[(.int .i64 (Ro j (q5, q7))), (.int .i64 ((b1 : Nat) : Int))])] ∧ SP S w0 w [Qn g4 9 #[(.string ⟨List.toArray q5⟩)], Qn g6 9 #[(.string ⟨List.toArray q7⟩)], Qn g8 79 #[(.int .i64 q9), (.int .i64 a6), (.int .i64 a7), (.int .i64 a8), (.slice a1 (List.length (List.map stT u)) a2), (.map (some c))], Mw c j (q5, q7) b1, Qn p 29 #[(pt g8 0)], Qn q 4 #[(.bool b0)], Qn b2 48 #[(.string ⟨List.toArray a3⟩), (.string ⟨List.toArray a4⟩), (.int .i64 a5)], Vk 83 Qx s 2 ([q5, q7] : List (List UInt8))]), ([7, 8], fun vs w => ∃ (a9 : Nat), VL vs [(.tuple #[(.int .i64 (Ro j (q5, q7))), (.int .i64 ((a9 : Nat) : Int))]), (.int .i64 ((a9 : Nat) : Int))] ∧ SP S w0 w [Qn g4 9 #[(.string ⟨List.toArray q5⟩)], Qn g6 9 #[(.string ⟨List.toArray q7⟩)], Qn g8 79 #[(.int .i64 q9), (.int .i64 a6), (.int .i64 a7), (.int .i64 a8), (.slice a1 (List.length (List.map stT u)) a2), (.map (some c))], Mw c j (q5, q7) a9, Qn p 29 #[(pt g8 0)], Qn q 4 #[(.bool b0)], Qn b2 48 #[(.string ⟨List.toArray a3⟩), (.string ⟨List.toArray a4⟩), (.int .i64 a5)], Vk 83 Qx s 2 ([q5, q7] : List (List UInt8))]), ([7, 8, 9], fun vs w => ∃ (b6 : Nat), VL vs [(.tuple #[(.int .i64 (Ro j (q5, q7))), (.int .i64 ((b6 : Nat) : Int))]), (.int .i64 ((b6 : Nat) : Int)), undef] ∧ SP S w0 w [Qn g4 9 #[(.string ⟨List.toArray q5⟩)], Qn g6 9 #[(.string ⟨List.toArray q7⟩)], Qn g8 79 #[(.int .i64 q9), (.int .i64 a6), (.int .i64 a7), (.int .i64 a8), (.slice a1 (List.length (List.map stT u)) a2), (.map (some c))], V5 c a0, Qn p 29 #[(pt g8 0)], Qn q 4 #[(.bool b0)], Qn b2 48 #[(.string ⟨List.toArray a3⟩), (.string ⟨List.toArray a4⟩), (.int .i64 a5)], Vk 83 Qx s 2 ([q5, q7] : List (List UInt8))])] 10 3 ⟨trivial, SP.drew c4⟩ ?_ ?_
 iterate 10 refine And.intro ?_ ?_
 exact trivial
 ·refine oL 0 ?_
  ·rintro ρ' w' hs a ⟨f0, c5⟩
   refine kM (kc (kS hs 3 (pt p 0)) k0) fun f => ?_
   refine sL 29 3 p 0 4 (pt g8 0) 10 c5 rfl ?_
   exact eK f
 ·exact oV (hC (hA 0 10) (h0)) (pt g8 0)
 ·exact oV (hC (hA 1 11) (h0)) (pt g8 5)
 ·refine oL 0 ?_
  ·rintro ρ' w' hs a ⟨f1, c6⟩
   refine kM (kc (kA a 2 12) k0) fun f => ?_
   refine sL 77 12 g8 5 2 (.map (some c)) 13 c6 rfl ?_
   exact eK f
 ·refine oL 0 ?_
  ·rintro ρ' w' hs a ⟨f2, c7⟩
   refine kM (kc (kS hs 6 (pt s 0)) k0) fun f => ?_
   refine Zu (e := Qx) (l := ([q5, q7] : List (List UInt8))) (m := 2) (t := 83) (x := (.tmp 6)) (g := s) (i := 7) (d := (some 14)) (k := 4) K rfl K c7 rfl K K ?_
   exact eK f
 ·refine Owe.light K [0, 1, 2] K (Qf ?_ (Qf ?_ (Qf ?_ Q8)))
  ·rintro ρ' w' hs a ⟨f3, c8⟩
   refine kM (kc (kA a 3 13) (kc (kA a 4 14) k0)) fun f => ?_
   refine Et (T := 77) (kt := 83) (et := 3) (m := c) (L := j) (k := (q5, q7)) (x := (.tmp 13)) (ix := (.tmp 14)) (dst := (some 15)) (o := 5) K rfl K K K Cw (fun _ => rfl) (SP.get c8 (i := 3) rfl) (Lz b3).1 (Lz b3).2 ?_
   exact eK f
  ·rintro ρ' w' hs a ⟨b1, ⟨f4, -⟩, c9⟩
   refine kM (kc (kA a 3 13) (kc (kA a 4 14) k0)) fun f => ?_
   refine Ir (T := 77) (kt := 83) (et := 3) (m := c) (L := j) (k := (q5, q7)) (x := (.tmp 13)) (ix := (.tmp 14)) (dst := (some 15)) (o := 5) K rfl K K K Cw (fun _ => rfl) (SP.get c9 (i := 3) rfl) (Lz b3).1 (Lz b3).2 ?_
   exact eK f
  ·rintro ρ' w' hs a ⟨a9, ⟨f5, f6, -⟩, d0⟩
   refine kM (kc (kA a 3 13) (kc (kA a 4 14) k0)) fun f => ?_
   refine Ir (T := 77) (kt := 83) (et := 3) (m := c) (L := j) (k := (q5, q7)) (x := (.tmp 13)) (ix := (.tmp 14)) (dst := (some 15)) (o := 5) K rfl K K K Cw (fun _ => rfl) (SP.get d0 (i := 3) rfl) (Lz b3).1 (Lz b3).2 ?_
   exact eK f
 ·exact oV (hC (hA 5 15) (h0)) (.int .i64 (IntKind.wrap .i64 ((Ro j (q5, q7)) + 1)))
 ·refine oH 0 1 ?_
  ·rintro ρ' w' hs a ⟨f7, d1⟩
   refine kM (kc (kA a 3 13) (kc (kA a 4 14) k0)) fun f => ?_
   refine Lv (T := 77) (kt := 83) (et := 3) (m := c) (L := j) (k := (q5, q7)) (x := (.tmp 13)) (ix := (.tmp 14)) (dst := (some 17)) (o := 7) (i := 3) K rfl K K K Cw (fun _ => rfl) d1 rfl (Lz b4).1 (Lz b4).2 ?_
   intro d2 f8 d3
   refine ⟨_, Qa f, trivial, ?_⟩
   exact (Exists.intro d2 (And.intro (And.intro rfl (trivial)) (d3)))
 ·refine oH 1 2 ?_
  ·rintro ρ' w' hs a ⟨b1, ⟨b7, -⟩, d4⟩
   refine kN [(17, (.tuple #[(.int .i64 (Ro j (q5, q7))), (.int .i64 ((b1 : Nat) : Int))]))] ⟨(Jd (h := 7) K).symm.trans b7, trivial⟩ fun f => ?_
   refine Qi.run (k := 8) (v := (.int .i64 ((b1 : Nat) : Int))) K ?_
   refine ⟨_, Qa f, trivial, ?_⟩
   exact (Exists.intro b1 (And.intro (And.intro b7 (And.intro rfl (trivial))) (d4)))
 ·refine oH 2 3 ?_
  ·rintro ρ' w' hs a ⟨a9, ⟨d5, b8, -⟩, d6⟩
   refine kN [(13, (.map (some c))), (18, (.int .i64 ((a9 : Nat) : Int))), (16, (.int .i64 (IntKind.wrap .i64 ((Ro j (q5, q7)) + 1))))] ⟨a 3 13 K, (Jd (h := 8) K).symm.trans b8, a 6 16 K, trivial⟩ fun f => ?_
   refine Lw (T := 77) (m := c) (L := j) (k := (q5, q7)) (x := (.tmp 13)) (ix := (.tmp 18)) (y := (.tmp 16)) (i := 3) (b := a9) (v := (IntKind.wrap .i64 ((Ro j (q5, q7)) + 1))) (dst := none) (o := 9) K rfl K K K d6 rfl (Lz b4).1 (Lz b4).2 ?_
   rw [hyl137]
   intro f9 d7
   refine ⟨_, Qa f, trivial, ?_⟩
   exact (Exists.intro a9 (And.intro (And.intro d5 (And.intro b8 (And.intro rfl (trivial)))) (d7)))
 ·rintro ρ' w' hs hf ⟨b6, ⟨g0, g1, g2, -⟩, b9⟩
  refine Q3 [(3, (pt p 0)), (4, (pt q 0)), (6, (pt s 0))] ⟨(hs 3 K).trans K, (hs 4 K).trans K, (hs 6 K).trans K, trivial⟩ ?_
  obtain ⟨g3, d8⟩ : ∃ x, w' = x := ⟨_, rfl⟩
  rw [d8] at b9 ⊢
  obtain ⟨c0, H⟩ := V4 H
  refine aG [GEq (pt g8 0), GEq (pt g8 0), GEq (pt g8 5), GEq (.map (some c)), GEq (.agg (Qd Qx ([q5, q7] : List (List UInt8))).toArray), GEq (.int .i64 (Ro a0 (q5, q7))), GEq (.bool ((Ro a0 (q5, q7)) == 1)), Ey] [7] [sG [] [] S w0 [Qn g4 9 #[(.string ⟨List.toArray q5⟩)], Qn g6 9 #[(.string ⟨List.toArray q7⟩)], Qn g8 79 #[(.int .i64 q9), (.int .i64 a6), (.int .i64 a7), (.int .i64 a8), (.slice a1 (List.length (List.map stT u)) a2), (.map (some c))], V5 c a0, Qn p 29 #[(pt g8 0)], Qn q 4 #[(.bool b0)], Qn b2 48 #[(.string ⟨List.toArray a3⟩), (.string ⟨List.toArray a4⟩), (.int .i64 a5)], Vk 83 Qx s 2 ([q5, q7] : List (List UInt8))], sG [7] [undef] S w0 [Qn g4 9 #[(.string ⟨List.toArray q5⟩)], Qn g6 9 #[(.string ⟨List.toArray q7⟩)], Qn g8 79 #[(.int .i64 q9), (.int .i64 a6), (.int .i64 a7), (.int .i64 a8), (.slice a1 (List.length (List.map stT u)) a2), (.map (some c))], V5 c a0, Qn p 29 #[(pt g8 0)], Qn q 4 #[(.bool ((Ro a0 (q5, q7)) == 1))], Qn b2 48 #[(.string ⟨List.toArray a3⟩), (.string ⟨List.toArray a4⟩), (.int .i64 a5)], Vk 83 Qx s 2 ([q5, q7] : List (List UInt8))]] 8 1 ⟨trivial, SP.drew b9⟩ ?_ ?_
  iterate 8 refine And.intro ?_ ?_
  exact trivial
  ·refine oL 0 ?_
   ·rintro ρ' w' hs a ⟨g5, d9⟩
    refine kM (kc (kS hs 3 (pt p 0)) k0) fun f => ?_
    refine sL 29 3 p 0 4 (pt g8 0) 19 d9 rfl ?_
    exact eK f
  ·exact oV (hC (hA 0 19) (h0)) (pt g8 0)
  ·exact oV (hC (hA 1 20) (h0)) (pt g8 5)
  ·refine oL 0 ?_
   ·rintro ρ' w' hs a ⟨g7, e0⟩
    refine kM (kc (kA a 2 21) k0) fun f => ?_
    refine sL 77 21 g8 5 2 (.map (some c)) 22 e0 rfl ?_
    exact eK f
  ·refine oL 0 ?_
   ·rintro ρ' w' hs a ⟨g9, e1⟩
    refine kM (kc (kS hs 6 (pt s 0)) k0) fun f => ?_
    refine Zu (e := Qx) (l := ([q5, q7] : List (List UInt8))) (m := 2) (t := 83) (x := (.tmp 6)) (g := s) (i := 7) (d := (some 23)) (k := 4) K rfl K e1 rfl K K ?_
    exact eK f
  ·refine oL 0 ?_
   ·rintro ρ' w' hs a ⟨h1, e2⟩
    refine kM (kc (kA a 3 22) (kc (kA a 4 23) k0)) fun f => ?_
    refine Et (T := 77) (kt := 83) (et := 3) (m := c) (L := a0) (k := (q5, q7)) (x := (.tmp 22)) (ix := (.tmp 23)) (dst := (some 24)) (o := 5) K rfl K K K Cw (fun _ => rfl) (SP.get e2 (i := 3) rfl) (Lz c0).1 (Lz c0).2 ?_
    exact eK f
  ·exact oV (hC (hA 5 24) (h0)) (.bool ((Ro a0 (q5, q7)) == 1))
  ·refine oH 0 1 ?_
   ·rintro ρ' w' hs a ⟨h2, e3⟩
    refine kM (kc (kS hs 4 (pt q 0)) (kc (kA a 6 25) k0)) fun f => ?_
    refine Qi.store (t := 4) (x := (.tmp 4)) (y := (.tmp 25)) (g := q) (off := 0) (i := 5) (v := (.bool ((Ro a0 (q5, q7)) == 1))) (cs' := #[(.bool ((Ro a0 (q5, q7)) == 1))]) (d := none) (k := 7) K rfl K K e3 rfl K ?_
    intro h3 e4
    refine ⟨_, Qa f, trivial, ?_⟩
    exact (And.intro (And.intro rfl (trivial)) (e4))
  ·rintro ρ' w' hs hf ⟨⟨h4, -⟩, c1⟩
   refine Q3 [] trivial ?_
   obtain ⟨h5, e5⟩ : ∃ x, w' = x := ⟨_, rfl⟩
   rw [e5] at c1 ⊢
   refine ⟨(.tuple #[]), K, ?_⟩
   obtain rfl := Qe H
   exact ⟨rfl, SP.sel c1 [0,1,2,3,4,5] rfl rfl⟩
def Y6 (a : Bool) : Option (Bool) :=
  (some (a))
def Nj (f : (List UInt8)) (g : (List UInt8)) (c : Int) (q5 : Int) (q6 : Int) (q7 : Int) (q8 : Int) (q9 : (List Qg)) (d : Uw) (a : (List UInt8)) (b : (List UInt8)) (e : Int) (h : Bool) : Option (Bool) :=
  ((chk (Nat.ble (List.length a) 140737488355328 && Nat.ble (List.length b) 140737488355328)).bind fun _ => (cond ((Ro d (a, b)) == 0) (Y6 (decide (e < c))) (Y6 false)))
theorem Bo {S : List Nat} (g4 : Nat) (a5 : Option Addr) (a6 : Nat) (j : Nat) (u : Nat) (z : Nat) (a0 : Nat) (a2 : Nat) (a1 : Nat) (a7 : (List UInt8)) (a8 : (List UInt8)) (q : Int) (q5 : Int) (q6 : Int) (q7 : Int) (q8 : Int) (a3 : (List Va)) (h : Uw) (a : (List UInt8)) (b : (List UInt8)) (p : Int) (a9 : Bool) (w0 : World) (hO : SP S w0 w0 [Qn g4 79 #[(.int .i64 q5), (.int .i64 q6), (.int .i64 q7), (.int .i64 q8), (.slice a5 (List.length (List.map stT a3)) a6), (.map (some j))], V5 j h, Qn u 29 #[(pt g4 0)], Qn z 9 #[(.string ⟨List.toArray a⟩)], Qn a0 9 #[(.string ⟨List.toArray b⟩)], Qn a2 2 #[(.int .i64 p)], Qn a1 4 #[(.bool a9)]]) (d7 : ∀ w, Mod S w0 w → (dDS Js Ce).ok w (a5, a6, a3)) (r : (Bool)) (H : Nj a7 a8 q q5 q6 q7 q8 (List.map stT a3) h a b p a9 = some r) :
  Calls Tryz.prog 49 #[(.agg #[(.string ⟨List.toArray a7⟩), (.string ⟨List.toArray a8⟩), (.int .i64 q)]), (pt u 0), (pt z 0), (pt a0 0), (pt a2 0), (pt a1 0)] w0 (fun e w' => e = .returned (.tuple #[]) ∧ SP S w0 w' [Qn g4 79 #[(.int .i64 q5), (.int .i64 q6), (.int .i64 q7), (.int .i64 q8), (.slice a5 (List.length (List.map stT a3)) a6), (.map (some j))], V5 j h, Qn u 29 #[(pt g4 0)], Qn z 9 #[(.string ⟨List.toArray a⟩)], Qn a0 9 #[(.string ⟨List.toArray b⟩)], Qn a2 2 #[(.int .i64 p)], Qn a1 4 #[(.bool r)]]) := by
 unfold Nj at H
 refine Qs (n := 22) Tryz.func49 K K K ?_
 have b6 := hO
 refine aQ ?_
 refine aR ?_
 refine iS 1 ?_
 refine Vn (t := 48) (x := (.tmp 0)) (v := (.agg #[(.string ⟨List.toArray a7⟩), (.string ⟨List.toArray a8⟩), (.int .i64 q)])) (d := (some 6)) (k := 0) K rfl K b6 ?_
 intro a4 d8 b3
 refine iF ?_
 refine At.join (fun ρ w => ∃ (b1 : Bool), V6 ρ [] ∧ SP S w0 w [Qn g4 79 #[(.int .i64 q5), (.int .i64 q6), (.int .i64 q7), (.int .i64 q8), (.slice a5 (List.length (List.map stT a3)) a6), (.map (some j))], V5 j h, Qn u 29 #[(pt g4 0)], Qn z 9 #[(.string ⟨List.toArray a⟩)], Qn a0 9 #[(.string ⟨List.toArray b⟩)], Qn a2 2 #[(.int .i64 p)], Qn a1 4 #[(.bool b1)]] ∧ Y6 b1 = some r) ?_ ?_
 ·obtain ⟨b0, H⟩ := V4 H
  rcases Bool.eq_false_or_eq_true ((Ro h (a, b)) == 0) with s | s
  ·have H := ct H s
   refine aG [GEq (pt g4 0), GEq (pt g4 0), GEq (pt g4 5), GEq (.map (some j)), GEq (.string ⟨List.toArray a⟩), GEq (.string ⟨List.toArray b⟩), GEq (.agg (Qd Qx ([a, b] : List (List UInt8))).toArray), GEq (.int .i64 (Ro h (a, b))), GEq (.bool ((Ro h (a, b)) == 0)), GEq (.bool ((Ro h (a, b)) == 0)), GEq (.int .i64 p), GEq (pt a4 2), GEq (.int .i64 q), GEq (.bool (decide (p < q))), GEq (.bool (decide (p < q))), Ey] [15] [sG [] [] S w0 [Qn g4 79 #[(.int .i64 q5), (.int .i64 q6), (.int .i64 q7), (.int .i64 q8), (.slice a5 (List.length (List.map stT a3)) a6), (.map (some j))], V5 j h, Qn u 29 #[(pt g4 0)], Qn z 9 #[(.string ⟨List.toArray a⟩)], Qn a0 9 #[(.string ⟨List.toArray b⟩)], Qn a2 2 #[(.int .i64 p)], Qn a1 4 #[(.bool a9)], Qn a4 48 #[(.string ⟨List.toArray a7⟩), (.string ⟨List.toArray a8⟩), (.int .i64 q)]], sG [15] [undef] S w0 [Qn g4 79 #[(.int .i64 q5), (.int .i64 q6), (.int .i64 q7), (.int .i64 q8), (.slice a5 (List.length (List.map stT a3)) a6), (.map (some j))], V5 j h, Qn u 29 #[(pt g4 0)], Qn z 9 #[(.string ⟨List.toArray a⟩)], Qn a0 9 #[(.string ⟨List.toArray b⟩)], Qn a2 2 #[(.int .i64 p)], Qn a1 4 #[(.bool (decide (p < q)))], Qn a4 48 #[(.string ⟨List.toArray a7⟩), (.string ⟨List.toArray a8⟩), (.int .i64 q)]]] 16 1 ⟨trivial, SP.drew b3⟩ ?_ ?_
   iterate 16 refine And.intro ?_ ?_
   exact trivial
   ·refine oL 0 ?_
    ·rintro ρ' w' hs f ⟨d9, b7⟩
     refine kM (kc (kS hs 1 (pt u 0)) k0) fun c => ?_
     refine sL 29 1 u 0 2 (pt g4 0) 7 b7 rfl ?_
     exact eK c
   ·exact oV (hC (hA 0 7) (h0)) (pt g4 0)
   ·exact oV (hC (hA 1 8) (h0)) (pt g4 5)
   ·refine oL 0 ?_
    ·rintro ρ' w' hs f ⟨e0, b8⟩
     refine kM (kc (kA f 2 9) k0) fun c => ?_
     refine sL 77 9 g4 5 0 (.map (some j)) 10 b8 rfl ?_
     exact eK c
   ·refine oL 0 ?_
    ·rintro ρ' w' hs f ⟨e1, b9⟩
     refine kM (kc (kS hs 2 (pt z 0)) k0) fun c => ?_
     refine sL 9 2 z 0 3 (.string ⟨List.toArray a⟩) 11 b9 rfl ?_
     exact eK c
   ·refine oL 0 ?_
    ·rintro ρ' w' hs f ⟨e2, c0⟩
     refine kM (kc (kS hs 3 (pt a0 0)) k0) fun c => ?_
     refine sL 9 3 a0 0 4 (.string ⟨List.toArray b⟩) 12 c0 rfl ?_
     exact eK c
   ·exact oV (hC (hA 4 11) (hC (hA 5 12) (h0))) (.agg (Qd Qx ([a, b] : List (List UInt8))).toArray)
   ·refine oL 0 ?_
    ·rintro ρ' w' hs f ⟨e3, c1⟩
     refine kM (kc (kA f 3 10) (kc (kA f 6 13) k0)) fun c => ?_
     refine Et (T := 77) (kt := 83) (et := 3) (m := j) (L := h) (k := (a, b)) (x := (.tmp 10)) (ix := (.tmp 13)) (dst := (some 14)) (o := 7) K rfl K K K Cw (fun _ => rfl) (SP.get c1 (i := 1) rfl) (Lz b0).1 (Lz b0).2 ?_
     exact eK c
   ·exact oV (hC (hA 7 14) (h0)) (.bool ((Ro h (a, b)) == 0))
   ·exact oV (hC (hA 8 15) (h0)) (.bool ((Ro h (a, b)) == 0))
   ·refine oL 0 ?_
    ·rintro ρ' w' hs f ⟨e5, c2⟩
     have e4 : ρ' 4 = (pt a2 0) := (hs 4 K).trans K
     have b2 := f 9 16 K
     refine kN [(4, (pt a2 0)), (16, (.bool true))] ⟨e4, (Eq.trans b2 (congrArg Value.bool s)), trivial⟩ fun c => ?_
     refine sL 2 4 a2 0 5 (.int .i64 p) 17 c2 rfl ?_
     exact eK c
   ·exact oV (hC (hS 6 (pt a4 0)) (hC (hB 9 16 s) (h0))) (pt a4 2)
   ·refine oL 0 ?_
    ·rintro ρ' w' hs f ⟨e6, c3⟩
     have c4 := f 11 18 K
     have b2 := f 9 16 K
     refine kN [(18, (pt a4 2)), (16, (.bool true))] ⟨c4, (Eq.trans b2 (congrArg Value.bool s)), trivial⟩ fun c => ?_
     refine sL 2 18 a4 2 7 (.int .i64 q) 19 c3 rfl ?_
     exact eK c
   ·exact oV (hC (hA 10 17) (hC (hA 12 19) (hC (hB 9 16 s) (h0)))) (.bool (decide (p < q)))
   ·exact oV (hC (hB 9 16 s) (hC (hA 13 20) (h0))) (.bool (decide (p < q)))
   ·refine oH 0 1 ?_
    ·rintro ρ' w' hs f ⟨e7, c5⟩
     refine kM (kc (kS hs 5 (pt a1 0)) (kc (kA f 14 21) k0)) fun c => ?_
     refine Qi.store (t := 4) (x := (.tmp 5)) (y := (.tmp 21)) (g := a1) (off := 0) (i := 6) (v := (.bool (decide (p < q)))) (cs' := #[(.bool (decide (p < q)))]) (d := none) (k := 15) K rfl K K c5 rfl K ?_
     intro e8 c6
     refine ⟨_, Qa c, trivial, ?_⟩
     exact (And.intro (And.intro rfl (trivial)) (c6))
   ·rintro ρ' w' hs hf ⟨⟨e9, -⟩, b4⟩
    refine Q3 [] trivial ?_
    obtain ⟨f0, c7⟩ : ∃ x, w' = x := ⟨_, rfl⟩
    rw [c7] at b4 ⊢
    exact ⟨(decide (p < q)), trivial, SP.sel b4 [0, 1, 2, 3, 4, 5, 6] rfl rfl, H⟩
  ·have H := cf H s
   refine aG [GEq (pt g4 0), GEq (pt g4 0), GEq (pt g4 5), GEq (.map (some j)), GEq (.string ⟨List.toArray a⟩), GEq (.string ⟨List.toArray b⟩), GEq (.agg (Qd Qx ([a, b] : List (List UInt8))).toArray), GEq (.int .i64 (Ro h (a, b))), GEq (.bool ((Ro h (a, b)) == 0)), GEq (.bool ((Ro h (a, b)) == 0)), GEq undef, GEq undef, GEq undef, GEq undef, GEq (.bool false), Ey] [15] [sG [] [] S w0 [Qn g4 79 #[(.int .i64 q5), (.int .i64 q6), (.int .i64 q7), (.int .i64 q8), (.slice a5 (List.length (List.map stT a3)) a6), (.map (some j))], V5 j h, Qn u 29 #[(pt g4 0)], Qn z 9 #[(.string ⟨List.toArray a⟩)], Qn a0 9 #[(.string ⟨List.toArray b⟩)], Qn a2 2 #[(.int .i64 p)], Qn a1 4 #[(.bool a9)], Qn a4 48 #[(.string ⟨List.toArray a7⟩), (.string ⟨List.toArray a8⟩), (.int .i64 q)]], sG [15] [undef] S w0 [Qn g4 79 #[(.int .i64 q5), (.int .i64 q6), (.int .i64 q7), (.int .i64 q8), (.slice a5 (List.length (List.map stT a3)) a6), (.map (some j))], V5 j h, Qn u 29 #[(pt g4 0)], Qn z 9 #[(.string ⟨List.toArray a⟩)], Qn a0 9 #[(.string ⟨List.toArray b⟩)], Qn a2 2 #[(.int .i64 p)], Qn a1 4 #[(.bool false)], Qn a4 48 #[(.string ⟨List.toArray a7⟩), (.string ⟨List.toArray a8⟩), (.int .i64 q)]]] 16 1 ⟨trivial, SP.drew b3⟩ ?_ ?_
   iterate 16 refine And.intro ?_ ?_
   exact trivial
   ·refine oL 0 ?_
    ·rintro ρ' w' hs f ⟨f1, c8⟩
     refine kM (kc (kS hs 1 (pt u 0)) k0) fun c => ?_
     refine sL 29 1 u 0 2 (pt g4 0) 7 c8 rfl ?_
     exact eK c
   ·exact oV (hC (hA 0 7) (h0)) (pt g4 0)
   ·exact oV (hC (hA 1 8) (h0)) (pt g4 5)
   ·refine oL 0 ?_
    ·rintro ρ' w' hs f ⟨f2, c9⟩
     refine kM (kc (kA f 2 9) k0) fun c => ?_
     refine sL 77 9 g4 5 0 (.map (some j)) 10 c9 rfl ?_
     exact eK c
   ·refine oL 0 ?_
    ·rintro ρ' w' hs f ⟨f3, d0⟩
     refine kM (kc (kS hs 2 (pt z 0)) k0) fun c => ?_
     refine sL 9 2 z 0 3 (.string ⟨List.toArray a⟩) 11 d0 rfl ?_
     exact eK c
   ·refine oL 0 ?_
    ·rintro ρ' w' hs f ⟨f4, d1⟩
     refine kM (kc (kS hs 3 (pt a0 0)) k0) fun c => ?_
     refine sL 9 3 a0 0 4 (.string ⟨List.toArray b⟩) 12 d1 rfl ?_
     exact eK c
   ·exact oV (hC (hA 4 11) (hC (hA 5 12) (h0))) (.agg (Qd Qx ([a, b] : List (List UInt8))).toArray)
   ·refine oL 0 ?_
    ·rintro ρ' w' hs f ⟨f5, d2⟩
     refine kM (kc (kA f 3 10) (kc (kA f 6 13) k0)) fun c => ?_
     refine Et (T := 77) (kt := 83) (et := 3) (m := j) (L := h) (k := (a, b)) (x := (.tmp 10)) (ix := (.tmp 13)) (dst := (some 14)) (o := 7) K rfl K K K Cw (fun _ => rfl) (SP.get d2 (i := 1) rfl) (Lz b0).1 (Lz b0).2 ?_
     exact eK c
   ·exact oV (hC (hA 7 14) (h0)) (.bool ((Ro h (a, b)) == 0))
   ·exact oV (hC (hA 8 15) (h0)) (.bool ((Ro h (a, b)) == 0))
   ·exact oW (hC (hB 9 16 s) (h0)) 17
   ·exact oW (hC (hB 9 16 s) (h0)) 18
   ·exact oW (hC (hB 9 16 s) (h0)) 19
   ·exact oW (hC (hB 9 16 s) (h0)) 20
   ·exact oV (hC (hB 9 16 s) (hC (hA 13 20) (h0))) (.bool false)
   ·refine oH 0 1 ?_
    ·rintro ρ' w' hs f ⟨f6, d3⟩
     refine kM (kc (kS hs 5 (pt a1 0)) (kc (kA f 14 21) k0)) fun c => ?_
     refine Qi.store (t := 4) (x := (.tmp 5)) (y := (.tmp 21)) (g := a1) (off := 0) (i := 6) (v := (.bool false)) (cs' := #[(.bool false)]) (d := none) (k := 15) K rfl K K d3 rfl K ?_
     intro f7 d4
     refine ⟨_, Qa c, trivial, ?_⟩
     exact (And.intro (And.intro rfl (trivial)) (d4))
   ·rintro ρ' w' hs hf ⟨⟨f8, -⟩, b5⟩
    refine Q3 [] trivial ?_
    obtain ⟨f9, d5⟩ : ∃ x, w' = x := ⟨_, rfl⟩
    rw [d5] at b5 ⊢
    exact ⟨false, trivial, SP.sel b5 [0, 1, 2, 3, 4, 5, 6] rfl rfl, H⟩
 ·rintro ρ g0 ⟨b1, hk, d6, H⟩
  unfold Y6 at H
  first | refine At.known [] hk ?_ | rw [← Qv (l := []) hk]
  refine ⟨(.tuple #[]), K, ?_⟩
  obtain rfl := Qe H
  exact ⟨rfl, SP.sel d6 [0,1,2,3,4,5,6] rfl rfl⟩
def Nk (c : (List UInt8)) (a : (List UInt8)) (d : Int) (q5 : (List UInt8)) (q7 : (List UInt8)) (q9 : (List UInt8)) (e : (List UInt8)) : Option ((List UInt8)) :=
  ((chk (Nat.ble (List.length a) 281474976710656)).bind fun _ => ((Cs a ([q5, q7, q9] : List (List UInt8))).bind fun b => (some (b))))
theorem Bp {S : List Nat} (g4 : Nat) (g6 : Nat) (g8 : Nat) (b : Nat) (c : (List UInt8)) (a : (List UInt8)) (f : Int) (q5 : (List UInt8)) (q7 : (List UInt8)) (q9 : (List UInt8)) (j : (List UInt8)) (w0 : World) (hO : SP S w0 w0 [Qn g4 9 #[(.string ⟨List.toArray q5⟩)], Qn g6 9 #[(.string ⟨List.toArray q7⟩)], Qn g8 9 #[(.string ⟨List.toArray q9⟩)], Qn b 9 #[(.string ⟨List.toArray j⟩)]])  (r : ((List UInt8))) (H : Nk c a f q5 q7 q9 j = some r) :
  Calls Tryz.prog 50 #[(.agg #[(.string ⟨List.toArray c⟩), (.string ⟨List.toArray a⟩), (.int .i64 f)]), (pt g4 0), (pt g6 0), (pt g8 0), (pt b 0)] w0 (fun e w' => e = .returned (.tuple #[]) ∧ SP S w0 w' [Qn g4 9 #[(.string ⟨List.toArray q5⟩)], Qn g6 9 #[(.string ⟨List.toArray q7⟩)], Qn g8 9 #[(.string ⟨List.toArray q9⟩)], Qn b 9 #[(.string ⟨List.toArray r⟩)]]) := by
 unfold Nk at H
 refine Qs (n := 14) Tryz.func50 K K K ?_
 have a0 := hO
 refine aQ ?_
 refine aR ?_
 refine iS 1 ?_
 refine Vn (t := 48) (x := (.tmp 0)) (v := (.agg #[(.string ⟨List.toArray c⟩), (.string ⟨List.toArray a⟩), (.int .i64 f)])) (d := (some 5)) (k := 0) K rfl K a0 ?_
 intro m a8 q
 refine iF ?_
 refine aR ?_
 refine iR 1 1 [(6, (pt m 1))] ?_
 refine iS 2 ?_
 refine sL 9 6 m 1 4 (.string ⟨List.toArray a⟩) 7 q rfl ?_
 obtain ⟨a1, H⟩ := V4 H
 refine iS 3 ?_
 refine Bd (S' := 9) (T := 52) (E := 5) (x := (.tmp 7)) (l := a) (d := (some 8)) (k := 2) K rfl K K K K (Be a1) q ?_
 intro s u a2 w _
 have h : SP S w0 a2 [Qn g4 9 #[(.string ⟨List.toArray q5⟩)], Qn g6 9 #[(.string ⟨List.toArray q7⟩)], Qn g8 9 #[(.string ⟨List.toArray q9⟩)], Qn b 9 #[(.string ⟨List.toArray j⟩)], Qn m 48 #[(.string ⟨List.toArray c⟩), (.string ⟨List.toArray a⟩), (.int .i64 f)], rdE eU8 (some ⟨s, 0, none⟩) u a] := w
 clear w
 refine iS 4 ?_
 refine sL 9 1 g4 0 0 (.string ⟨List.toArray q5⟩) 9 h rfl ?_
 refine iS 5 ?_
 refine sL 9 2 g6 0 1 (.string ⟨List.toArray q7⟩) 10 h rfl ?_
 refine iS 6 ?_
 refine sL 9 3 g8 0 2 (.string ⟨List.toArray q9⟩) 11 h rfl ?_
 refine iS 7 ?_
 refine Zv (e := Qx) (T := 53) (E := 9) (len := 3) (parts := #[(0, (.tmp 9)), (1, (.tmp 10)), (2, (.tmp 11))]) (cs := #[(.string ⟨List.toArray q5⟩), (.string ⟨List.toArray q7⟩), (.string ⟨List.toArray q9⟩)]) ([q5, q7, q9] : List (List UInt8)) (d := (some 12)) (k := 6) K rfl (fun _ => K) h rfl rfl rfl rfl ?_
 intro a3 a4 o
 obtain ⟨p, a5, H⟩ := Qb H
 refine iS 8 ?_
 refine cF 51 #[(.tmp 8), (.tmp 12)] #[52, 53] 13 Tryz.call51 (Hu (some ⟨s, 0, none⟩) u (some ⟨a3, 0, none⟩) (List.length ([q5, q7, q9] : List (List UInt8))) a ([q5, q7, q9] : List (List UInt8)) a4 (Oa (SP.get o (i := 5) rfl)) (Vs (SP.get o (i := 6) rfl)) p a5) ?_
 rintro e a9 ⟨rfl, z⟩
 refine ⟨_, rfl, ?_⟩
 have a6 := SP.call o z
 clear z
 refine iS 9 ?_
 refine Qi.store (t := 9) (x := (.tmp 4)) (y := (.tmp 13)) (g := b) (off := 0) (i := 3) (v := (.string ⟨List.toArray p⟩)) (cs' := #[(.string ⟨List.toArray p⟩)]) (d := none) (k := 8) K rfl K K a6 rfl K ?_
 intro b0 a7
 refine iF ?_
 refine ⟨(.tuple #[]), K, ?_⟩
 obtain rfl := Qe H
 exact ⟨rfl, SP.sel a7 [0,1,2,3] rfl rfl⟩
def Zd (a : Int) (b : Int) (c : Int) (d : Int) (e : Uw) (f : Bool) : Option (Int × Int × Int × Int × Uw × Bool) :=
  (some (a, b, c, d, e, f))
def Xg (q2 : Int) (q3 : Int) (q4 : Int) (q5 : Int) (q6 : (List Qg)) (d : Uw) (f : (List UInt8)) (g : (List UInt8)) (h : (List UInt8)) (i : (List UInt8)) (e : Bool) : Option (Int × Int × Int × Int × Uw × Bool) :=
  ((N3 q2 q3 q4 q5 q6 f).bind fun b => ((Nf b.1 b.2.1 b.2.2.1 b.2.2.2.1 b.2.2.2.2.1 g).bind fun c => (cond c.2.2.2 ((Ux c.1 c.2.1 c.2.2.1 h i q2 q3 q4 q5 q6 d e).bind fun a => (Zd a.1 a.2.1 a.2.2.1 a.2.2.2.1 a.2.2.2.2.1 a.2.2.2.2.2)) (Zd q2 q3 q4 q5 d e))))
theorem Gx {S : List Nat} (g1 : Nat) (A7 : Option Addr) (c8 : Nat) (j : Nat) (p : Nat) (q : Nat) (s : Nat) (u : Nat) (q2 : Int) (q3 : Int) (q4 : Int) (q5 : Int) (m : (List Va)) (a7 : Uw) (a8 : (List UInt8)) (a9 : (List UInt8)) (a4 : (List UInt8)) (a5 : (List UInt8)) (b0 : Bool) (w0 : World) (hO : SP S w0 w0 [Qn g1 79 #[(.int .i64 q2), (.int .i64 q3), (.int .i64 q4), (.int .i64 q5), (.slice A7 (List.length (List.map stT m)) c8), (.map (some j))], V5 j a7, Qn p 9 #[(.string ⟨List.toArray a4⟩)], Qn q 9 #[(.string ⟨List.toArray a5⟩)], Qn s 29 #[(pt g1 0)], Qn u 4 #[(.bool b0)]]) (c3 : ∀ w, Mod S w0 w → (dDS Js Ce).ok w (A7, c8, m)) (r : (Int × Int × Int × Int × Uw × Bool)) (H : Xg q2 q3 q4 q5 (List.map stT m) a7 a8 a9 a4 a5 b0 = some r) :
  Calls Tryz.prog 45 #[(pt g1 0), (.string ⟨List.toArray a8⟩), (.string ⟨List.toArray a9⟩), (.func (.func 46) #[] #[(pt p 0), (pt q 0), (pt s 0), (pt u 0)])] w0 (fun e w' => e = .returned (.tuple #[]) ∧ SP S w0 w' [Qn g1 79 #[(.int .i64 r.1), (.int .i64 r.2.1), (.int .i64 r.2.2.1), (.int .i64 r.2.2.2.1), (.slice A7 (List.length (List.map stT m)) c8), (.map (some j))], V5 j r.2.2.2.2.1, Qn p 9 #[(.string ⟨List.toArray a4⟩)], Qn q 9 #[(.string ⟨List.toArray a5⟩)], Qn s 29 #[(pt g1 0)], Qn u 4 #[(.bool r.2.2.2.2.2)]]) := by
 unfold Xg at H
 refine Qs (n := 31) Tryz.func45 K K K ?_
 have b2 := hO
 refine aQ ?_
 refine aR ?_
 refine iR 3 3 [(13, (pt g1 0)), (14, (pt g1 0)), (15, (pt g1 0))] ?_
 refine iS 4 ?_
 refine sL 24 15 g1 0 0 (.agg #[(.int .i64 q2), (.int .i64 q3), (.int .i64 q4), (.int .i64 q5), (.slice A7 (List.length (List.map stT m)) c8)]) 16 b2 rfl ?_
 refine iR 1 5 [(17, (.string ⟨List.toArray a8⟩))] ?_
 obtain ⟨a, c7, H⟩ := Qb H
 refine iS 6 ?_
 refine cF 67 #[(.tmp 16), (.tmp 17)] #[24, 9] 18 Tryz.call67 (R1 (R := fun w => Mod S w0 w) A7 c8 q2 q3 q4 q5 m a8 w0 (fun w hb => Hz b2 hb) c3 a c7) ?_
 rintro e e1 ⟨a0, a1, a2, a3, rfl, c9, d0, c4⟩
 refine ⟨_, rfl, ?_⟩
 have d1 := SP.call b2 c4
 clear c4
 refine iR 3 9 [(12, (.tuple #[(.agg #[(.string ⟨List.toArray a.1⟩), (.int .i64 a.2.1), (.int .i64 a.2.2.1), (.slice a0 (List.length a.2.2.2.1) a1), (.slice a2 (List.length a.2.2.2.2.1) a3)]), (.bool a.2.2.2.2.2)])), (19, (.agg #[(.string ⟨List.toArray a.1⟩), (.int .i64 a.2.1), (.int .i64 a.2.2.1), (.slice a0 (List.length a.2.2.2.1) a1), (.slice a2 (List.length a.2.2.2.2.1) a3)])), (20, (.bool a.2.2.2.2.2))] ?_
 refine iS 10 ?_
 refine Qi.alloc (t := 44) (z := (.agg #[(.string ⟨List.toArray ([] : List UInt8)⟩), (.int .i64 0), (.int .i64 0), (.slice none (List.length ([] : List (Int × Int))) 0), (.slice none (List.length ([] : List ((List UInt8) × (List UInt8) × Int))) 0)])) (d := (some 8)) (k := 9) K rfl K d1 ?_
 intro b3 e2 d2
 refine iS 11 ?_
 refine Qi.store (t := 44) (x := (.tmp 8)) (y := (.tmp 19)) (g := b3) (off := 0) (i := 6) (v := (.agg #[(.string ⟨List.toArray a.1⟩), (.int .i64 a.2.1), (.int .i64 a.2.2.1), (.slice a0 (List.length a.2.2.2.1) a1), (.slice a2 (List.length a.2.2.2.2.1) a3)])) (cs' := #[(.string ⟨List.toArray a.1⟩), (.int .i64 a.2.1), (.int .i64 a.2.2.1), (.slice a0 (List.length a.2.2.2.1) a1), (.slice a2 (List.length a.2.2.2.2.1) a3)]) (d := none) (k := 10) K rfl K K d2 rfl K ?_
 intro b4 b1
 refine iR 1 12 [(9, (.bool a.2.2.2.2.2))] ?_
 refine iF ?_
 refine aQ ?_
 refine aR ?_
 refine iS 1 ?_
 refine sL 44 8 b3 0 6 (.agg #[(.string ⟨List.toArray a.1⟩), (.int .i64 a.2.1), (.int .i64 a.2.2.1), (.slice a0 (List.length a.2.2.2.1) a1), (.slice a2 (List.length a.2.2.2.2.1) a3)]) 22 b1 rfl ?_
 refine iR 1 2 [(23, (.string ⟨List.toArray a9⟩))] ?_
 obtain ⟨c, d3, H⟩ := Qb H
 refine iS 3 ?_
 refine cF 68 #[(.tmp 22), (.tmp 23)] #[44, 9] 24 Tryz.call68 (Rp a0 a1 a2 a3 a.1 a.2.1 a.2.2.1 a.2.2.2.1 a.2.2.2.2.1 a9 b4 (c9 b4 (SP.mod b1)) (d0 b4 (SP.mod b1)) c d3) ?_
 rintro e e3 ⟨rfl, c5⟩
 refine ⟨_, rfl, ?_⟩
 have d4 := SP.call b1 c5
 clear c5
 refine iR 3 6 [(21, (.tuple #[(.agg #[(.string ⟨List.toArray c.1⟩), (.string ⟨List.toArray c.2.1⟩), (.int .i64 c.2.2.1)]), (.bool c.2.2.2)])), (25, (.agg #[(.string ⟨List.toArray c.1⟩), (.string ⟨List.toArray c.2.1⟩), (.int .i64 c.2.2.1)])), (26, (.bool c.2.2.2))] ?_
 refine iS 7 ?_
 refine Qi.alloc (t := 48) (z := (.agg #[(.string ⟨List.toArray ([] : List UInt8)⟩), (.string ⟨List.toArray ([] : List UInt8)⟩), (.int .i64 0)])) (d := (some 10)) (k := 6) K rfl K d4 ?_
 intro b5 e4 d5
 refine iS 8 ?_
 refine Qi.store (t := 48) (x := (.tmp 10)) (y := (.tmp 25)) (g := b5) (off := 0) (i := 7) (v := (.agg #[(.string ⟨List.toArray c.1⟩), (.string ⟨List.toArray c.2.1⟩), (.int .i64 c.2.2.1)])) (cs' := #[(.string ⟨List.toArray c.1⟩), (.string ⟨List.toArray c.2.1⟩), (.int .i64 c.2.2.1)]) (d := none) (k := 7) K rfl K K d5 rfl K ?_
 intro d6 a6
 refine iR 1 9 [(11, (.bool c.2.2.2))] ?_
 refine iF ?_
 refine aQ ?_
 refine aR ?_
 refine iR 1 1 [(27, (.bool c.2.2.2))] ?_
 refine iF ?_
 refine At.join (fun ρ w => ∃ (b6 : Int) (b7 : Int) (b8 : Int) (b9 : Int) (c0 : Uw) (c1 : Bool), V6 ρ [] ∧ SP S w0 w [Qn g1 79 #[(.int .i64 b6), (.int .i64 b7), (.int .i64 b8), (.int .i64 b9), (.slice A7 (List.length (List.map stT m)) c8), (.map (some j))], V5 j c0, Qn p 9 #[(.string ⟨List.toArray a4⟩)], Qn q 9 #[(.string ⟨List.toArray a5⟩)], Qn s 29 #[(pt g1 0)], Qn u 4 #[(.bool c1)]] ∧ Zd b6 b7 b8 b9 c0 c1 = some r) ?_ ?_
 ·refine V1 K (o := (.tmp 27)) K (b := c.2.2.2) K (fun c2 => ?_) (fun c2 => ?_)
  ·have H := ct H c2
   refine aR ?_
   refine iR 1 1 [(28, (.func (.func 46) #[] #[(pt p 0), (pt q 0), (pt s 0), (pt u 0)]))] ?_
   refine iS 2 ?_
   refine sL 48 10 b5 0 7 (.agg #[(.string ⟨List.toArray c.1⟩), (.string ⟨List.toArray c.2.1⟩), (.int .i64 c.2.2.1)]) 29 a6 rfl ?_
   obtain ⟨h, d7, H⟩ := Qb H
   refine iS 3 ?_
   refine Jj (f := 46) (fo := (.tmp 28)) (xs := #[(.tmp 29)]) (tys := #[48]) (first := #[]) (captured := #[(pt p 0), (pt q 0), (pt s 0), (pt u 0)]) (d := (some 30)) (k := 2) K rfl K K Tryz.call46 (Ba p q g1 A7 c8 j s u c.1 c.2.1 c.2.2.1 a4 a5 q2 q3 q4 q5 m a7 b0 d6 (Yd a6 [2, 3, 0, 1, 4, 5] rfl rfl) (fun w hm => c3 w (SP.through a6 (l := [2, 3, 0, 1, 4, 5]) rfl hm)) h d7) ?_
   rintro e d8 ⟨rfl, c6⟩
   refine ⟨_, rfl, ?_⟩
   have d9 : SP S w0 d8 [Qn b3 44 #[(.string ⟨List.toArray a.1⟩), (.int .i64 a.2.1), (.int .i64 a.2.2.1), (.slice a0 (List.length a.2.2.2.1) a1), (.slice a2 (List.length a.2.2.2.2.1) a3)], Qn b5 48 #[(.string ⟨List.toArray c.1⟩), (.string ⟨List.toArray c.2.1⟩), (.int .i64 c.2.2.1)], Qn p 9 #[(.string ⟨List.toArray a4⟩)], Qn q 9 #[(.string ⟨List.toArray a5⟩)], Qn g1 79 #[(.int .i64 h.1), (.int .i64 h.2.1), (.int .i64 h.2.2.1), (.int .i64 h.2.2.2.1), (.slice A7 (List.length (List.map stT m)) c8), (.map (some j))], V5 j h.2.2.2.2.1, Qn s 29 #[(pt g1 0)], Qn u 4 #[(.bool h.2.2.2.2.2)]] := Vv a6 [2, 3, 0, 1, 4, 5] [6, 7] rfl rfl c6 rfl
   clear c6
   refine iF ?_
   exact ⟨h.1, h.2.1, h.2.2.1, h.2.2.2.1, h.2.2.2.2.1, h.2.2.2.2.2, trivial, SP.sel d9 [4, 5, 2, 3, 6, 7] rfl rfl, H⟩
  ·have H := cf H c2
   refine At.skip K ?_
   exact ⟨q2, q3, q4, q5, a7, b0, trivial, SP.sel a6 [0, 1, 2, 3, 4, 5] rfl rfl, H⟩
 ·rintro ρ e5 ⟨b6, b7, b8, b9, c0, c1, hk, e0, H⟩
  unfold Zd at H
  first | refine At.known [] hk ?_ | rw [← Qv (l := []) hk]
  refine ⟨(.tuple #[]), K, ?_⟩
  obtain rfl := Qe H
  exact ⟨rfl, SP.sel e0 [0,1,2,3,4,5] rfl rfl⟩
def Zn (a : Bool) : Option (Bool) :=
  (some (a))
def Xu (q2 : Int) (q3 : Int) (q4 : Int) (q5 : Int) (q6 : (List Qg)) (d : Uw) (e : (List UInt8)) (f : (List UInt8)) (g : (List UInt8)) (h : (List UInt8)) (i : Int) (c : Bool) : Option (Bool) :=
  ((N3 q2 q3 q4 q5 q6 e).bind fun a => ((Nf a.1 a.2.1 a.2.2.1 a.2.2.2.1 a.2.2.2.2.1 f).bind fun b => (cond b.2.2.2 ((Nj b.1 b.2.1 b.2.2.1 q2 q3 q4 q5 q6 d g h i c).bind fun j => (Zn j)) (Zn c))))
theorem G5 {S : List Nat} (g1 : Nat) (A7 : Option Addr) (c8 : Nat) (h : Nat) (m : Nat) (p : Nat) (q : Nat) (s : Nat) (u : Nat) (q2 : Int) (q3 : Int) (q4 : Int) (q5 : Int) (j : (List Va)) (a4 : Uw) (a9 : (List UInt8)) (b0 : (List UInt8)) (a5 : (List UInt8)) (a6 : (List UInt8)) (a7 : Int) (b1 : Bool) (w0 : World) (hO : SP S w0 w0 [Qn g1 79 #[(.int .i64 q2), (.int .i64 q3), (.int .i64 q4), (.int .i64 q5), (.slice A7 (List.length (List.map stT j)) c8), (.map (some h))], V5 h a4, Qn m 29 #[(pt g1 0)], Qn p 9 #[(.string ⟨List.toArray a5⟩)], Qn q 9 #[(.string ⟨List.toArray a6⟩)], Qn s 2 #[(.int .i64 a7)], Qn u 4 #[(.bool b1)]]) (c0 : ∀ w, Mod S w0 w → (dDS Js Ce).ok w (A7, c8, j)) (r : (Bool)) (H : Xu q2 q3 q4 q5 (List.map stT j) a4 a9 b0 a5 a6 a7 b1 = some r) :
  Calls Tryz.prog 45 #[(pt g1 0), (.string ⟨List.toArray a9⟩), (.string ⟨List.toArray b0⟩), (.func (.func 49) #[] #[(pt m 0), (pt p 0), (pt q 0), (pt s 0), (pt u 0)])] w0 (fun e w' => e = .returned (.tuple #[]) ∧ SP S w0 w' [Qn g1 79 #[(.int .i64 q2), (.int .i64 q3), (.int .i64 q4), (.int .i64 q5), (.slice A7 (List.length (List.map stT j)) c8), (.map (some h))], V5 h a4, Qn m 29 #[(pt g1 0)], Qn p 9 #[(.string ⟨List.toArray a5⟩)], Qn q 9 #[(.string ⟨List.toArray a6⟩)], Qn s 2 #[(.int .i64 a7)], Qn u 4 #[(.bool r)]]) := by
 unfold Xu at H
 refine Qs (n := 31) Tryz.func45 K K K ?_
 have b3 := hO
 refine aQ ?_
 refine aR ?_
 refine iR 3 3 [(13, (pt g1 0)), (14, (pt g1 0)), (15, (pt g1 0))] ?_
 refine iS 4 ?_
 refine sL 24 15 g1 0 0 (.agg #[(.int .i64 q2), (.int .i64 q3), (.int .i64 q4), (.int .i64 q5), (.slice A7 (List.length (List.map stT j)) c8)]) 16 b3 rfl ?_
 refine iR 1 5 [(17, (.string ⟨List.toArray a9⟩))] ?_
 obtain ⟨a, c4, H⟩ := Qb H
 refine iS 6 ?_
 refine cF 67 #[(.tmp 16), (.tmp 17)] #[24, 9] 18 Tryz.call67 (R1 (R := fun w => Mod S w0 w) A7 c8 q2 q3 q4 q5 j a9 w0 (fun w hb => Hz b3 hb) c0 a c4) ?_
 rintro e d8 ⟨a0, a1, a2, a3, rfl, c5, c6, c1⟩
 refine ⟨_, rfl, ?_⟩
 have c7 := SP.call b3 c1
 clear c1
 refine iR 3 9 [(12, (.tuple #[(.agg #[(.string ⟨List.toArray a.1⟩), (.int .i64 a.2.1), (.int .i64 a.2.2.1), (.slice a0 (List.length a.2.2.2.1) a1), (.slice a2 (List.length a.2.2.2.2.1) a3)]), (.bool a.2.2.2.2.2)])), (19, (.agg #[(.string ⟨List.toArray a.1⟩), (.int .i64 a.2.1), (.int .i64 a.2.2.1), (.slice a0 (List.length a.2.2.2.1) a1), (.slice a2 (List.length a.2.2.2.2.1) a3)])), (20, (.bool a.2.2.2.2.2))] ?_
 refine iS 10 ?_
 refine Qi.alloc (t := 44) (z := (.agg #[(.string ⟨List.toArray ([] : List UInt8)⟩), (.int .i64 0), (.int .i64 0), (.slice none (List.length ([] : List (Int × Int))) 0), (.slice none (List.length ([] : List ((List UInt8) × (List UInt8) × Int))) 0)])) (d := (some 8)) (k := 9) K rfl K c7 ?_
 intro b4 d9 c9
 refine iS 11 ?_
 refine Qi.store (t := 44) (x := (.tmp 8)) (y := (.tmp 19)) (g := b4) (off := 0) (i := 7) (v := (.agg #[(.string ⟨List.toArray a.1⟩), (.int .i64 a.2.1), (.int .i64 a.2.2.1), (.slice a0 (List.length a.2.2.2.1) a1), (.slice a2 (List.length a.2.2.2.2.1) a3)])) (cs' := #[(.string ⟨List.toArray a.1⟩), (.int .i64 a.2.1), (.int .i64 a.2.2.1), (.slice a0 (List.length a.2.2.2.1) a1), (.slice a2 (List.length a.2.2.2.2.1) a3)]) (d := none) (k := 10) K rfl K K c9 rfl K ?_
 intro b5 b2
 refine iR 1 12 [(9, (.bool a.2.2.2.2.2))] ?_
 refine iF ?_
 refine aQ ?_
 refine aR ?_
 refine iS 1 ?_
 refine sL 44 8 b4 0 7 (.agg #[(.string ⟨List.toArray a.1⟩), (.int .i64 a.2.1), (.int .i64 a.2.2.1), (.slice a0 (List.length a.2.2.2.1) a1), (.slice a2 (List.length a.2.2.2.2.1) a3)]) 22 b2 rfl ?_
 refine iR 1 2 [(23, (.string ⟨List.toArray b0⟩))] ?_
 obtain ⟨c, d0, H⟩ := Qb H
 refine iS 3 ?_
 refine cF 68 #[(.tmp 22), (.tmp 23)] #[44, 9] 24 Tryz.call68 (Rp a0 a1 a2 a3 a.1 a.2.1 a.2.2.1 a.2.2.2.1 a.2.2.2.2.1 b0 b5 (c5 b5 (SP.mod b2)) (c6 b5 (SP.mod b2)) c d0) ?_
 rintro e e0 ⟨rfl, c2⟩
 refine ⟨_, rfl, ?_⟩
 have d1 := SP.call b2 c2
 clear c2
 refine iR 3 6 [(21, (.tuple #[(.agg #[(.string ⟨List.toArray c.1⟩), (.string ⟨List.toArray c.2.1⟩), (.int .i64 c.2.2.1)]), (.bool c.2.2.2)])), (25, (.agg #[(.string ⟨List.toArray c.1⟩), (.string ⟨List.toArray c.2.1⟩), (.int .i64 c.2.2.1)])), (26, (.bool c.2.2.2))] ?_
 refine iS 7 ?_
 refine Qi.alloc (t := 48) (z := (.agg #[(.string ⟨List.toArray ([] : List UInt8)⟩), (.string ⟨List.toArray ([] : List UInt8)⟩), (.int .i64 0)])) (d := (some 10)) (k := 6) K rfl K d1 ?_
 intro b6 e1 d2
 refine iS 8 ?_
 refine Qi.store (t := 48) (x := (.tmp 10)) (y := (.tmp 25)) (g := b6) (off := 0) (i := 8) (v := (.agg #[(.string ⟨List.toArray c.1⟩), (.string ⟨List.toArray c.2.1⟩), (.int .i64 c.2.2.1)])) (cs' := #[(.string ⟨List.toArray c.1⟩), (.string ⟨List.toArray c.2.1⟩), (.int .i64 c.2.2.1)]) (d := none) (k := 7) K rfl K K d2 rfl K ?_
 intro d3 a8
 refine iR 1 9 [(11, (.bool c.2.2.2))] ?_
 refine iF ?_
 refine aQ ?_
 refine aR ?_
 refine iR 1 1 [(27, (.bool c.2.2.2))] ?_
 refine iF ?_
 refine At.join (fun ρ w => ∃ (b7 : Bool), V6 ρ [] ∧ SP S w0 w [Qn g1 79 #[(.int .i64 q2), (.int .i64 q3), (.int .i64 q4), (.int .i64 q5), (.slice A7 (List.length (List.map stT j)) c8), (.map (some h))], V5 h a4, Qn m 29 #[(pt g1 0)], Qn p 9 #[(.string ⟨List.toArray a5⟩)], Qn q 9 #[(.string ⟨List.toArray a6⟩)], Qn s 2 #[(.int .i64 a7)], Qn u 4 #[(.bool b7)]] ∧ Zn b7 = some r) ?_ ?_
 ·refine V1 K (o := (.tmp 27)) K (b := c.2.2.2) K (fun b8 => ?_) (fun b8 => ?_)
  ·have H := ct H b8
   refine aR ?_
   refine iR 1 1 [(28, (.func (.func 49) #[] #[(pt m 0), (pt p 0), (pt q 0), (pt s 0), (pt u 0)]))] ?_
   refine iS 2 ?_
   refine sL 48 10 b6 0 8 (.agg #[(.string ⟨List.toArray c.1⟩), (.string ⟨List.toArray c.2.1⟩), (.int .i64 c.2.2.1)]) 29 a8 rfl ?_
   obtain ⟨b9, d4, H⟩ := Qb H
   refine iS 3 ?_
   refine Jj (f := 49) (fo := (.tmp 28)) (xs := #[(.tmp 29)]) (tys := #[48]) (first := #[]) (captured := #[(pt m 0), (pt p 0), (pt q 0), (pt s 0), (pt u 0)]) (d := (some 30)) (k := 2) K rfl K K Tryz.call49 (Bo g1 A7 c8 h m p q s u c.1 c.2.1 c.2.2.1 q2 q3 q4 q5 j a4 a5 a6 a7 b1 d3 (Yd a8 [0, 1, 2, 3, 4, 5, 6] rfl rfl) (fun w hm => c0 w (SP.through a8 (l := [0, 1, 2, 3, 4, 5, 6]) rfl hm)) b9 d4) ?_
   rintro e d5 ⟨rfl, c3⟩
   refine ⟨_, rfl, ?_⟩
   have d6 : SP S w0 d5 [Qn b4 44 #[(.string ⟨List.toArray a.1⟩), (.int .i64 a.2.1), (.int .i64 a.2.2.1), (.slice a0 (List.length a.2.2.2.1) a1), (.slice a2 (List.length a.2.2.2.2.1) a3)], Qn b6 48 #[(.string ⟨List.toArray c.1⟩), (.string ⟨List.toArray c.2.1⟩), (.int .i64 c.2.2.1)], Qn g1 79 #[(.int .i64 q2), (.int .i64 q3), (.int .i64 q4), (.int .i64 q5), (.slice A7 (List.length (List.map stT j)) c8), (.map (some h))], V5 h a4, Qn m 29 #[(pt g1 0)], Qn p 9 #[(.string ⟨List.toArray a5⟩)], Qn q 9 #[(.string ⟨List.toArray a6⟩)], Qn s 2 #[(.int .i64 a7)], Qn u 4 #[(.bool b9)]] := Vv a8 [0, 1, 2, 3, 4, 5, 6] [7, 8] rfl rfl c3 rfl
   clear c3
   refine iF ?_
   exact ⟨b9, trivial, SP.sel d6 [2, 3, 4, 5, 6, 7, 8] rfl rfl, H⟩
  ·have H := cf H b8
   refine At.skip K ?_
   exact ⟨b1, trivial, SP.sel a8 [0, 1, 2, 3, 4, 5, 6] rfl rfl, H⟩
 ·rintro ρ e2 ⟨b7, hk, d7, H⟩
  unfold Zn at H
  first | refine At.known [] hk ?_ | rw [← Qv (l := []) hk]
  refine ⟨(.tuple #[]), K, ?_⟩
  obtain rfl := Qe H
  exact ⟨rfl, SP.sel d7 [0,1,2,3,4,5,6] rfl rfl⟩
def Zo (a : (List UInt8)) : Option ((List UInt8)) :=
  (some (a))
def Xv (q2 : Int) (q3 : Int) (q4 : Int) (q5 : Int) (q6 : (List Qg)) (j : Uw) (d : (List UInt8)) (e : (List UInt8)) (f : (List UInt8)) (g : (List UInt8)) (h : (List UInt8)) (c : (List UInt8)) : Option ((List UInt8)) :=
  ((N3 q2 q3 q4 q5 q6 d).bind fun a => ((Nf a.1 a.2.1 a.2.2.1 a.2.2.2.1 a.2.2.2.2.1 e).bind fun b => (cond b.2.2.2 ((Nk b.1 b.2.1 b.2.2.1 f g h c).bind fun i => (Zo i)) (Zo c))))
theorem G6 {S : List Nat} (g1 : Nat) (A7 : Option Addr) (c8 : Nat) (h : Nat) (j : Nat) (m : Nat) (p : Nat) (q : Nat) (q2 : Int) (q3 : Int) (q4 : Int) (q5 : Int) (s : (List Va)) (a6 : Uw) (a7 : (List UInt8)) (a8 : (List UInt8)) (a3 : (List UInt8)) (a4 : (List UInt8)) (a5 : (List UInt8)) (a9 : (List UInt8)) (w0 : World) (hO : SP S w0 w0 [Qn g1 79 #[(.int .i64 q2), (.int .i64 q3), (.int .i64 q4), (.int .i64 q5), (.slice A7 (List.length (List.map stT s)) c8), (.map (some h))], V5 h a6, Qn j 9 #[(.string ⟨List.toArray a3⟩)], Qn m 9 #[(.string ⟨List.toArray a4⟩)], Qn p 9 #[(.string ⟨List.toArray a5⟩)], Qn q 9 #[(.string ⟨List.toArray a9⟩)]]) (c2 : ∀ w, Mod S w0 w → (dDS Js Ce).ok w (A7, c8, s)) (r : ((List UInt8))) (H : Xv q2 q3 q4 q5 (List.map stT s) a6 a7 a8 a3 a4 a5 a9 = some r) :
  Calls Tryz.prog 45 #[(pt g1 0), (.string ⟨List.toArray a7⟩), (.string ⟨List.toArray a8⟩), (.func (.func 50) #[] #[(pt j 0), (pt m 0), (pt p 0), (pt q 0)])] w0 (fun e w' => e = .returned (.tuple #[]) ∧ SP S w0 w' [Qn g1 79 #[(.int .i64 q2), (.int .i64 q3), (.int .i64 q4), (.int .i64 q5), (.slice A7 (List.length (List.map stT s)) c8), (.map (some h))], V5 h a6, Qn j 9 #[(.string ⟨List.toArray a3⟩)], Qn m 9 #[(.string ⟨List.toArray a4⟩)], Qn p 9 #[(.string ⟨List.toArray a5⟩)], Qn q 9 #[(.string ⟨List.toArray r⟩)]]) := by
 unfold Xv at H
 refine Qs (n := 31) Tryz.func45 K K K ?_
 have b2 := hO
 refine aQ ?_
 refine aR ?_
 refine iR 3 3 [(13, (pt g1 0)), (14, (pt g1 0)), (15, (pt g1 0))] ?_
 refine iS 4 ?_
 refine sL 24 15 g1 0 0 (.agg #[(.int .i64 q2), (.int .i64 q3), (.int .i64 q4), (.int .i64 q5), (.slice A7 (List.length (List.map stT s)) c8)]) 16 b2 rfl ?_
 refine iR 1 5 [(17, (.string ⟨List.toArray a7⟩))] ?_
 obtain ⟨a, c3, H⟩ := Qb H
 refine iS 6 ?_
 refine cF 67 #[(.tmp 16), (.tmp 17)] #[24, 9] 18 Tryz.call67 (R1 (R := fun w => Mod S w0 w) A7 c8 q2 q3 q4 q5 s a7 w0 (fun w hb => Hz b2 hb) c2 a c3) ?_
 rintro e d7 ⟨u, a0, a1, a2, rfl, c4, c5, b9⟩
 refine ⟨_, rfl, ?_⟩
 have c6 := SP.call b2 b9
 clear b9
 refine iR 3 9 [(12, (.tuple #[(.agg #[(.string ⟨List.toArray a.1⟩), (.int .i64 a.2.1), (.int .i64 a.2.2.1), (.slice u (List.length a.2.2.2.1) a0), (.slice a1 (List.length a.2.2.2.2.1) a2)]), (.bool a.2.2.2.2.2)])), (19, (.agg #[(.string ⟨List.toArray a.1⟩), (.int .i64 a.2.1), (.int .i64 a.2.2.1), (.slice u (List.length a.2.2.2.1) a0), (.slice a1 (List.length a.2.2.2.2.1) a2)])), (20, (.bool a.2.2.2.2.2))] ?_
 refine iS 10 ?_
 refine Qi.alloc (t := 44) (z := (.agg #[(.string ⟨List.toArray ([] : List UInt8)⟩), (.int .i64 0), (.int .i64 0), (.slice none (List.length ([] : List (Int × Int))) 0), (.slice none (List.length ([] : List ((List UInt8) × (List UInt8) × Int))) 0)])) (d := (some 8)) (k := 9) K rfl K c6 ?_
 intro b3 d8 c7
 refine iS 11 ?_
 refine Qi.store (t := 44) (x := (.tmp 8)) (y := (.tmp 19)) (g := b3) (off := 0) (i := 6) (v := (.agg #[(.string ⟨List.toArray a.1⟩), (.int .i64 a.2.1), (.int .i64 a.2.2.1), (.slice u (List.length a.2.2.2.1) a0), (.slice a1 (List.length a.2.2.2.2.1) a2)])) (cs' := #[(.string ⟨List.toArray a.1⟩), (.int .i64 a.2.1), (.int .i64 a.2.2.1), (.slice u (List.length a.2.2.2.1) a0), (.slice a1 (List.length a.2.2.2.2.1) a2)]) (d := none) (k := 10) K rfl K K c7 rfl K ?_
 intro b4 b0
 refine iR 1 12 [(9, (.bool a.2.2.2.2.2))] ?_
 refine iF ?_
 refine aQ ?_
 refine aR ?_
 refine iS 1 ?_
 refine sL 44 8 b3 0 6 (.agg #[(.string ⟨List.toArray a.1⟩), (.int .i64 a.2.1), (.int .i64 a.2.2.1), (.slice u (List.length a.2.2.2.1) a0), (.slice a1 (List.length a.2.2.2.2.1) a2)]) 22 b0 rfl ?_
 refine iR 1 2 [(23, (.string ⟨List.toArray a8⟩))] ?_
 obtain ⟨c, c9, H⟩ := Qb H
 refine iS 3 ?_
 refine cF 68 #[(.tmp 22), (.tmp 23)] #[44, 9] 24 Tryz.call68 (Rp u a0 a1 a2 a.1 a.2.1 a.2.2.1 a.2.2.2.1 a.2.2.2.2.1 a8 b4 (c4 b4 (SP.mod b0)) (c5 b4 (SP.mod b0)) c c9) ?_
 rintro e d9 ⟨rfl, c0⟩
 refine ⟨_, rfl, ?_⟩
 have d0 := SP.call b0 c0
 clear c0
 refine iR 3 6 [(21, (.tuple #[(.agg #[(.string ⟨List.toArray c.1⟩), (.string ⟨List.toArray c.2.1⟩), (.int .i64 c.2.2.1)]), (.bool c.2.2.2)])), (25, (.agg #[(.string ⟨List.toArray c.1⟩), (.string ⟨List.toArray c.2.1⟩), (.int .i64 c.2.2.1)])), (26, (.bool c.2.2.2))] ?_
 refine iS 7 ?_
 refine Qi.alloc (t := 48) (z := (.agg #[(.string ⟨List.toArray ([] : List UInt8)⟩), (.string ⟨List.toArray ([] : List UInt8)⟩), (.int .i64 0)])) (d := (some 10)) (k := 6) K rfl K d0 ?_
 intro b5 e0 d1
 refine iS 8 ?_
 refine Qi.store (t := 48) (x := (.tmp 10)) (y := (.tmp 25)) (g := b5) (off := 0) (i := 7) (v := (.agg #[(.string ⟨List.toArray c.1⟩), (.string ⟨List.toArray c.2.1⟩), (.int .i64 c.2.2.1)])) (cs' := #[(.string ⟨List.toArray c.1⟩), (.string ⟨List.toArray c.2.1⟩), (.int .i64 c.2.2.1)]) (d := none) (k := 7) K rfl K K d1 rfl K ?_
 intro d2 b1
 refine iR 1 9 [(11, (.bool c.2.2.2))] ?_
 refine iF ?_
 refine aQ ?_
 refine aR ?_
 refine iR 1 1 [(27, (.bool c.2.2.2))] ?_
 refine iF ?_
 refine At.join (fun ρ w => ∃ (b6 : (List UInt8)), V6 ρ [] ∧ SP S w0 w [Qn g1 79 #[(.int .i64 q2), (.int .i64 q3), (.int .i64 q4), (.int .i64 q5), (.slice A7 (List.length (List.map stT s)) c8), (.map (some h))], V5 h a6, Qn j 9 #[(.string ⟨List.toArray a3⟩)], Qn m 9 #[(.string ⟨List.toArray a4⟩)], Qn p 9 #[(.string ⟨List.toArray a5⟩)], Qn q 9 #[(.string ⟨List.toArray b6⟩)]] ∧ Zo b6 = some r) ?_ ?_
 ·refine V1 K (o := (.tmp 27)) K (b := c.2.2.2) K (fun b7 => ?_) (fun b7 => ?_)
  ·have H := ct H b7
   refine aR ?_
   refine iR 1 1 [(28, (.func (.func 50) #[] #[(pt j 0), (pt m 0), (pt p 0), (pt q 0)]))] ?_
   refine iS 2 ?_
   refine sL 48 10 b5 0 7 (.agg #[(.string ⟨List.toArray c.1⟩), (.string ⟨List.toArray c.2.1⟩), (.int .i64 c.2.2.1)]) 29 b1 rfl ?_
   obtain ⟨b8, d3, H⟩ := Qb H
   refine iS 3 ?_
   refine Jj (f := 50) (fo := (.tmp 28)) (xs := #[(.tmp 29)]) (tys := #[48]) (first := #[]) (captured := #[(pt j 0), (pt m 0), (pt p 0), (pt q 0)]) (d := (some 30)) (k := 2) K rfl K K Tryz.call50 (Bp j m p q c.1 c.2.1 c.2.2.1 a3 a4 a5 a9 d2 (Yd b1 [2, 3, 4, 5] rfl rfl) b8 d3) ?_
   rintro e d4 ⟨rfl, c1⟩
   refine ⟨_, rfl, ?_⟩
   have d5 : SP S w0 d4 [Qn g1 79 #[(.int .i64 q2), (.int .i64 q3), (.int .i64 q4), (.int .i64 q5), (.slice A7 (List.length (List.map stT s)) c8), (.map (some h))], V5 h a6, Qn b3 44 #[(.string ⟨List.toArray a.1⟩), (.int .i64 a.2.1), (.int .i64 a.2.2.1), (.slice u (List.length a.2.2.2.1) a0), (.slice a1 (List.length a.2.2.2.2.1) a2)], Qn b5 48 #[(.string ⟨List.toArray c.1⟩), (.string ⟨List.toArray c.2.1⟩), (.int .i64 c.2.2.1)], Qn j 9 #[(.string ⟨List.toArray a3⟩)], Qn m 9 #[(.string ⟨List.toArray a4⟩)], Qn p 9 #[(.string ⟨List.toArray a5⟩)], Qn q 9 #[(.string ⟨List.toArray b8⟩)]] := Vv b1 [2, 3, 4, 5] [0, 1, 6, 7] rfl rfl c1 rfl
   clear c1
   refine iF ?_
   exact ⟨b8, trivial, SP.sel d5 [0, 1, 4, 5, 6, 7] rfl rfl, H⟩
  ·have H := cf H b7
   refine At.skip K ?_
   exact ⟨a9, trivial, SP.sel b1 [0, 1, 2, 3, 4, 5] rfl rfl, H⟩
 ·rintro ρ e1 ⟨b6, hk, d6, H⟩
  unfold Zo at H
  first | refine At.known [] hk ?_ | rw [← Qv (l := []) hk]
  refine ⟨(.tuple #[]), K, ?_⟩
  obtain rfl := Qe H
  exact ⟨rfl, SP.sel d6 [0,1,2,3,4,5] rfl rfl⟩
def Ug (q2 : Int) (q3 : Int) (q4 : Int) (q5 : Int) (q6 : (List Qg)) (d : Uw) (b : (List UInt8)) (c : (List UInt8)) : Option (Bool × Int × Int × Int × Int × Uw) :=
  ((Xg q2 q3 q4 q5 q6 d b c b c false).bind fun a => (some (a.2.2.2.2.2, a.1, a.2.1, a.2.2.1, a.2.2.2.1, a.2.2.2.2.1)))
theorem Bq {S : List Nat} (g1 : Nat) (A7 : Option Addr) (c8 : Nat) (b : Nat) (q2 : Int) (q3 : Int) (q4 : Int) (q5 : Int) (h : (List Va)) (s : Uw) (c : (List UInt8)) (f : (List UInt8)) (w0 : World) (hO : SP S w0 w0 [Qn g1 79 #[(.int .i64 q2), (.int .i64 q3), (.int .i64 q4), (.int .i64 q5), (.slice A7 (List.length (List.map stT h)) c8), (.map (some b))], V5 b s]) (a1 : ∀ w, Mod S w0 w → (dDS Js Ce).ok w (A7, c8, h)) (r : (Bool × Int × Int × Int × Int × Uw)) (H : Ug q2 q3 q4 q5 (List.map stT h) s c f = some r) :
  Calls Tryz.prog 20 #[(pt g1 0), (.string ⟨List.toArray c⟩), (.string ⟨List.toArray f⟩)] w0 (fun e w' => e = .returned (.bool r.1) ∧ SP S w0 w' [Qn g1 79 #[(.int .i64 r.2.1), (.int .i64 r.2.2.1), (.int .i64 r.2.2.2.1), (.int .i64 r.2.2.2.2.1), (.slice A7 (List.length (List.map stT h)) c8), (.map (some b))], V5 b r.2.2.2.2.2]) := by
 unfold Ug at H
 refine Qs (n := 14) Tryz.func20 K K K ?_
 have a2 := hO
 refine aQ ?_
 refine aR ?_
 refine iS 1 ?_
 refine Vn (t := 29) (x := (.tmp 0)) (v := (pt g1 0)) (d := (some 3)) (k := 0) K rfl K a2 ?_
 intro o b0 a3
 refine iS 2 ?_
 refine Vn (t := 9) (x := (.tmp 1)) (v := (.string ⟨List.toArray c⟩)) (d := (some 4)) (k := 1) K rfl K a3 ?_
 intro p b1 a4
 refine iS 3 ?_
 refine Vn (t := 9) (x := (.tmp 2)) (v := (.string ⟨List.toArray f⟩)) (d := (some 5)) (k := 2) K rfl K a4 ?_
 intro q b2 a5
 refine iR 1 4 [(6, (.bool false))] ?_
 refine iF ?_
 refine aQ ?_
 refine aR ?_
 refine iS 1 ?_
 refine Qi.alloc (t := 4) (z := (.bool false)) (d := (some 7)) (k := 0) K rfl K a5 ?_
 intro m b3 a6
 refine iS 2 ?_
 refine Qi.store (t := 4) (x := (.tmp 7)) (y := (.const (.bool false))) (g := m) (off := 0) (i := 5) (v := (.bool false)) (cs' := #[(.bool false)]) (d := none) (k := 1) K rfl K K a6 rfl K ?_
 intro a7 j
 refine iF ?_
 refine aQ ?_
 refine aR ?_
 refine iS 1 ?_
 refine sL 29 3 o 0 2 (pt g1 0) 8 j rfl ?_
 refine iS 2 ?_
 refine sL 9 4 p 0 3 (.string ⟨List.toArray c⟩) 9 j rfl ?_
 refine iS 3 ?_
 refine sL 9 5 q 0 4 (.string ⟨List.toArray f⟩) 10 j rfl ?_
 refine iR 1 4 [(11, (.func (.func 46) #[] #[(pt p 0), (pt q 0), (pt o 0), (pt m 0)]))] ?_
 obtain ⟨a, a8, H⟩ := Qb H
 refine iS 5 ?_
 refine cF 45 #[(.tmp 8), (.tmp 9), (.tmp 10), (.tmp 11)] #[29, 9, 9, 84] 12 Tryz.call45 (Gx g1 A7 c8 b p q o m q2 q3 q4 q5 h s c f c f false a7 (Yd j [0, 1, 3, 4, 2, 5] rfl rfl) (fun w hm => a1 w (SP.through j (l := [0, 1, 3, 4, 2, 5]) rfl hm)) a a8) ?_
 rintro e a9 ⟨rfl, u⟩
 refine ⟨_, rfl, ?_⟩
 have a0 : SP S w0 a9 [Qn g1 79 #[(.int .i64 a.1), (.int .i64 a.2.1), (.int .i64 a.2.2.1), (.int .i64 a.2.2.2.1), (.slice A7 (List.length (List.map stT h)) c8), (.map (some b))], V5 b a.2.2.2.2.1, Qn p 9 #[(.string ⟨List.toArray c⟩)], Qn q 9 #[(.string ⟨List.toArray f⟩)], Qn o 29 #[(pt g1 0)], Qn m 4 #[(.bool a.2.2.2.2.2)]] := Vv j [0, 1, 3, 4, 2, 5] [] rfl rfl u rfl
 clear u
 refine iF ?_
 refine aQ ?_
 refine aR ?_
 refine iS 1 ?_
 refine sL 4 7 m 0 5 (.bool a.2.2.2.2.2) 13 a0 rfl ?_
 refine iR 1 2 [(6, (.bool a.2.2.2.2.2))] ?_
 refine iF ?_
 refine At.ret K ?_
 refine ⟨(.bool a.2.2.2.2.2), K, ?_⟩
 obtain rfl := Qe H
 exact ⟨rfl, SP.sel a0 [0,1] rfl rfl⟩
def Na (q2 : Int) (q3 : Int) (q4 : Int) (q5 : Int) (q6 : (List Qg)) (c : Uw) (a : (List UInt8)) (b : (List UInt8)) (d : Int) : Option (Bool) :=
  ((Xu q2 q3 q4 q5 q6 c a b a b d false).bind fun e => (some (e)))
theorem Cx {S : List Nat} (g1 : Nat) (A7 : Option Addr) (c8 : Nat) (a : Nat) (q2 : Int) (q3 : Int) (q4 : Int) (q5 : Int) (f : (List Va)) (j : Uw) (b : (List UInt8)) (c : (List UInt8)) (m : Int) (w0 : World) (hO : SP S w0 w0 [Qn g1 79 #[(.int .i64 q2), (.int .i64 q3), (.int .i64 q4), (.int .i64 q5), (.slice A7 (List.length (List.map stT f)) c8), (.map (some a))], V5 a j]) (a3 : ∀ w, Mod S w0 w → (dDS Js Ce).ok w (A7, c8, f)) (r : (Bool)) (H : Na q2 q3 q4 q5 (List.map stT f) j b c m = some r) :
  Calls Tryz.prog 22 #[(pt g1 0), (.string ⟨List.toArray b⟩), (.string ⟨List.toArray c⟩), (.int .i64 m)] w0 (fun e w' => e = .returned (.bool r) ∧ SP S w0 w' [Qn g1 79 #[(.int .i64 q2), (.int .i64 q3), (.int .i64 q4), (.int .i64 q5), (.slice A7 (List.length (List.map stT f)) c8), (.map (some a))], V5 a j]) := by
 unfold Na at H
 refine Qs (n := 16) Tryz.func22 K K K ?_
 have a4 := hO
 refine aQ ?_
 refine aR ?_
 refine iS 1 ?_
 refine Vn (t := 29) (x := (.tmp 0)) (v := (pt g1 0)) (d := (some 4)) (k := 0) K rfl K a4 ?_
 intro q b3 a5
 refine iS 2 ?_
 refine Vn (t := 9) (x := (.tmp 1)) (v := (.string ⟨List.toArray b⟩)) (d := (some 5)) (k := 1) K rfl K a5 ?_
 intro s b4 a6
 refine iS 3 ?_
 refine Vn (t := 9) (x := (.tmp 2)) (v := (.string ⟨List.toArray c⟩)) (d := (some 6)) (k := 2) K rfl K a6 ?_
 intro u b5 a7
 refine iS 4 ?_
 refine Vn (t := 2) (x := (.tmp 3)) (v := (.int .i64 m)) (d := (some 7)) (k := 3) K rfl K a7 ?_
 intro a0 b6 a8
 refine iR 1 5 [(8, (.bool false))] ?_
 refine iF ?_
 refine aQ ?_
 refine aR ?_
 refine iS 1 ?_
 refine Qi.alloc (t := 4) (z := (.bool false)) (d := (some 9)) (k := 0) K rfl K a8 ?_
 intro o b7 a9
 refine iS 2 ?_
 refine Qi.store (t := 4) (x := (.tmp 9)) (y := (.const (.bool false))) (g := o) (off := 0) (i := 6) (v := (.bool false)) (cs' := #[(.bool false)]) (d := none) (k := 1) K rfl K K a9 rfl K ?_
 intro b0 h
 refine iF ?_
 refine aQ ?_
 refine aR ?_
 refine iS 1 ?_
 refine sL 29 4 q 0 2 (pt g1 0) 10 h rfl ?_
 refine iS 2 ?_
 refine sL 9 5 s 0 3 (.string ⟨List.toArray b⟩) 11 h rfl ?_
 refine iS 3 ?_
 refine sL 9 6 u 0 4 (.string ⟨List.toArray c⟩) 12 h rfl ?_
 refine iR 1 4 [(13, (.func (.func 49) #[] #[(pt q 0), (pt s 0), (pt u 0), (pt a0 0), (pt o 0)]))] ?_
 obtain ⟨p, b1, H⟩ := Qb H
 refine iS 5 ?_
 refine cF 45 #[(.tmp 10), (.tmp 11), (.tmp 12), (.tmp 13)] #[29, 9, 9, 84] 14 Tryz.call45 (G5 g1 A7 c8 a q s u a0 o q2 q3 q4 q5 f j b c b c m false b0 (Yd h [0, 1, 2, 3, 4, 5, 6] rfl rfl) (fun w hm => a3 w (SP.through h (l := [0, 1, 2, 3, 4, 5, 6]) rfl hm)) p b1) ?_
 rintro e b2 ⟨rfl, a1⟩
 refine ⟨_, rfl, ?_⟩
 have a2 : SP S w0 b2 [Qn g1 79 #[(.int .i64 q2), (.int .i64 q3), (.int .i64 q4), (.int .i64 q5), (.slice A7 (List.length (List.map stT f)) c8), (.map (some a))], V5 a j, Qn q 29 #[(pt g1 0)], Qn s 9 #[(.string ⟨List.toArray b⟩)], Qn u 9 #[(.string ⟨List.toArray c⟩)], Qn a0 2 #[(.int .i64 m)], Qn o 4 #[(.bool p)]] := Vv h [0, 1, 2, 3, 4, 5, 6] [] rfl rfl a1 rfl
 clear a1
 refine iF ?_
 refine aQ ?_
 refine aR ?_
 refine iS 1 ?_
 refine sL 4 9 o 0 6 (.bool p) 15 a2 rfl ?_
 refine iR 1 2 [(8, (.bool p))] ?_
 refine iF ?_
 refine At.ret K ?_
 refine ⟨(.bool p), K, ?_⟩
 obtain rfl := Qe H
 exact ⟨rfl, SP.sel a2 [0,1] rfl rfl⟩
def J1 (q2 : Int) (q3 : Int) (q4 : Int) (q5 : Int) (q6 : (List Qg)) (c : Uw) (a : (List UInt8)) (b : (List UInt8)) (d : (List UInt8)) : Option ((List UInt8)) :=
  ((Xv q2 q3 q4 q5 q6 c a b a b d ([] : List UInt8)).bind fun e => (some (e)))
theorem R2 {S : List Nat} (g1 : Nat) (A7 : Option Addr) (c8 : Nat) (a : Nat) (q2 : Int) (q3 : Int) (q4 : Int) (q5 : Int) (f : (List Va)) (h : Uw) (b : (List UInt8)) (c : (List UInt8)) (j : (List UInt8)) (w0 : World) (hO : SP S w0 w0 [Qn g1 79 #[(.int .i64 q2), (.int .i64 q3), (.int .i64 q4), (.int .i64 q5), (.slice A7 (List.length (List.map stT f)) c8), (.map (some a))], V5 a h]) (a2 : ∀ w, Mod S w0 w → (dDS Js Ce).ok w (A7, c8, f)) (r : ((List UInt8))) (H : J1 q2 q3 q4 q5 (List.map stT f) h b c j = some r) :
  Calls Tryz.prog 24 #[(pt g1 0), (.string ⟨List.toArray b⟩), (.string ⟨List.toArray c⟩), (.string ⟨List.toArray j⟩)] w0 (fun e w' => e = .returned (.string ⟨List.toArray r⟩) ∧ SP S w0 w' [Qn g1 79 #[(.int .i64 q2), (.int .i64 q3), (.int .i64 q4), (.int .i64 q5), (.slice A7 (List.length (List.map stT f)) c8), (.map (some a))], V5 a h]) := by
 unfold J1 at H
 refine Qs (n := 16) Tryz.func24 K K K ?_
 have a3 := hO
 refine aQ ?_
 refine aR ?_
 refine iS 1 ?_
 refine Vn (t := 9) (x := (.tmp 1)) (v := (.string ⟨List.toArray b⟩)) (d := (some 5)) (k := 0) K rfl K a3 ?_
 intro q b1 a4
 refine iS 2 ?_
 refine Vn (t := 9) (x := (.tmp 2)) (v := (.string ⟨List.toArray c⟩)) (d := (some 6)) (k := 1) K rfl K a4 ?_
 intro s b2 a5
 refine iS 3 ?_
 refine Vn (t := 9) (x := (.tmp 3)) (v := (.string ⟨List.toArray j⟩)) (d := (some 7)) (k := 2) K rfl K a5 ?_
 intro u b3 a6
 refine iR 1 4 [(8, (.string ⟨List.toArray ([] : List UInt8)⟩))] ?_
 refine iF ?_
 refine aQ ?_
 refine aR ?_
 refine iS 1 ?_
 refine Qi.alloc (t := 9) (z := (.string ⟨List.toArray ([] : List UInt8)⟩)) (d := (some 9)) (k := 0) K rfl K a6 ?_
 intro m b4 a7
 refine iS 2 ?_
 refine Qi.store (t := 9) (x := (.tmp 9)) (y := (.const (.string ⟨List.toArray ([] : List UInt8)⟩))) (g := m) (off := 0) (i := 5) (v := (.string ⟨List.toArray ([] : List UInt8)⟩)) (cs' := #[(.string ⟨List.toArray ([] : List UInt8)⟩)]) (d := none) (k := 1) K rfl K K a7 rfl K ?_
 intro a8 o
 refine iF ?_
 refine aQ ?_
 refine aR ?_
 refine iR 1 1 [(10, (pt g1 0))] ?_
 refine iS 2 ?_
 refine sL 9 5 q 0 2 (.string ⟨List.toArray b⟩) 11 o rfl ?_
 refine iS 3 ?_
 refine sL 9 6 s 0 3 (.string ⟨List.toArray c⟩) 12 o rfl ?_
 refine iR 1 4 [(13, (.func (.func 50) #[] #[(pt q 0), (pt s 0), (pt u 0), (pt m 0)]))] ?_
 obtain ⟨p, a9, H⟩ := Qb H
 refine iS 5 ?_
 refine cF 45 #[(.tmp 10), (.tmp 11), (.tmp 12), (.tmp 13)] #[29, 9, 9, 84] 14 Tryz.call45 (G6 g1 A7 c8 a q s u m q2 q3 q4 q5 f h b c b c j ([] : List UInt8) a8 (Yd o [0, 1, 2, 3, 4, 5] rfl rfl) (fun w hm => a2 w (SP.through o (l := [0, 1, 2, 3, 4, 5]) rfl hm)) p a9) ?_
 rintro e b0 ⟨rfl, a0⟩
 refine ⟨_, rfl, ?_⟩
 have a1 : SP S w0 b0 [Qn g1 79 #[(.int .i64 q2), (.int .i64 q3), (.int .i64 q4), (.int .i64 q5), (.slice A7 (List.length (List.map stT f)) c8), (.map (some a))], V5 a h, Qn q 9 #[(.string ⟨List.toArray b⟩)], Qn s 9 #[(.string ⟨List.toArray c⟩)], Qn u 9 #[(.string ⟨List.toArray j⟩)], Qn m 9 #[(.string ⟨List.toArray p⟩)]] := Vv o [0, 1, 2, 3, 4, 5] [] rfl rfl a0 rfl
 clear a0
 refine iF ?_
 refine aQ ?_
 refine aR ?_
 refine iS 1 ?_
 refine sL 9 9 m 0 5 (.string ⟨List.toArray p⟩) 15 a1 rfl ?_
 refine iR 1 2 [(8, (.string ⟨List.toArray p⟩))] ?_
 refine iF ?_
 refine At.ret K ?_
 refine ⟨(.string ⟨List.toArray p⟩), K, ?_⟩
 obtain rfl := Qe H
 exact ⟨rfl, SP.sel a1 [0,1] rfl rfl⟩
def Jh (a : Bool) : Option (Int) :=
  (cond a (some (101)) (some (0)))
def Uv (q2 : Int) (q3 : Int) (q4 : Int) (q5 : Int) (q6 : (List Qg)) (b : Uw) (c : (List UInt8)) (d : (List UInt8)) (f : (List UInt8)) (e : (List UInt8)) (g : Int) : Option (Int) :=
  ((Na q2 q3 q4 q5 q6 b c d g).bind fun h => (cond (!h) (some (3)) ((J1 q2 q3 q4 q5 q6 b c d f).bind fun a => (cond (a == ([] : List UInt8)) (Jh true) ((chk (Nat.ble (List.length a) 281474976710656)).bind fun _ => ((chk (Nat.ble (List.length e) 281474976710656)).bind fun _ => ((B7 a e).bind fun i => (Jh (!i)))))))))
theorem B8 {S : List Nat} (g1 : Nat) (A7 : Option Addr) (c8 : Nat) (c : Nat) (q2 : Int) (q3 : Int) (q4 : Int) (q5 : Int) (g : (List Va)) (h : Uw) (j : (List UInt8)) (m : (List UInt8)) (s : (List UInt8)) (p : (List UInt8)) (u : Int) (w0 : World) (hO : SP S w0 w0 [Qn g1 79 #[(.int .i64 q2), (.int .i64 q3), (.int .i64 q4), (.int .i64 q5), (.slice A7 (List.length (List.map stT g)) c8), (.map (some c))], V5 c h]) (a8 : ∀ w, Mod S w0 w → (dDS Js Ce).ok w (A7, c8, g)) (r : (Int)) (H : Uv q2 q3 q4 q5 (List.map stT g) h j m s p u = some r) :
  Calls Tryz.prog 26 #[(pt g1 0), (.string ⟨List.toArray j⟩), (.string ⟨List.toArray m⟩), (.string ⟨List.toArray s⟩), (.string ⟨List.toArray p⟩), (.int .i64 u)] w0 (fun e w' => e = .returned (.int .i64 r) ∧ SP S w0 w' [Qn g1 79 #[(.int .i64 q2), (.int .i64 q3), (.int .i64 q4), (.int .i64 q5), (.slice A7 (List.length (List.map stT g)) c8), (.map (some c))], V5 c h]) := by
 unfold Uv at H
 refine Qs (n := 35) Tryz.func26 K K K ?_
 have a0 := hO
 refine aQ ?_
 refine aR ?_
 refine iR 1 1 [(12, (.int .i64 0))] ?_
 refine iF ?_
 refine aQ ?_
 refine aQ ?_
 refine aR ?_
 refine iR 4 4 [(14, (pt g1 0)), (15, (.string ⟨List.toArray j⟩)), (16, (.string ⟨List.toArray m⟩)), (17, (.int .i64 u))] ?_
 obtain ⟨a1, c0, H⟩ := Qb H
 refine iS 5 ?_
 refine cF 22 #[(.tmp 14), (.tmp 15), (.tmp 16), (.tmp 17)] #[29, 9, 9, 2] 18 Tryz.call22 (Cx g1 A7 c8 c q2 q3 q4 q5 g h j m u w0 (Yd a0 [0, 1] rfl rfl) (fun w hm => a8 w (SP.through a0 (l := [0, 1]) rfl hm)) a1 c0) ?_
 rintro e a9 ⟨rfl, b0⟩
 refine ⟨_, rfl, ?_⟩
 have v : SP S w0 a9 [Qn g1 79 #[(.int .i64 q2), (.int .i64 q3), (.int .i64 q4), (.int .i64 q5), (.slice A7 (List.length (List.map stT g)) c8), (.map (some c))], V5 c h] := Vv a0 [0, 1] [] rfl rfl b0 rfl
 clear b0
 refine iR 1 6 [(19, (.bool (!a1)))] ?_
 refine iF ?_
 refine V1 K (o := (.tmp 19)) K (b := (!a1)) K (fun a2 => ?_) (fun a2 => ?_)
 ·have H := ct H a2
  refine aQ ?_
  refine aR ?_
  refine iR 1 1 [(12, (.int .i64 3))] ?_
  refine iF ?_
  refine At.ret K ?_
  refine ⟨(.int .i64 3), K, ?_⟩
  obtain rfl := Qe H
  exact ⟨rfl, SP.sel v [0,1] rfl rfl⟩
 ·have H := cf H a2
  refine At.skip K ?_
  refine aQ ?_
  refine aQ ?_
  refine aR ?_
  refine iR 4 4 [(20, (pt g1 0)), (21, (.string ⟨List.toArray j⟩)), (22, (.string ⟨List.toArray m⟩)), (23, (.string ⟨List.toArray s⟩))] ?_
  obtain ⟨f, c1, H⟩ := Qb H
  refine iS 5 ?_
  refine cF 24 #[(.tmp 20), (.tmp 21), (.tmp 22), (.tmp 23)] #[29, 9, 9, 9] 24 Tryz.call24 (R2 g1 A7 c8 c q2 q3 q4 q5 g h j m s a9 (Yd v [0, 1] rfl rfl) (fun w hm => a8 w (SP.through v (l := [0, 1]) rfl hm)) f c1) ?_
  rintro e c2 ⟨rfl, b1⟩
  refine ⟨_, rfl, ?_⟩
  have b2 : SP S w0 c2 [Qn g1 79 #[(.int .i64 q2), (.int .i64 q3), (.int .i64 q4), (.int .i64 q5), (.slice A7 (List.length (List.map stT g)) c8), (.map (some c))], V5 c h] := Vv v [0, 1] [] rfl rfl b1 rfl
  clear b1
  refine iR 1 6 [(13, (.string ⟨List.toArray f⟩))] ?_
  refine iF ?_
  refine aQ ?_
  refine At.join (fun ρ w => ∃ (q : Bool), V6 ρ [(34, (.bool q))] ∧ SP S w0 w [Qn g1 79 #[(.int .i64 q2), (.int .i64 q3), (.int .i64 q4), (.int .i64 q5), (.slice A7 (List.length (List.map stT g)) c8), (.map (some c))], V5 c h] ∧ Jh q = some r) ?_ ?_
  ·refine aR ?_
   refine iR 1 1 [(25, (.string ⟨List.toArray f⟩))] ?_
   refine iS 2 ?_
   refine V0 (op := .eql) (T := 9) (T' := 9) (x := (.tmp 25)) (y := (.const (.string ⟨List.toArray ([] : List UInt8)⟩))) (a := f) (b := ([] : List UInt8)) (r := (.bool (f == ([] : List UInt8)))) (d := (some 26)) (k := 1) K rfl K K rfl ?_
   refine iR 1 3 [(27, (.bool (f == ([] : List UInt8))))] ?_
   refine In.guard (t := 27) (b := (f == ([] : List UInt8))) K (fun a3 => ?_) (fun a3 => ?_)
   ·have H := ct H a3
    refine iR 7 10 [(28, undef), (29, undef), (30, undef), (31, undef), (32, undef), (33, undef), (34, (.bool true))] ?_
    refine iF ?_
    exact ⟨true, ⟨K, trivial⟩, SP.sel b2 [0, 1] rfl rfl, H⟩
   ·have H := cf H a3
    refine iR 1 4 [(28, (.string ⟨List.toArray f⟩))] ?_
    obtain ⟨c3, H⟩ := V4 H
    refine iS 5 ?_
    refine Bd (S' := 9) (T := 52) (E := 5) (x := (.tmp 28)) (l := f) (d := (some 29)) (k := 4) K rfl K K K K (Be c3) b2 ?_
    intro a4 a5 c4 b3 _
    have c5 : SP S w0 c4 [Qn g1 79 #[(.int .i64 q2), (.int .i64 q3), (.int .i64 q4), (.int .i64 q5), (.slice A7 (List.length (List.map stT g)) c8), (.map (some c))], V5 c h, rdE eU8 (some ⟨a4, 0, none⟩) a5 f] := b3
    clear b3
    refine iR 1 6 [(30, (.string ⟨List.toArray p⟩))] ?_
    obtain ⟨c6, H⟩ := V4 H
    refine iS 7 ?_
    refine Bd (S' := 9) (T := 52) (E := 5) (x := (.tmp 30)) (l := p) (d := (some 31)) (k := 6) K rfl K K K K (Be c6) c5 ?_
    intro b4 b5 b6 b7 _
    have a6 : SP S w0 b6 [Qn g1 79 #[(.int .i64 q2), (.int .i64 q3), (.int .i64 q4), (.int .i64 q5), (.slice A7 (List.length (List.map stT g)) c8), (.map (some c))], V5 c h, rdE eU8 (some ⟨a4, 0, none⟩) a5 f, rdE eU8 (some ⟨b4, 0, none⟩) b5 p] := b7
    clear b7
    obtain ⟨z, c7, H⟩ := Qb H
    refine iS 8 ?_
    refine cF 52 #[(.tmp 29), (.tmp 31)] #[52, 52] 32 Tryz.call52 (It (some ⟨a4, 0, none⟩) a5 (some ⟨b4, 0, none⟩) b5 f p b6 (Oa (SP.get a6 (i := 2) rfl)) (Oa (SP.get a6 (i := 3) rfl)) z c7) ?_
    rintro e d0 ⟨rfl, b8⟩
    refine ⟨_, rfl, ?_⟩
    have c9 := SP.call a6 b8
    clear b8
    refine iR 2 10 [(33, (.bool (!z))), (34, (.bool (!z)))] ?_
    refine iF ?_
    exact ⟨(!z), ⟨K, trivial⟩, SP.sel c9 [0, 1] rfl rfl, H⟩
  ·rintro ρ d1 ⟨q, hk, b9, H⟩
   unfold Jh at H
   first | refine At.known [(34, (.bool q))] hk ?_ | rw [← Qv (l := [(34, (.bool q))]) hk]
   refine V1 K (o := (.tmp 34)) K (b := q) K (fun a7 => ?_) (fun a7 => ?_)
   ·have H := ct H a7
    refine aQ ?_
    refine aR ?_
    refine iR 1 1 [(12, (.int .i64 101))] ?_
    refine iF ?_
    refine At.ret K ?_
    refine ⟨(.int .i64 101), K, ?_⟩
    obtain rfl := Qe H
    exact ⟨rfl, SP.sel b9 [0,1] rfl rfl⟩
   ·have H := cf H a7
    refine At.skip K ?_
    refine aQ ?_
    refine aR ?_
    refine iR 1 1 [(12, (.int .i64 0))] ?_
    refine iF ?_
    refine At.ret K ?_
    refine ⟨(.int .i64 0), K, ?_⟩
    obtain rfl := Qe H
    exact ⟨rfl, SP.sel b9 [0,1] rfl rfl⟩
end Go.Proofs.YtmgfanhcdfobhaaGreatDoor
namespace Go.Proofs.YtmgfanhcdfobhaaGreatDoor
open Go.RowKit
def Up (a : Int) (b : Int) (c : Int) (d : Int) (e : (List Qg)) : Option (Option (Int × Int × Int × Int × (List (List UInt8)))) :=
  ((Ur a b c d e).bind fun f => (cond (!f) (some none) (some (some (a, b, c, d, ([] : List (List UInt8)))))))
theorem Uy (A6 : Option Addr) (c7 : Nat) (a : Int) (c : Int) (f : Int) (g : Int) (d9 : (List Va)) (w0 : World) (y : (dDS Js Ce).ok w0 (A6, c7, d9)) (r : (Option (Int × Int × Int × Int × (List (List UInt8))))) (H : Up a c f g (List.map stT d9) = some r) :
  Calls Tryz.prog 19 #[(.agg #[(.int .i64 a), (.int .i64 c), (.int .i64 f), (.int .i64 g), (.slice A6 (List.length (List.map stT d9)) c7)])] w0 (fun e w' => match r with | none => e = .returned (.pointer none) ∧ SP [] w0 w' [] | some o => ∃ (q : Nat) (s : Option Addr) (u : Nat), e = .returned (pt q 0) ∧ SP [] w0 w' [Qn q 81 #[(.int .i64 o.1), (.int .i64 o.2.1), (.int .i64 o.2.2.1), (.int .i64 o.2.2.2.1), (.slice A6 (List.length (List.map stT d9)) c7), (.slice s (List.length o.2.2.2.2) u)], Yc 9 Qx s u o.2.2.2.2]) := by
 unfold Up at H
 refine Qs (n := 9) Tryz.func19 K K K ?_
 have z := Q0 [] w0
 refine aQ ?_
 refine aR ?_
 refine iS 1 ?_
 refine Vn (t := 24) (x := (.tmp 0)) (v := (.agg #[(.int .i64 a), (.int .i64 c), (.int .i64 f), (.int .i64 g), (.slice A6 (List.length (List.map stT d9)) c7)])) (d := (some 1)) (k := 0) K rfl K z ?_
 intro i a0 j
 refine iR 1 2 [(2, (.pointer none))] ?_
 refine iF ?_
 refine aQ ?_
 refine aQ ?_
 refine aR ?_
 refine iS 1 ?_
 refine sL 24 1 i 0 0 (.agg #[(.int .i64 a), (.int .i64 c), (.int .i64 f), (.int .i64 g), (.slice A6 (List.length (List.map stT d9)) c7)]) 3 j rfl ?_
 obtain ⟨l, a1, H⟩ := Qb H
 refine iS 2 ?_
 refine cF 44 #[(.tmp 3)] #[24] 4 Tryz.call44 (Bz A6 c7 a c f g d9 a0 (Dp.sp y j) l a1) ?_
 rintro e a5 ⟨rfl, w⟩
 refine ⟨_, rfl, ?_⟩
 have m := SP.call j w
 clear w
 refine iR 1 3 [(5, (.bool (!l)))] ?_
 refine iF ?_
 refine V1 K (o := (.tmp 5)) K (b := (!l)) K (fun p => ?_) (fun p => ?_)
 ·have H := ct H p
  refine aQ ?_
  refine aR ?_
  refine iR 1 1 [(2, (.pointer none))] ?_
  refine iF ?_
  refine At.ret K ?_
  refine ⟨(.pointer none), K, ?_⟩
  obtain rfl := Qe H
  exact ⟨rfl, SP.sel m [] rfl rfl⟩
 ·have H := cf H p
  refine At.skip K ?_
  refine aQ ?_
  refine aR ?_
  refine iS 1 ?_
  refine sL 24 1 i 0 0 (.agg #[(.int .i64 a), (.int .i64 c), (.int .i64 f), (.int .i64 g), (.slice A6 (List.length (List.map stT d9)) c7)]) 6 m rfl ?_
  refine iR 1 2 [(7, (.agg #[(.int .i64 a), (.int .i64 c), (.int .i64 f), (.int .i64 g), (.slice A6 (List.length (List.map stT d9)) c7), (.slice none (List.length ([] : List (List UInt8))) 0)]))] ?_
  refine iS 3 ?_
  refine Vn (t := 81) (x := (.tmp 7)) (v := (.agg #[(.int .i64 a), (.int .i64 c), (.int .i64 f), (.int .i64 g), (.slice A6 (List.length (List.map stT d9)) c7), (.slice none (List.length ([] : List (List UInt8))) 0)])) (d := (some 8)) (k := 2) K rfl K m ?_
  intro h a2 a3
  refine iR 1 4 [(2, (pt h 0))] ?_
  refine iF ?_
  refine At.ret K ?_
  have a4 : SP [] w0 a2 [Qn i 24 #[(.int .i64 a), (.int .i64 c), (.int .i64 f), (.int .i64 g), (.slice A6 (List.length (List.map stT d9)) c7)], Qn h 81 #[(.int .i64 a), (.int .i64 c), (.int .i64 f), (.int .i64 g), (.slice A6 (List.length (List.map stT d9)) c7), (.slice none (List.length ([] : List (List UInt8))) 0)], Yc 9 Qx none 0 ([] : List (List UInt8))] := D4 a3 9 Qx
  refine ⟨(pt h 0), K, ?_⟩
  obtain rfl := Qe H
  exact ⟨h, none, 0, rfl, SP.sel a4 [1,2] rfl rfl⟩
def Z5 (q2 : Int) (q3 : Int) (q4 : Int) (q5 : Int) (q6 : (List Qg)) (e : (List (List UInt8))) (c : (List UInt8)) (d : (List UInt8)) : Option ((List UInt8) × (List UInt8) × Int × Bool) :=
  ((Gn q2 q3 q4 q5 q6 c).bind fun a => ((Nw a.1 a.2.1 a.2.2.1 a.2.2.2.1 a.2.2.2.2.1 d).bind fun b => (some (b.1, b.2.1, b.2.2.1, b.2.2.2))))
theorem Ue {S : List Nat} (g1 : Nat) (A7 : Option Addr) (c8 : Nat) (u : Option Addr) (a0 : Nat) (q2 : Int) (q3 : Int) (q4 : Int) (q5 : Int) (f : (List Va)) (o : (List (List UInt8))) (p : (List UInt8)) (q : (List UInt8)) (w0 : World) (hO : SP S w0 w0 [Qn g1 81 #[(.int .i64 q2), (.int .i64 q3), (.int .i64 q4), (.int .i64 q5), (.slice A7 (List.length (List.map stT f)) c8), (.slice u (List.length o) a0)], Yc 9 Qx u a0 o]) (b0 : ∀ w, Mod S w0 w → (dDS Js Ce).ok w (A7, c8, f)) (r : ((List UInt8) × (List UInt8) × Int × Bool)) (H : Z5 q2 q3 q4 q5 (List.map stT f) o p q = some r) :
  Calls Tryz.prog 47 #[(pt g1 0), (.string ⟨List.toArray p⟩), (.string ⟨List.toArray q⟩)] w0 (fun e w' => ∃ (a3 : Option Addr) (a4 : Nat), e = .returned (.tuple #[(.agg #[(.string ⟨List.toArray r.1⟩), (.string ⟨List.toArray r.2.1⟩), (.int .i64 r.2.2.1)]), (.bool r.2.2.2)]) ∧ SP S w0 w' [Qn g1 81 #[(.int .i64 q2), (.int .i64 q3), (.int .i64 q4), (.int .i64 q5), (.slice A7 (List.length (List.map stT f)) c8), (.slice a3 (List.length o) a4)], Yc 9 Qx a3 a4 o]) := by
 unfold Z5 at H
 refine Qs (n := 24) Tryz.func47 K K K ?_
 have b1 := hO
 refine aQ ?_
 refine aR ?_
 refine iS 1 ?_
 refine Qi.alloc (t := 48) (z := (.agg #[(.string ⟨List.toArray ([] : List UInt8)⟩), (.string ⟨List.toArray ([] : List UInt8)⟩), (.int .i64 0)])) (d := (some 6)) (k := 0) K rfl K b1 ?_
 intro a5 b2 a1
 refine iR 1 2 [(7, (.bool false))] ?_
 refine iF ?_
 refine aQ ?_
 refine aR ?_
 refine iR 3 3 [(11, (pt g1 0)), (12, (pt g1 0)), (13, (pt g1 0))] ?_
 refine iS 4 ?_
 refine sL 24 13 g1 0 0 (.agg #[(.int .i64 q2), (.int .i64 q3), (.int .i64 q4), (.int .i64 q5), (.slice A7 (List.length (List.map stT f)) c8)]) 14 a1 rfl ?_
 refine iR 1 5 [(15, (.string ⟨List.toArray p⟩))] ?_
 obtain ⟨b, b3, H⟩ := Qb H
 refine iS 6 ?_
 refine cF 28 #[(.tmp 14), (.tmp 15)] #[24, 9] 16 Tryz.call28 (Cm (R := fun w => Mod S w0 w) A7 c8 q2 q3 q4 q5 f p b2 (fun w hb => Hz a1 hb) b0 b b3) ?_
 rintro e c0 ⟨h, j, l, m, rfl, b4, b5, a6⟩
 refine ⟨_, rfl, ?_⟩
 have b6 := SP.call a1 a6
 clear a6
 refine iR 3 9 [(10, (.tuple #[(.agg #[(.string ⟨List.toArray b.1⟩), (.int .i64 b.2.1), (.int .i64 b.2.2.1), (.slice h (List.length b.2.2.2.1) j), (.slice l (List.length b.2.2.2.2.1) m)]), (.bool b.2.2.2.2.2)])), (17, (.agg #[(.string ⟨List.toArray b.1⟩), (.int .i64 b.2.1), (.int .i64 b.2.2.1), (.slice h (List.length b.2.2.2.1) j), (.slice l (List.length b.2.2.2.2.1) m)])), (18, (.bool b.2.2.2.2.2))] ?_
 refine iS 10 ?_
 refine Qi.alloc (t := 44) (z := (.agg #[(.string ⟨List.toArray ([] : List UInt8)⟩), (.int .i64 0), (.int .i64 0), (.slice none (List.length ([] : List (Int × Int))) 0), (.slice none (List.length ([] : List ((List UInt8) × (List UInt8) × Int))) 0)])) (d := (some 8)) (k := 9) K rfl K b6 ?_
 intro a7 c1 b7
 refine iS 11 ?_
 refine Qi.store (t := 44) (x := (.tmp 8)) (y := (.tmp 17)) (g := a7) (off := 0) (i := 3) (v := (.agg #[(.string ⟨List.toArray b.1⟩), (.int .i64 b.2.1), (.int .i64 b.2.2.1), (.slice h (List.length b.2.2.2.1) j), (.slice l (List.length b.2.2.2.2.1) m)])) (cs' := #[(.string ⟨List.toArray b.1⟩), (.int .i64 b.2.1), (.int .i64 b.2.2.1), (.slice h (List.length b.2.2.2.1) j), (.slice l (List.length b.2.2.2.2.1) m)]) (d := none) (k := 10) K rfl K K b7 rfl K ?_
 intro a2 s
 refine iR 1 12 [(9, (.bool b.2.2.2.2.2))] ?_
 refine iF ?_
 refine aQ ?_
 refine aR ?_
 refine iS 1 ?_
 refine sL 44 8 a7 0 3 (.agg #[(.string ⟨List.toArray b.1⟩), (.int .i64 b.2.1), (.int .i64 b.2.2.1), (.slice h (List.length b.2.2.2.1) j), (.slice l (List.length b.2.2.2.2.1) m)]) 19 s rfl ?_
 refine iR 1 2 [(20, (.string ⟨List.toArray q⟩))] ?_
 obtain ⟨c, b8, H⟩ := Qb H
 refine iS 3 ?_
 refine cF 29 #[(.tmp 19), (.tmp 20)] #[44, 9] 21 Tryz.call29 (B0 h j l m b.1 b.2.1 b.2.2.1 b.2.2.2.1 b.2.2.2.2.1 q a2 (b4 a2 (SP.mod s)) (b5 a2 (SP.mod s)) c b8) ?_
 rintro e c2 ⟨rfl, a8⟩
 refine ⟨_, rfl, ?_⟩
 have b9 := SP.call s a8
 clear a8
 refine iR 2 5 [(22, (.agg #[(.string ⟨List.toArray c.1⟩), (.string ⟨List.toArray c.2.1⟩), (.int .i64 c.2.2.1)])), (23, (.bool c.2.2.2))] ?_
 refine iS 6 ?_
 refine Qi.store (t := 48) (x := (.tmp 6)) (y := (.tmp 22)) (g := a5) (off := 0) (i := 2) (v := (.agg #[(.string ⟨List.toArray c.1⟩), (.string ⟨List.toArray c.2.1⟩), (.int .i64 c.2.2.1)])) (cs' := #[(.string ⟨List.toArray c.1⟩), (.string ⟨List.toArray c.2.1⟩), (.int .i64 c.2.2.1)]) (d := none) (k := 5) K rfl K K b9 rfl K ?_
 intro c3 a9
 refine iR 1 7 [(7, (.bool c.2.2.2))] ?_
 refine iF ?_
 refine At.ret K ?_
 refine ⟨(.tuple #[(.agg #[(.string ⟨List.toArray c.1⟩), (.string ⟨List.toArray c.2.1⟩), (.int .i64 c.2.2.1)]), (.bool c.2.2.2)]), C2 K (J4 (a := 6) (t := 48) (g := a5) (off := 0) K (SP.get a9 (i := 2) rfl) K) (R4 (t := 7) K), ?_⟩
 obtain rfl := Qe H
 exact ⟨u, a0, rfl, SP.sel a9 [0,1] rfl rfl⟩
def Z8 (a : Int → Option (Bool)) (b : Int) (c : Bool) : Option (Bool) :=
  (cond c (some (true)) (a (IntKind.wrap .i64 (b + 2))))
def V3 (c : Int → Option (Bool)) (b : (List (List UInt8))) (d : (List UInt8)) (e : (List UInt8)) (a : Int) : Option (Bool) :=
  (cond (decide ((IntKind.wrap .i64 (a + 1)) < ((List.length b : Nat) : Int))) ((idx b a).bind fun f => (cond (f == d) ((idx b (IntKind.wrap .i64 (a + 1))).bind fun g => (Z8 c a (g == e))) (Z8 c a false))) (some (false)))
def Vm (a : (List (List UInt8))) (b : (List UInt8)) (c : (List UInt8)) : Nat → Int → Option (Bool)
  | 0, _ => none
  | f + 1, d => V3  (Vm a b c f) a b c d
def X4 (q2 : Int) (q3 : Int) (q4 : Int) (q5 : Int) (q6 : (List Qg)) (a : (List (List UInt8))) (b : (List UInt8)) (c : (List UInt8)) : Option (Bool) :=
  (Vm a b c Zj 0)
theorem Nh {S : List Nat} (g1 : Nat) (A7 : Option Addr) (c8 : Nat) (p : Option Addr) (q : Nat) (q2 : Int) (q3 : Int) (q4 : Int) (q5 : Int) (u : (List Va)) (g : (List (List UInt8))) (h : (List UInt8)) (m : (List UInt8)) (w0 : World) (hO : SP S w0 w0 [Qn g1 81 #[(.int .i64 q2), (.int .i64 q3), (.int .i64 q4), (.int .i64 q5), (.slice A7 (List.length (List.map stT u)) c8), (.slice p (List.length g) q)], Yc 9 Qx p q g]) (c0 : ∀ w, Mod S w0 w → (dDS Js Ce).ok w (A7, c8, u)) (r : (Bool)) (H : X4 q2 q3 q4 q5 (List.map stT u) g h m = some r) :
  Calls Tryz.prog 48 #[(pt g1 0), (.string ⟨List.toArray h⟩), (.string ⟨List.toArray m⟩)] w0 (fun e w' => ∃ (a4 : Option Addr) (a5 : Nat), e = .returned (.bool r) ∧ SP S w0 w' [Qn g1 81 #[(.int .i64 q2), (.int .i64 q3), (.int .i64 q4), (.int .i64 q5), (.slice A7 (List.length (List.map stT u)) c8), (.slice a4 (List.length g) a5)], Yc 9 Qx a4 a5 g]) := by
 unfold X4 at H
 refine Qs (n := 39) Tryz.func48 K K K ?_
 have b1 := hO
 refine aQ ?_
 refine aR ?_
 refine iR 1 1 [(6, (.bool false))] ?_
 refine iF ?_
 refine aQ ?_
 refine aQ ?_
 refine aR ?_
 refine iR 1 1 [(7, (.int .i64 0))] ?_
 refine iF ?_
 refine Z1 K (id := 0) K ?_
 refine Nl K (fun f3 ρ w => ∃ (f : Int), V6 ρ [(0, (pt g1 0)), (1, (.string ⟨List.toArray h⟩)), (2, (.string ⟨List.toArray m⟩)), (7, (.int .i64 f))] ∧ SP S w0 w [Yc 9 Qx p q g, Qn g1 81 #[(.int .i64 q2), (.int .i64 q3), (.int .i64 q4), (.int .i64 q5), (.slice A7 (List.length (List.map stT u)) c8), (.slice p (List.length g) q)]] ∧ Vm g h m f3 f = some r) (by rintro ρ w ⟨f, hk, hs, H⟩; cases H) ?_ Zj ?_
 ·rintro f3 ρ c1 ⟨f, hk, s, H⟩
  refine At.known [(0, (pt g1 0)), (1, (.string ⟨List.toArray h⟩)), (2, (.string ⟨List.toArray m⟩)), (7, (.int .i64 f))] hk ?_
  replace H := (show V3 (Vm g h m f3) g h m f = some r from H)
  unfold V3 at H
  refine aQ ?_
  refine aQ ?_
  refine aR ?_
  refine iR 5 5 [(8, (.int .i64 f)), (9, (.int .i64 (IntKind.wrap .i64 (f + 1)))), (10, (pt g1 0)), (11, (pt g1 0)), (12, (pt g1 5))] ?_
  refine iS 6 ?_
  refine sL 53 12 g1 5 1 (.slice p (List.length g) q) 13 s rfl ?_
  refine iR 2 8 [(14, (.int .i64 ((List.length g : Nat) : Int))), (15, (.bool (decide ((IntKind.wrap .i64 (f + 1)) < ((List.length g : Nat) : Int)))))] ?_
  refine iF ?_
  refine V1 K (o := (.tmp 15)) K (b := (decide ((IntKind.wrap .i64 (f + 1)) < ((List.length g : Nat) : Int)))) K (fun a1 => ?_) (fun a1 => ?_)
  ·have H := ct H a1
   refine At.skip K ?_
   refine aQ ?_
   refine Z1 K (id := 1) K ?_
   refine aQ ?_
   refine At.join (fun ρ w => ∃ (v : Bool), V6 ρ [(0, (pt g1 0)), (1, (.string ⟨List.toArray h⟩)), (2, (.string ⟨List.toArray m⟩)), (7, (.int .i64 f)), (38, (.bool v))] ∧ SP S w0 w [Yc 9 Qx p q g, Qn g1 81 #[(.int .i64 q2), (.int .i64 q3), (.int .i64 q4), (.int .i64 q5), (.slice A7 (List.length (List.map stT u)) c8), (.slice p (List.length g) q)]] ∧ Z8 (Vm g h m f3) f v = some r) ?_ ?_
   ·refine aR ?_
    refine iR 3 3 [(18, (pt g1 0)), (19, (pt g1 0)), (20, (pt g1 5))] ?_
    refine iS 4 ?_
    refine sL 53 20 g1 5 1 (.slice p (List.length g) q) 21 s rfl ?_
    refine iR 1 5 [(22, (.int .i64 f))] ?_
    obtain ⟨z, a6, a7, b2, H⟩ := Qo H
    refine iS 6 ?_
    refine Vi (e := Qx) (l := g) (A := p) (c := q) (T := 53) (E := 9) (x := (.tmp 21)) (ix := (.tmp 22)) (ki := .i64) (iz := f) (d := (some 23)) (k := 5) K rfl K K K K (Vs (SP.get s (i := 0) rfl)) a6 a7 ?_
    intro b3 b4 b5 c2 hc271
    refine iS 7 ?_
    refine sC 9 23 b3 (b4 + Int.toNat f * Qx.sz) (.string ⟨List.toArray z⟩) 24 (Qk (e := Qx) (Qh (Vs (SP.get s (i := 0) rfl)) b5 a6 a7) b2 (j := 0) rfl) ?_
    refine iR 1 8 [(25, (.string ⟨List.toArray h⟩))] ?_
    refine iS 9 ?_
    refine V0 (op := .eql) (T := 9) (T' := 9) (x := (.tmp 24)) (y := (.tmp 25)) (a := z) (b := h) (r := (.bool (z == h))) (d := (some 26)) (k := 8) K rfl K K rfl ?_
    refine iR 1 10 [(27, (.bool (z == h)))] ?_
    refine In.guard (t := 27) (b := (z == h)) K (fun a2 => ?_) (fun a2 => ?_)
    ·have H := ct H a2
     refine iR 3 13 [(28, (pt g1 0)), (29, (pt g1 0)), (30, (pt g1 5))] ?_
     refine iS 14 ?_
     refine sL 53 30 g1 5 1 (.slice p (List.length g) q) 31 s rfl ?_
     refine iR 2 16 [(32, (.int .i64 f)), (33, (.int .i64 (IntKind.wrap .i64 (f + 1))))] ?_
     obtain ⟨a0, a8, a9, b6, H⟩ := Qo H
     refine iS 17 ?_
     refine Vi (e := Qx) (l := g) (A := p) (c := q) (T := 53) (E := 9) (x := (.tmp 31)) (ix := (.tmp 33)) (ki := .i64) (iz := (IntKind.wrap .i64 (f + 1))) (d := (some 34)) (k := 16) K rfl K K K K (Vs (SP.get s (i := 0) rfl)) a8 a9 ?_
     intro b7 b8 b9 c3 hc281
     refine iS 18 ?_
     refine sC 9 34 b7 (b8 + Int.toNat (IntKind.wrap .i64 (f + 1)) * Qx.sz) (.string ⟨List.toArray a0⟩) 35 (Qk (e := Qx) (Qh (Vs (SP.get s (i := 0) rfl)) b9 a8 a9) b6 (j := 0) rfl) ?_
     refine iR 1 19 [(36, (.string ⟨List.toArray m⟩))] ?_
     refine iS 20 ?_
     refine V0 (op := .eql) (T := 9) (T' := 9) (x := (.tmp 35)) (y := (.tmp 36)) (a := a0) (b := m) (r := (.bool (a0 == m))) (d := (some 37)) (k := 19) K rfl K K rfl ?_
     refine iR 1 21 [(38, (.bool (a0 == m)))] ?_
     refine iF ?_
     exact ⟨(a0 == m), ⟨K, K, K, K, K, trivial⟩, SP.sel s [0, 1] rfl rfl, H⟩
    ·have H := cf H a2
     refine iR 11 21 [(28, undef), (29, undef), (30, undef), (31, undef), (32, undef), (33, undef), (34, undef), (35, undef), (36, undef), (37, undef), (38, (.bool false))] ?_
     refine iF ?_
     exact ⟨false, ⟨K, K, K, K, K, trivial⟩, SP.sel s [0, 1] rfl rfl, H⟩
   ·rintro ρ c4 ⟨v, hk, b0, H⟩
    unfold Z8 at H
    first | refine At.known [(0, (pt g1 0)), (1, (.string ⟨List.toArray h⟩)), (2, (.string ⟨List.toArray m⟩)), (7, (.int .i64 f)), (38, (.bool v))] hk ?_ | rw [← Qv (l := [(0, (pt g1 0)), (1, (.string ⟨List.toArray h⟩)), (2, (.string ⟨List.toArray m⟩)), (7, (.int .i64 f)), (38, (.bool v))]) hk]
    refine V1 K (o := (.tmp 38)) K (b := v) K (fun a3 => ?_) (fun a3 => ?_)
    ·have H := ct H a3
     refine aQ ?_
     refine aR ?_
     refine iR 1 1 [(6, (.bool true))] ?_
     refine iF ?_
     refine At.ret K ?_
     refine ⟨(.bool true), K, ?_⟩
     obtain rfl := Qe H
     exact ⟨p, q, rfl, SP.sel b0 [1,0] rfl rfl⟩
    ·have H := cf H a3
     refine At.skip K ?_
     refine aR ?_
     refine iR 3 3 [(16, (.int .i64 f)), (17, (.int .i64 (IntKind.wrap .i64 (f + 2)))), (7, (.int .i64 (IntKind.wrap .i64 (f + 2))))] ?_
     refine iF ?_
     exact ⟨(IntKind.wrap .i64 (f + 2)), ⟨K, K, K, K, trivial⟩, SP.sel b0 [0, 1] rfl rfl, H⟩
  ·have H := cf H a1
   refine At.exit K (id := 0) K ?_
   refine aQ ?_
   refine aR ?_
   refine iR 1 1 [(6, (.bool false))] ?_
   refine iF ?_
   refine At.ret K ?_
   refine ⟨(.bool false), K, ?_⟩
   obtain rfl := Qe H
   exact ⟨p, q, rfl, SP.sel s [1,0] rfl rfl⟩
 ·exact ⟨0, ⟨K, K, K, K, trivial⟩, SP.sel b1 [1, 0] rfl rfl, H⟩
def Xe (q2 : Int) (q3 : Int) (q4 : Int) (q5 : Int) (b : (List UInt8)) (c : (List UInt8)) (a : (List (List UInt8))) (d : Bool) : Option (Bool × Int × Int × Int × Int × (List (List UInt8))) :=
  (cond d (some (false, q2, q3, q4, q5, a)) ((app a ([b, c] : List (List UInt8))).bind fun e => (some (true, q2, q3, q4, q5, e))))
def Yf (q2 : Int) (q3 : Int) (q4 : Int) (q5 : Int) (q6 : (List Qg)) (a : (List (List UInt8))) (b : (List UInt8)) (c : (List UInt8)) : Option (Bool × Int × Int × Int × Int × (List (List UInt8))) :=
  ((Z5 q2 q3 q4 q5 q6 a b c).bind fun d => (cond (!d.2.2.2) (Xe q2 q3 q4 q5 b c a true) ((X4 q2 q3 q4 q5 q6 a b c).bind fun e => (Xe q2 q3 q4 q5 b c a e))))
theorem Dc {S : List Nat} (g1 : Nat) (A7 : Option Addr) (c8 : Nat) (a5 : Option Addr) (a6 : Nat) (q2 : Int) (q3 : Int) (q4 : Int) (q5 : Int) (p : (List Va)) (j : (List (List UInt8))) (f : (List UInt8)) (h : (List UInt8)) (w0 : World) (hO : SP S w0 w0 [Qn g1 81 #[(.int .i64 q2), (.int .i64 q3), (.int .i64 q4), (.int .i64 q5), (.slice A7 (List.length (List.map stT p)) c8), (.slice a5 (List.length j) a6)], Yc 9 Qx a5 a6 j]) (b6 : ∀ w, Mod S w0 w → (dDS Js Ce).ok w (A7, c8, p)) (r : (Bool × Int × Int × Int × Int × (List (List UInt8)))) (H : Yf q2 q3 q4 q5 (List.map stT p) j f h = some r) :
  Calls Tryz.prog 21 #[(pt g1 0), (.string ⟨List.toArray f⟩), (.string ⟨List.toArray h⟩)] w0 (fun e w' => ∃ (b7 : Option Addr) (b8 : Nat), e = .returned (.bool r.1) ∧ SP S w0 w' [Qn g1 81 #[(.int .i64 r.2.1), (.int .i64 r.2.2.1), (.int .i64 r.2.2.2.1), (.int .i64 r.2.2.2.2.1), (.slice A7 (List.length (List.map stT p)) c8), (.slice b7 (List.length r.2.2.2.2.2) b8)], Yc 9 Qx b7 b8 r.2.2.2.2.2]) := by
 unfold Yf at H
 refine Qs (n := 35) Tryz.func21 K K K ?_
 have a7 := hO
 refine aQ ?_
 refine aR ?_
 refine iR 1 1 [(6, (.bool false))] ?_
 refine iF ?_
 refine aQ ?_
 refine aR ?_
 refine iR 3 3 [(10, (pt g1 0)), (11, (.string ⟨List.toArray f⟩)), (12, (.string ⟨List.toArray h⟩))] ?_
 obtain ⟨a, c4, H⟩ := Qb H
 refine iS 4 ?_
 refine cF 47 #[(.tmp 10), (.tmp 11), (.tmp 12)] #[31, 9, 9] 13 Tryz.call47 (Ue g1 A7 c8 a5 a6 q2 q3 q4 q5 p j f h w0 (Yd a7 [0, 1] rfl rfl) (fun w hm => b6 w (SP.through a7 (l := [0, 1]) rfl hm)) a c4) ?_
 rintro e c5 ⟨a2, a3, rfl, b9⟩
 refine ⟨_, rfl, ?_⟩
 have c6 : SP S w0 c5 [Qn g1 81 #[(.int .i64 q2), (.int .i64 q3), (.int .i64 q4), (.int .i64 q5), (.slice A7 (List.length (List.map stT p)) c8), (.slice a2 (List.length j) a3)], Yc 9 Qx a2 a3 j] := Vv a7 [0, 1] [] rfl rfl b9 rfl
 clear b9
 refine iR 3 7 [(9, (.tuple #[(.agg #[(.string ⟨List.toArray a.1⟩), (.string ⟨List.toArray a.2.1⟩), (.int .i64 a.2.2.1)]), (.bool a.2.2.2)])), (14, (.agg #[(.string ⟨List.toArray a.1⟩), (.string ⟨List.toArray a.2.1⟩), (.int .i64 a.2.2.1)])), (15, (.bool a.2.2.2))] ?_
 refine iS 8 ?_
 refine Qi.alloc (t := 48) (z := (.agg #[(.string ⟨List.toArray ([] : List UInt8)⟩), (.string ⟨List.toArray ([] : List UInt8)⟩), (.int .i64 0)])) (d := (some 7)) (k := 7) K rfl K c6 ?_
 intro c0 d6 c7
 refine iS 9 ?_
 refine Qi.store (t := 48) (x := (.tmp 7)) (y := (.tmp 14)) (g := c0) (off := 0) (i := 2) (v := (.agg #[(.string ⟨List.toArray a.1⟩), (.string ⟨List.toArray a.2.1⟩), (.int .i64 a.2.2.1)])) (cs' := #[(.string ⟨List.toArray a.1⟩), (.string ⟨List.toArray a.2.1⟩), (.int .i64 a.2.2.1)]) (d := none) (k := 8) K rfl K K c7 rfl K ?_
 intro c9 a4
 refine iR 1 10 [(8, (.bool a.2.2.2))] ?_
 refine iF ?_
 refine aQ ?_
 refine aQ ?_
 refine At.join (fun ρ w => ∃ (q : (List (List UInt8))) (u : Bool) (a0 : Option Addr) (a1 : Nat), V6 ρ [(0, (pt g1 0)), (1, (.string ⟨List.toArray f⟩)), (2, (.string ⟨List.toArray h⟩)), (23, (.bool u))] ∧ SP S w0 w [Yc 9 Qx a0 a1 q, Qn g1 81 #[(.int .i64 q2), (.int .i64 q3), (.int .i64 q4), (.int .i64 q5), (.slice A7 (List.length (List.map stT p)) c8), (.slice a0 (List.length q) a1)]] ∧ Xe q2 q3 q4 q5 f h q u = some r) ?_ ?_
 ·refine aR ?_
  refine iR 3 3 [(16, (.bool a.2.2.2)), (17, (.bool (!a.2.2.2))), (18, (.bool (!a.2.2.2)))] ?_
  refine In.guard (t := 18) (b := (!a.2.2.2)) K (fun a8 => ?_) (fun a8 => ?_)
  ·have H := ct H a8
   refine iR 5 8 [(19, undef), (20, undef), (21, undef), (22, undef), (23, (.bool true))] ?_
   refine iF ?_
   exact ⟨j, true, a2, a3, ⟨K, K, K, K, trivial⟩, SP.sel a4 [1, 0] rfl rfl, H⟩
  ·have H := cf H a8
   refine iR 3 6 [(19, (pt g1 0)), (20, (.string ⟨List.toArray f⟩)), (21, (.string ⟨List.toArray h⟩))] ?_
   obtain ⟨a9, d0, H⟩ := Qb H
   refine iS 7 ?_
   refine cF 48 #[(.tmp 19), (.tmp 20), (.tmp 21)] #[31, 9, 9] 22 Tryz.call48 (Nh g1 A7 c8 a2 a3 q2 q3 q4 q5 p j f h c9 (Yd a4 [0, 1] rfl rfl) (fun w hm => b6 w (SP.through a4 (l := [0, 1]) rfl hm)) a9 d0) ?_
   rintro e d1 ⟨b0, b1, rfl, c1⟩
   refine ⟨_, rfl, ?_⟩
   have d2 : SP S w0 d1 [Qn c0 48 #[(.string ⟨List.toArray a.1⟩), (.string ⟨List.toArray a.2.1⟩), (.int .i64 a.2.2.1)], Qn g1 81 #[(.int .i64 q2), (.int .i64 q3), (.int .i64 q4), (.int .i64 q5), (.slice A7 (List.length (List.map stT p)) c8), (.slice b0 (List.length j) b1)], Yc 9 Qx b0 b1 j] := Vv a4 [0, 1] [2] rfl rfl c1 rfl
   clear c1
   refine iR 1 8 [(23, (.bool a9))] ?_
   refine iF ?_
   exact ⟨j, a9, b0, b1, ⟨K, K, K, K, trivial⟩, SP.sel d2 [2, 1] rfl rfl, H⟩
 ·rintro ρ d7 ⟨q, u, a0, a1, hk, b2, H⟩
  unfold Xe at H
  first | refine At.known [(0, (pt g1 0)), (1, (.string ⟨List.toArray f⟩)), (2, (.string ⟨List.toArray h⟩)), (23, (.bool u))] hk ?_ | rw [← Qv (l := [(0, (pt g1 0)), (1, (.string ⟨List.toArray f⟩)), (2, (.string ⟨List.toArray h⟩)), (23, (.bool u))]) hk]
  refine V1 K (o := (.tmp 23)) K (b := u) K (fun b3 => ?_) (fun b3 => ?_)
  ·have H := ct H b3
   refine aQ ?_
   refine aR ?_
   refine iR 1 1 [(6, (.bool false))] ?_
   refine iF ?_
   refine At.ret K ?_
   refine ⟨(.bool false), K, ?_⟩
   obtain rfl := Qe H
   exact ⟨a0, a1, rfl, SP.sel b2 [1,0] rfl rfl⟩
  ·have H := cf H b3
   refine At.skip K ?_
   refine aQ ?_
   refine aR ?_
   refine iR 4 4 [(24, (pt g1 0)), (25, (pt g1 0)), (26, (pt g1 0)), (27, (pt g1 5))] ?_
   refine iS 5 ?_
   refine sL 53 27 g1 5 1 (.slice a0 (List.length q) a1) 28 b2 rfl ?_
   refine iR 2 7 [(29, (.string ⟨List.toArray f⟩)), (30, (.string ⟨List.toArray h⟩))] ?_
   refine iS 8 ?_
   refine Zv (e := Qx) (T := 53) (E := 9) (len := 2) (parts := #[(0, (.tmp 29)), (1, (.tmp 30))]) (cs := #[(.string ⟨List.toArray f⟩), (.string ⟨List.toArray h⟩)]) ([f, h] : List (List UInt8)) (d := (some 31)) (k := 7) K rfl (fun _ => K) b2 rfl rfl rfl rfl ?_
   intro d3 d8 c2
   obtain ⟨hl107, H⟩ := Uh H
   obtain ⟨c3, hyl108⟩ : ∃ y, q ++ ([f, h] : List (List UInt8)) = y := ⟨_, rfl⟩
   rw [hyl108] at H
   refine iS 9 ?_
   refine Qi.append (e := Qx) (l := q) (m := ([f, h] : List (List UInt8))) (A := a0) (c := a1) (T := 53) (TX := 53) (E := 9) (b := 16) (s := (.tmp 28)) (x := (.tmp 31)) (i := 0) (vx := (.slice (some ⟨d3, 0, none⟩) (List.length ([f, h] : List (List UInt8))) (List.length ([f, h] : List (List UInt8))))) (d := (some 32)) (k := 8) K rfl K K K K rfl c2 rfl (Rk (E := 9) K (Vs (SP.get c2 (i := 2) rfl))) hl107 ?_
   rw [hyl108]
   intro b4 b5 d9 d4
   refine iR 2 11 [(33, (pt g1 0)), (34, (pt g1 5))] ?_
   refine iS 12 ?_
   refine Qi.store (t := 53) (x := (.tmp 34)) (y := (.tmp 32)) (g := g1) (off := 5) (i := 1) (v := (.slice b4 (List.length c3) b5)) (cs' := #[(.int .i64 q2), (.int .i64 q3), (.int .i64 q4), (.int .i64 q5), (.slice A7 (List.length (List.map stT p)) c8), (.slice b4 (List.length c3) b5)]) (d := none) (k := 11) K rfl K K d4 rfl K ?_
   intro e0 d5
   refine iF ?_
   refine aQ ?_
   refine aR ?_
   refine iR 1 1 [(6, (.bool true))] ?_
   refine iF ?_
   refine At.ret K ?_
   refine ⟨(.bool true), K, ?_⟩
   obtain rfl := Qe H
   exact ⟨b4, b5, rfl, SP.sel d5 [1,0] rfl rfl⟩
def Z6 (q2 : Int) (q3 : Int) (q4 : Int) (q5 : Int) (a : (List (List UInt8))) (b : Bool) : Option (Bool × Int × Int × Int × Int × (List (List UInt8))) :=
  (some (b, q2, q3, q4, q5, a))
def Yz (q2 : Int) (q3 : Int) (q4 : Int) (q5 : Int) (q6 : (List Qg)) (a : (List (List UInt8))) (b : (List UInt8)) (c : (List UInt8)) (e : Int) : Option (Bool × Int × Int × Int × Int × (List (List UInt8))) :=
  ((Z5 q2 q3 q4 q5 q6 a b c).bind fun d => (cond d.2.2.2 ((X4 q2 q3 q4 q5 q6 a b c).bind fun f => (cond (!f) (Z6 q2 q3 q4 q5 a (decide (e < d.2.2.1))) (Z6 q2 q3 q4 q5 a false))) (Z6 q2 q3 q4 q5 a false)))
theorem Do {S : List Nat} (g1 : Nat) (A7 : Option Addr) (c8 : Nat) (a6 : Option Addr) (a7 : Nat) (q2 : Int) (q3 : Int) (q4 : Int) (q5 : Int) (f : (List Va)) (c : (List (List UInt8))) (j : (List UInt8)) (m : (List UInt8)) (h : Int) (w0 : World) (hO : SP S w0 w0 [Qn g1 81 #[(.int .i64 q2), (.int .i64 q3), (.int .i64 q4), (.int .i64 q5), (.slice A7 (List.length (List.map stT f)) c8), (.slice a6 (List.length c) a7)], Yc 9 Qx a6 a7 c]) (b2 : ∀ w, Mod S w0 w → (dDS Js Ce).ok w (A7, c8, f)) (r : (Bool × Int × Int × Int × Int × (List (List UInt8)))) (H : Yz q2 q3 q4 q5 (List.map stT f) c j m h = some r) :
  Calls Tryz.prog 23 #[(pt g1 0), (.string ⟨List.toArray j⟩), (.string ⟨List.toArray m⟩), (.int .i64 h)] w0 (fun e w' => ∃ (b3 : Option Addr) (b4 : Nat), e = .returned (.bool r.1) ∧ SP S w0 w' [Qn g1 81 #[(.int .i64 r.2.1), (.int .i64 r.2.2.1), (.int .i64 r.2.2.2.1), (.int .i64 r.2.2.2.2.1), (.slice A7 (List.length (List.map stT f)) c8), (.slice b3 (List.length r.2.2.2.2.2) b4)], Yc 9 Qx b3 b4 r.2.2.2.2.2]) := by
 unfold Yz at H
 refine Qs (n := 32) Tryz.func23 K K K ?_
 have a8 := hO
 refine aQ ?_
 refine aR ?_
 refine iR 1 1 [(8, (.bool false))] ?_
 refine iF ?_
 refine aQ ?_
 refine aR ?_
 refine iR 3 3 [(12, (pt g1 0)), (13, (.string ⟨List.toArray j⟩)), (14, (.string ⟨List.toArray m⟩))] ?_
 obtain ⟨a, b7, H⟩ := Qb H
 refine iS 4 ?_
 refine cF 47 #[(.tmp 12), (.tmp 13), (.tmp 14)] #[31, 9, 9] 15 Tryz.call47 (Ue g1 A7 c8 a6 a7 q2 q3 q4 q5 f c j m w0 (Yd a8 [0, 1] rfl rfl) (fun w hm => b2 w (SP.through a8 (l := [0, 1]) rfl hm)) a b7) ?_
 rintro e b8 ⟨q, s, rfl, b5⟩
 refine ⟨_, rfl, ?_⟩
 have b9 : SP S w0 b8 [Qn g1 81 #[(.int .i64 q2), (.int .i64 q3), (.int .i64 q4), (.int .i64 q5), (.slice A7 (List.length (List.map stT f)) c8), (.slice q (List.length c) s)], Yc 9 Qx q s c] := Vv a8 [0, 1] [] rfl rfl b5 rfl
 clear b5
 refine iR 3 7 [(11, (.tuple #[(.agg #[(.string ⟨List.toArray a.1⟩), (.string ⟨List.toArray a.2.1⟩), (.int .i64 a.2.2.1)]), (.bool a.2.2.2)])), (16, (.agg #[(.string ⟨List.toArray a.1⟩), (.string ⟨List.toArray a.2.1⟩), (.int .i64 a.2.2.1)])), (17, (.bool a.2.2.2))] ?_
 refine iS 8 ?_
 refine Qi.alloc (t := 48) (z := (.agg #[(.string ⟨List.toArray ([] : List UInt8)⟩), (.string ⟨List.toArray ([] : List UInt8)⟩), (.int .i64 0)])) (d := (some 9)) (k := 7) K rfl K b9 ?_
 intro u c5 c0
 refine iS 9 ?_
 refine Qi.store (t := 48) (x := (.tmp 9)) (y := (.tmp 16)) (g := u) (off := 0) (i := 2) (v := (.agg #[(.string ⟨List.toArray a.1⟩), (.string ⟨List.toArray a.2.1⟩), (.int .i64 a.2.2.1)])) (cs' := #[(.string ⟨List.toArray a.1⟩), (.string ⟨List.toArray a.2.1⟩), (.int .i64 a.2.2.1)]) (d := none) (k := 8) K rfl K K c0 rfl K ?_
 intro c1 a0
 refine iR 1 10 [(10, (.bool a.2.2.2))] ?_
 refine iF ?_
 refine aQ ?_
 refine At.join (fun ρ w => ∃ (a1 : (List (List UInt8))) (o : Bool) (a2 : Option Addr) (a3 : Nat), V6 ρ [(8, (.bool o))] ∧ SP S w0 w [Yc 9 Qx a2 a3 a1, Qn g1 81 #[(.int .i64 q2), (.int .i64 q3), (.int .i64 q4), (.int .i64 q5), (.slice A7 (List.length (List.map stT f)) c8), (.slice a2 (List.length a1) a3)]] ∧ Z6 q2 q3 q4 q5 a1 o = some r) ?_ ?_
 ·refine aR ?_
  refine iR 2 2 [(18, (.bool a.2.2.2)), (19, (.bool a.2.2.2))] ?_
  refine In.guard (t := 19) (b := a.2.2.2) K (fun a9 => ?_) (fun a9 => ?_)
  ·have H := ct H a9
   refine iR 3 5 [(20, (pt g1 0)), (21, (.string ⟨List.toArray j⟩)), (22, (.string ⟨List.toArray m⟩))] ?_
   obtain ⟨p, c2, H⟩ := Qb H
   refine iS 6 ?_
   refine cF 48 #[(.tmp 20), (.tmp 21), (.tmp 22)] #[31, 9, 9] 23 Tryz.call48 (Nh g1 A7 c8 q s q2 q3 q4 q5 f c j m c1 (Yd a0 [0, 1] rfl rfl) (fun w hm => b2 w (SP.through a0 (l := [0, 1]) rfl hm)) p c2) ?_
   rintro e c3 ⟨a4, a5, rfl, b6⟩
   refine ⟨_, rfl, ?_⟩
   have b0 : SP S w0 c3 [Qn u 48 #[(.string ⟨List.toArray a.1⟩), (.string ⟨List.toArray a.2.1⟩), (.int .i64 a.2.2.1)], Qn g1 81 #[(.int .i64 q2), (.int .i64 q3), (.int .i64 q4), (.int .i64 q5), (.slice A7 (List.length (List.map stT f)) c8), (.slice a4 (List.length c) a5)], Yc 9 Qx a4 a5 c] := Vv a0 [0, 1] [2] rfl rfl b6 rfl
   clear b6
   refine iR 3 9 [(24, (.bool (!p))), (25, (.bool (!p))), (26, (.bool (!p)))] ?_
   refine In.guard (t := 26) (b := (!p)) K (fun b1 => ?_) (fun b1 => ?_)
   ·have H := ct H b1
    refine iR 2 11 [(27, (.int .i64 h)), (28, (pt u 2))] ?_
    refine iS 12 ?_
    refine sL 2 28 u 2 0 (.int .i64 a.2.2.1) 29 b0 rfl ?_
    refine iR 3 15 [(30, (.bool (decide (h < a.2.2.1)))), (31, (.bool (decide (h < a.2.2.1)))), (8, (.bool (decide (h < a.2.2.1))))] ?_
    refine iF ?_
    exact ⟨c, (decide (h < a.2.2.1)), a4, a5, ⟨K, trivial⟩, SP.sel b0 [2, 1] rfl rfl, H⟩
   ·have H := cf H b1
    refine iR 6 15 [(27, undef), (28, undef), (29, undef), (30, undef), (31, (.bool false)), (8, (.bool false))] ?_
    refine iF ?_
    exact ⟨c, false, a4, a5, ⟨K, trivial⟩, SP.sel b0 [2, 1] rfl rfl, H⟩
  ·have H := cf H a9
   refine iR 13 15 [(20, undef), (21, undef), (22, undef), (23, undef), (24, undef), (25, (.bool false)), (26, (.bool false)), (27, undef), (28, undef), (29, undef), (30, undef), (31, (.bool false)), (8, (.bool false))] ?_
   refine iF ?_
   exact ⟨c, false, q, s, ⟨K, trivial⟩, SP.sel a0 [1, 0] rfl rfl, H⟩
 ·rintro ρ c6 ⟨a1, o, a2, a3, hk, c4, H⟩
  unfold Z6 at H
  first | refine At.known [(8, (.bool o))] hk ?_ | rw [← Qv (l := [(8, (.bool o))]) hk]
  refine At.ret K ?_
  refine ⟨(.bool o), K, ?_⟩
  obtain rfl := Qe H
  exact ⟨a2, a3, rfl, SP.sel c4 [1,0] rfl rfl⟩
def Y0 (q2 : Int) (q3 : Int) (q4 : Int) (q5 : Int) (q6 : (List Qg)) (d : (List (List UInt8))) (b : (List UInt8)) (c : (List UInt8)) (e : (List UInt8)) : Option ((List UInt8)) :=
  ((Z5 q2 q3 q4 q5 q6 d b c).bind fun a => (cond (!a.2.2.2) (some (([] : List UInt8))) ((chk (Nat.ble (List.length a.2.1) 281474976710656)).bind fun _ => ((N1 a.2.1 ([b, c, e] : List (List UInt8))).bind fun f => (some (f))))))
theorem Dq {S : List Nat} (g1 : Nat) (A7 : Option Addr) (c8 : Nat) (u : Option Addr) (a0 : Nat) (q2 : Int) (q3 : Int) (q4 : Int) (q5 : Int) (j : (List Va)) (c : (List (List UInt8))) (f : (List UInt8)) (h : (List UInt8)) (m : (List UInt8)) (w0 : World) (hO : SP S w0 w0 [Qn g1 81 #[(.int .i64 q2), (.int .i64 q3), (.int .i64 q4), (.int .i64 q5), (.slice A7 (List.length (List.map stT j)) c8), (.slice u (List.length c) a0)], Yc 9 Qx u a0 c]) (b3 : ∀ w, Mod S w0 w → (dDS Js Ce).ok w (A7, c8, j)) (r : ((List UInt8))) (H : Y0 q2 q3 q4 q5 (List.map stT j) c f h m = some r) :
  Calls Tryz.prog 25 #[(pt g1 0), (.string ⟨List.toArray f⟩), (.string ⟨List.toArray h⟩), (.string ⟨List.toArray m⟩)] w0 (fun e w' => ∃ (a6 : Option Addr) (a7 : Nat), e = .returned (.string ⟨List.toArray r⟩) ∧ SP S w0 w' [Qn g1 81 #[(.int .i64 q2), (.int .i64 q3), (.int .i64 q4), (.int .i64 q5), (.slice A7 (List.length (List.map stT j)) c8), (.slice a6 (List.length c) a7)], Yc 9 Qx a6 a7 c]) := by
 unfold Y0 at H
 refine Qs (n := 28) Tryz.func25 K K K ?_
 have a1 := hO
 refine aQ ?_
 refine aR ?_
 refine iR 1 1 [(8, (.string ⟨List.toArray ([] : List UInt8)⟩))] ?_
 refine iF ?_
 refine aQ ?_
 refine aR ?_
 refine iR 3 3 [(12, (pt g1 0)), (13, (.string ⟨List.toArray f⟩)), (14, (.string ⟨List.toArray h⟩))] ?_
 obtain ⟨a, b4, H⟩ := Qb H
 refine iS 4 ?_
 refine cF 47 #[(.tmp 12), (.tmp 13), (.tmp 14)] #[31, 9, 9] 15 Tryz.call47 (Ue g1 A7 c8 u a0 q2 q3 q4 q5 j c f h w0 (Yd a1 [0, 1] rfl rfl) (fun w hm => b3 w (SP.through a1 (l := [0, 1]) rfl hm)) a b4) ?_
 rintro e b5 ⟨p, q, rfl, a8⟩
 refine ⟨_, rfl, ?_⟩
 have b6 : SP S w0 b5 [Qn g1 81 #[(.int .i64 q2), (.int .i64 q3), (.int .i64 q4), (.int .i64 q5), (.slice A7 (List.length (List.map stT j)) c8), (.slice p (List.length c) q)], Yc 9 Qx p q c] := Vv a1 [0, 1] [] rfl rfl a8 rfl
 clear a8
 refine iR 3 7 [(11, (.tuple #[(.agg #[(.string ⟨List.toArray a.1⟩), (.string ⟨List.toArray a.2.1⟩), (.int .i64 a.2.2.1)]), (.bool a.2.2.2)])), (16, (.agg #[(.string ⟨List.toArray a.1⟩), (.string ⟨List.toArray a.2.1⟩), (.int .i64 a.2.2.1)])), (17, (.bool a.2.2.2))] ?_
 refine iS 8 ?_
 refine Qi.alloc (t := 48) (z := (.agg #[(.string ⟨List.toArray ([] : List UInt8)⟩), (.string ⟨List.toArray ([] : List UInt8)⟩), (.int .i64 0)])) (d := (some 9)) (k := 7) K rfl K b6 ?_
 intro s c5 b7
 refine iS 9 ?_
 refine Qi.store (t := 48) (x := (.tmp 9)) (y := (.tmp 16)) (g := s) (off := 0) (i := 2) (v := (.agg #[(.string ⟨List.toArray a.1⟩), (.string ⟨List.toArray a.2.1⟩), (.int .i64 a.2.2.1)])) (cs' := #[(.string ⟨List.toArray a.1⟩), (.string ⟨List.toArray a.2.1⟩), (.int .i64 a.2.2.1)]) (d := none) (k := 8) K rfl K K b7 rfl K ?_
 intro c6 a2
 refine iR 1 10 [(10, (.bool a.2.2.2))] ?_
 refine iF ?_
 refine aQ ?_
 refine aQ ?_
 refine aR ?_
 refine iR 2 2 [(18, (.bool a.2.2.2)), (19, (.bool (!a.2.2.2)))] ?_
 refine iF ?_
 refine V1 K (o := (.tmp 19)) K (b := (!a.2.2.2)) K (fun a3 => ?_) (fun a3 => ?_)
 ·have H := ct H a3
  refine aQ ?_
  refine aR ?_
  refine iR 1 1 [(8, (.string ⟨List.toArray ([] : List UInt8)⟩))] ?_
  refine iF ?_
  refine At.ret K ?_
  refine ⟨(.string ⟨List.toArray ([] : List UInt8)⟩), K, ?_⟩
  obtain rfl := Qe H
  exact ⟨p, q, rfl, SP.sel a2 [0,1] rfl rfl⟩
 ·have H := cf H a3
  refine At.skip K ?_
  refine aQ ?_
  refine aR ?_
  refine iR 1 1 [(20, (pt s 1))] ?_
  refine iS 2 ?_
  refine sL 9 20 s 1 2 (.string ⟨List.toArray a.2.1⟩) 21 a2 rfl ?_
  obtain ⟨b8, H⟩ := V4 H
  refine iS 3 ?_
  refine Bd (S' := 9) (T := 52) (E := 5) (x := (.tmp 21)) (l := a.2.1) (d := (some 22)) (k := 2) K rfl K K K K (Be b8) a2 ?_
  intro a9 b0 b9 b1 _
  have c0 : SP S w0 b9 [Qn g1 81 #[(.int .i64 q2), (.int .i64 q3), (.int .i64 q4), (.int .i64 q5), (.slice A7 (List.length (List.map stT j)) c8), (.slice p (List.length c) q)], Yc 9 Qx p q c, Qn s 48 #[(.string ⟨List.toArray a.1⟩), (.string ⟨List.toArray a.2.1⟩), (.int .i64 a.2.2.1)], rdE eU8 (some ⟨a9, 0, none⟩) b0 a.2.1] := b1
  clear b1
  refine iR 3 6 [(23, (.string ⟨List.toArray f⟩)), (24, (.string ⟨List.toArray h⟩)), (25, (.string ⟨List.toArray m⟩))] ?_
  refine iS 7 ?_
  refine Zv (e := Qx) (T := 53) (E := 9) (len := 3) (parts := #[(0, (.tmp 23)), (1, (.tmp 24)), (2, (.tmp 25))]) (cs := #[(.string ⟨List.toArray f⟩), (.string ⟨List.toArray h⟩), (.string ⟨List.toArray m⟩)]) ([f, h, m] : List (List UInt8)) (d := (some 26)) (k := 6) K rfl (fun _ => K) c0 rfl rfl rfl rfl ?_
  intro c1 c2 a4
  obtain ⟨a5, c3, H⟩ := Qb H
  refine iS 8 ?_
  refine cF 30 #[(.tmp 22), (.tmp 26)] #[52, 53] 27 Tryz.call30 (B6 (some ⟨a9, 0, none⟩) b0 (some ⟨c1, 0, none⟩) (List.length ([f, h, m] : List (List UInt8))) a.2.1 ([f, h, m] : List (List UInt8)) c2 (Oa (SP.get a4 (i := 3) rfl)) (Vs (SP.get a4 (i := 4) rfl)) a5 c3) ?_
  rintro e c7 ⟨rfl, b2⟩
  refine ⟨_, rfl, ?_⟩
  have c4 := SP.call a4 b2
  clear b2
  refine iR 1 9 [(8, (.string ⟨List.toArray a5⟩))] ?_
  refine iF ?_
  refine At.ret K ?_
  refine ⟨(.string ⟨List.toArray a5⟩), K, ?_⟩
  obtain rfl := Qe H
  exact ⟨p, q, rfl, SP.sel c4 [0,1] rfl rfl⟩
def Xs (a : (Bool × Int × Int × Int × Int × (List (List UInt8)))) (b : Bool) : Option (Int × Int × Int × Int × Int × (List (List UInt8))) :=
  (cond b (some (101, a.2.1, a.2.2.1, a.2.2.2.1, a.2.2.2.2.1, a.2.2.2.2.2)) (some (0, a.2.1, a.2.2.1, a.2.2.2.1, a.2.2.2.2.1, a.2.2.2.2.2)))
def Ys (q2 : Int) (q3 : Int) (q4 : Int) (q5 : Int) (q6 : (List Qg)) (e : (List (List UInt8))) (b : (List UInt8)) (c : (List UInt8)) (f : (List UInt8)) (g : (List UInt8)) (h : Int) : Option (Int × Int × Int × Int × Int × (List (List UInt8))) :=
  ((Yz q2 q3 q4 q5 q6 e b c h).bind fun a => (cond (!a.1) (some (3, a.2.1, a.2.2.1, a.2.2.2.1, a.2.2.2.2.1, a.2.2.2.2.2)) ((Y0 a.2.1 a.2.2.1 a.2.2.2.1 a.2.2.2.2.1 q6 a.2.2.2.2.2 b c f).bind fun d => (cond (d == ([] : List UInt8)) (Xs a true) (Xs a (!(g == d)))))))
theorem Dn {S : List Nat} (g1 : Nat) (A7 : Option Addr) (c8 : Nat) (a2 : Option Addr) (a3 : Nat) (q2 : Int) (q3 : Int) (q4 : Int) (q5 : Int) (g : (List Va)) (s : (List (List UInt8))) (i : (List UInt8)) (j : (List UInt8)) (u : (List UInt8)) (h : (List UInt8)) (v : Int) (w0 : World) (hO : SP S w0 w0 [Qn g1 81 #[(.int .i64 q2), (.int .i64 q3), (.int .i64 q4), (.int .i64 q5), (.slice A7 (List.length (List.map stT g)) c8), (.slice a2 (List.length s) a3)], Yc 9 Qx a2 a3 s]) (a8 : ∀ w, Mod S w0 w → (dDS Js Ce).ok w (A7, c8, g)) (r : (Int × Int × Int × Int × Int × (List (List UInt8)))) (H : Ys q2 q3 q4 q5 (List.map stT g) s i j u h v = some r) :
  Calls Tryz.prog 27 #[(pt g1 0), (.string ⟨List.toArray i⟩), (.string ⟨List.toArray j⟩), (.string ⟨List.toArray u⟩), (.string ⟨List.toArray h⟩), (.int .i64 v)] w0 (fun e w' => ∃ (a9 : Option Addr) (b0 : Nat), e = .returned (.int .i64 r.1) ∧ SP S w0 w' [Qn g1 81 #[(.int .i64 r.2.1), (.int .i64 r.2.2.1), (.int .i64 r.2.2.2.1), (.int .i64 r.2.2.2.2.1), (.slice A7 (List.length (List.map stT g)) c8), (.slice a9 (List.length r.2.2.2.2.2) b0)], Yc 9 Qx a9 b0 r.2.2.2.2.2]) := by
 unfold Ys at H
 refine Qs (n := 32) Tryz.func27 K K K ?_
 have a4 := hO
 refine aQ ?_
 refine aR ?_
 refine iR 1 1 [(12, (.int .i64 0))] ?_
 refine iF ?_
 refine aQ ?_
 refine aQ ?_
 refine aR ?_
 refine iR 4 4 [(14, (pt g1 0)), (15, (.string ⟨List.toArray i⟩)), (16, (.string ⟨List.toArray j⟩)), (17, (.int .i64 v))] ?_
 obtain ⟨c, b6, H⟩ := Qb H
 refine iS 5 ?_
 refine cF 23 #[(.tmp 14), (.tmp 15), (.tmp 16), (.tmp 17)] #[31, 9, 9, 2] 18 Tryz.call23 (Do g1 A7 c8 a2 a3 q2 q3 q4 q5 g s i j v w0 (Yd a4 [0, 1] rfl rfl) (fun w hm => a8 w (SP.through a4 (l := [0, 1]) rfl hm)) c b6) ?_
 rintro e b1 ⟨z, a0, rfl, b2⟩
 refine ⟨_, rfl, ?_⟩
 have a1 : SP S w0 b1 [Qn g1 81 #[(.int .i64 c.2.1), (.int .i64 c.2.2.1), (.int .i64 c.2.2.2.1), (.int .i64 c.2.2.2.2.1), (.slice A7 (List.length (List.map stT g)) c8), (.slice z (List.length c.2.2.2.2.2) a0)], Yc 9 Qx z a0 c.2.2.2.2.2] := Vv a4 [0, 1] [] rfl rfl b2 rfl
 clear b2
 refine iR 1 6 [(19, (.bool (!c.1)))] ?_
 refine iF ?_
 refine V1 K (o := (.tmp 19)) K (b := (!c.1)) K (fun a5 => ?_) (fun a5 => ?_)
 ·have H := ct H a5
  refine aQ ?_
  refine aR ?_
  refine iR 1 1 [(12, (.int .i64 3))] ?_
  refine iF ?_
  refine At.ret K ?_
  refine ⟨(.int .i64 3), K, ?_⟩
  obtain rfl := Qe H
  exact ⟨z, a0, rfl, SP.sel a1 [0,1] rfl rfl⟩
 ·have H := cf H a5
  refine At.skip K ?_
  refine aQ ?_
  refine aR ?_
  refine iR 4 4 [(20, (pt g1 0)), (21, (.string ⟨List.toArray i⟩)), (22, (.string ⟨List.toArray j⟩)), (23, (.string ⟨List.toArray u⟩))] ?_
  obtain ⟨f, b7, H⟩ := Qb H
  refine iS 5 ?_
  refine cF 25 #[(.tmp 20), (.tmp 21), (.tmp 22), (.tmp 23)] #[31, 9, 9, 9] 24 Tryz.call25 (Dq g1 A7 c8 z a0 c.2.1 c.2.2.1 c.2.2.2.1 c.2.2.2.2.1 g c.2.2.2.2.2 i j u b1 (Yd a1 [0, 1] rfl rfl) (fun w hm => a8 w (SP.through a1 (l := [0, 1]) rfl hm)) f b7) ?_
  rintro e b8 ⟨m, p, rfl, b3⟩
  refine ⟨_, rfl, ?_⟩
  have b4 : SP S w0 b8 [Qn g1 81 #[(.int .i64 c.2.1), (.int .i64 c.2.2.1), (.int .i64 c.2.2.2.1), (.int .i64 c.2.2.2.2.1), (.slice A7 (List.length (List.map stT g)) c8), (.slice m (List.length c.2.2.2.2.2) p)], Yc 9 Qx m p c.2.2.2.2.2] := Vv a1 [0, 1] [] rfl rfl b3 rfl
  clear b3
  refine iR 1 6 [(13, (.string ⟨List.toArray f⟩))] ?_
  refine iF ?_
  refine aQ ?_
  refine aQ ?_
  refine At.join (fun ρ w => ∃ (q : Bool), V6 ρ [(31, (.bool q))] ∧ SP S w0 w [Yc 9 Qx m p c.2.2.2.2.2, Qn g1 81 #[(.int .i64 c.2.1), (.int .i64 c.2.2.1), (.int .i64 c.2.2.2.1), (.int .i64 c.2.2.2.2.1), (.slice A7 (List.length (List.map stT g)) c8), (.slice m (List.length c.2.2.2.2.2) p)]] ∧ Xs c q = some r) ?_ ?_
  ·refine aR ?_
   refine iR 1 1 [(25, (.string ⟨List.toArray f⟩))] ?_
   refine iS 2 ?_
   refine V0 (op := .eql) (T := 9) (T' := 9) (x := (.tmp 25)) (y := (.const (.string ⟨List.toArray ([] : List UInt8)⟩))) (a := f) (b := ([] : List UInt8)) (r := (.bool (f == ([] : List UInt8)))) (d := (some 26)) (k := 1) K rfl K K rfl ?_
   refine iR 1 3 [(27, (.bool (f == ([] : List UInt8))))] ?_
   refine In.guard (t := 27) (b := (f == ([] : List UInt8))) K (fun a6 => ?_) (fun a6 => ?_)
   ·have H := ct H a6
    refine iR 4 7 [(28, undef), (29, undef), (30, undef), (31, (.bool true))] ?_
    refine iF ?_
    exact ⟨true, ⟨K, trivial⟩, SP.sel b4 [1, 0] rfl rfl, H⟩
   ·have H := cf H a6
    refine iR 2 5 [(28, (.string ⟨List.toArray h⟩)), (29, (.string ⟨List.toArray f⟩))] ?_
    refine iS 6 ?_
    refine V0 (op := .neq) (T := 9) (T' := 9) (x := (.tmp 28)) (y := (.tmp 29)) (a := h) (b := f) (r := (.bool (!(h == f)))) (d := (some 30)) (k := 5) K rfl K K rfl ?_
    refine iR 1 7 [(31, (.bool (!(h == f))))] ?_
    refine iF ?_
    exact ⟨(!(h == f)), ⟨K, trivial⟩, SP.sel b4 [1, 0] rfl rfl, H⟩
  ·rintro ρ b9 ⟨q, hk, b5, H⟩
   unfold Xs at H
   first | refine At.known [(31, (.bool q))] hk ?_ | rw [← Qv (l := [(31, (.bool q))]) hk]
   refine V1 K (o := (.tmp 31)) K (b := q) K (fun a7 => ?_) (fun a7 => ?_)
   ·have H := ct H a7
    refine aQ ?_
    refine aR ?_
    refine iR 1 1 [(12, (.int .i64 101))] ?_
    refine iF ?_
    refine At.ret K ?_
    refine ⟨(.int .i64 101), K, ?_⟩
    obtain rfl := Qe H
    exact ⟨m, p, rfl, SP.sel b5 [1,0] rfl rfl⟩
   ·have H := cf H a7
    refine At.skip K ?_
    refine aQ ?_
    refine aR ?_
    refine iR 1 1 [(12, (.int .i64 0))] ?_
    refine iF ?_
    refine At.ret K ?_
    refine ⟨(.int .i64 0), K, ?_⟩
    obtain rfl := Qe H
    exact ⟨m, p, rfl, SP.sel b5 [1,0] rfl rfl⟩
end Go.Proofs.YtmgfanhcdfobhaaGreatDoor
namespace Go.Proofs.YtmgfanhcdfobhaaGreatDoor
theorem M1 {α : Type} {P : α → Bool} {l : List α} {i : Nat} (hi : i < l.length) (hn : (l.take i).any P = false) (hx : P l[i] = true) : l.findIdx? P = some i := by
  rw [List.findIdx?_eq_some_iff_getElem]
  refine ⟨hi, hx, fun j hj => ?_⟩
  rw [List.any_eq_false] at hn
  have := hn l[j] (by rw [List.mem_take_iff_getElem]; exact ⟨j, by omega, rfl⟩)
  simpa using this
theorem M2 {α : Type} {P : α → Bool} {l : List α} (hn : l.any P = false) : l.findIdx? P = none := by
  rw [List.findIdx?_eq_none_iff]
  intro x hx
  rw [List.any_eq_false] at hn
  simpa using hn x hx
theorem M3 {α : Type} {P : α → Bool} {l : List α} {i : Nat} (hi : i < l.length) (hn : (l.take i).any P = false) (hx : P l[i] = false) : (l.take (i + 1)).any P = false := by
  rw [List.take_add_one, List.getElem?_eq_getElem hi, List.any_append, hn]
  simp [hx]
def ixI (o : Option Nat) : Int := match o with | some i => (i : Int) | none => -1
theorem Pi (l : List Qg) (P : Qg → Bool) (p : Str → Int → Int → List Me → List Fv → Option Bool) (hp : ∀ x : Qg, p x.1 x.2.1 x.2.2.1 x.2.2.2.1 x.2.2.2.2 = some (P x)) (hl : l.length ≤ 140737488355328) :
    ∀ (d i f : Nat), d = l.length - i → i ≤ l.length → d < f → (l.take i).any P = false → Qq l p f (i : Int) = some (ixI (l.findIdx? P)) := by
  intro d
  induction d with
  | zero =>
    intro i f hd hi hf hn
    obtain ⟨f, rfl⟩ : ∃ g, f = g + 1 := ⟨f - 1, by omega⟩
    show Qt (Qq l p f) l p (i : Int) = _
    unfold Qt
    rw [List.take_of_length_le (by omega)] at hn
    rw [show decide ((i : Int) < ((l.length : Nat) : Int)) = false from decide_eq_false (by omega), cond_false, M2 hn]
    rfl
  | succ d ih =>
    intro i f hd hi hf hn
    obtain ⟨f, rfl⟩ : ∃ g, f = g + 1 := ⟨f - 1, by omega⟩
    have hlt : i < l.length := by omega
    show Qt (Qq l p f) l p (i : Int) = _
    unfold Qt
    rw [show decide ((i : Int) < ((l.length : Nat) : Int)) = true from decide_eq_true (by omega), cond_true, Jt hlt, Option.bind_some, hp, Option.bind_some]
    cases hx : P l[i] with
    | true => rw [cond_true, M1 hlt hn hx]; rfl
    | false =>
      rw [cond_false, show ((i : Int) + 1) = ((i + 1 : Nat) : Int) by omega, Xh (by omega)]
      exact ih (i + 1) f (by omega) (by omega) (by omega) (M3 hlt hn hx)
theorem Pj (l : List Fv) (P : Fv → Bool) (p : Str → Str → Int → Option Bool) (hp : ∀ x : Fv, p x.1 x.2.1 x.2.2 = some (P x)) (hl : l.length ≤ 140737488355328) :
    ∀ (d i f : Nat), d = l.length - i → i ≤ l.length → d < f → (l.take i).any P = false → Qr l p f (i : Int) = some (ixI (l.findIdx? P)) := by
  intro d
  induction d with
  | zero =>
    intro i f hd hi hf hn
    obtain ⟨f, rfl⟩ : ∃ g, f = g + 1 := ⟨f - 1, by omega⟩
    show Qu (Qr l p f) l p (i : Int) = _
    unfold Qu
    rw [List.take_of_length_le (by omega)] at hn
    rw [show decide ((i : Int) < ((l.length : Nat) : Int)) = false from decide_eq_false (by omega), cond_false, M2 hn]
    rfl
  | succ d ih =>
    intro i f hd hi hf hn
    obtain ⟨f, rfl⟩ : ∃ g, f = g + 1 := ⟨f - 1, by omega⟩
    have hlt : i < l.length := by omega
    show Qu (Qr l p f) l p (i : Int) = _
    unfold Qu
    rw [show decide ((i : Int) < ((l.length : Nat) : Int)) = true from decide_eq_true (by omega), cond_true, Jt hlt, Option.bind_some, hp, Option.bind_some]
    cases hx : P l[i] with
    | true => rw [cond_true, M1 hlt hn hx]; rfl
    | false =>
      rw [cond_false, show ((i : Int) + 1) = ((i + 1 : Nat) : Int) by omega, Xh (by omega)]
      exact ih (i + 1) f (by omega) (by omega) (by omega) (M3 hlt hn hx)
theorem pl_lt' {l : List Qg} {nm : Str} {k : Nat} (h : pl l nm = some k) : k < l.length := (List.findIdx?_eq_some_iff_getElem.1 h).1
theorem lFind (w g i e : Int) (l : List Qg) (nm : Str) (hl : l.length ≤ 140737488355328) : N3 w g i e l nm = some (Hc l nm) := by
  have h := Pi l (fun x => x.1 == nm) (fun y0 y1 y2 y3 y4 => Gw y0 y1 y2 y3 y4 nm) (fun x => rfl) hl l.length 0 Zj (by omega) (by omega) (by unfold Zj; omega) rfl
  unfold N3 Vh
  rw [show ((0 : Nat) : Int) = 0 from rfl] at h
  rw [h, Option.bind_some]
  unfold Hc
  show _ = some (match pl l nm with | some k => _ | none => _)
  rw [show l.findIdx? (fun x => x.1 == nm) = pl l nm from rfl]
  cases hp : pl l nm with
  | none => rfl
  | some k =>
    have hk := pl_lt' hp
    have hg : l.getD k Kp = l[k] := by simp [List.getD, hk]
    rw [show decide (ixI (some k) < 0) = false from decide_eq_false (by show ¬ ((k : Nat) : Int) < 0; omega), cond_false]
    show (idx l ((k : Nat) : Int)).bind _ = _
    rw [Jt hk, Option.bind_some]
    simp only [hg]
def tix (l : List Fv) (nm : Str) : Option Nat := l.findIdx? (fun x => x.1 == nm)
def Pk : Fv := ([], [], 0)
def Pt (l : List Fv) (nm : Str) : Str × Str × Int × Bool := match tix l nm with
  | some k => ((l.getD k Pk).1, (l.getD k Pk).2.1, (l.getD k Pk).2.2, true)
  | none => ([], [], 0, false)
theorem tix_lt {l : List Fv} {nm : Str} {k : Nat} (h : tix l nm = some k) : k < l.length := (List.findIdx?_eq_some_iff_getElem.1 h).1
theorem lTok (n : Str) (a b : Int) (ns : List Me) (l : List Fv) (nm : Str) (hl : l.length ≤ 140737488355328) : Nf n a b ns l nm = some (Pt l nm) := by
  have h := Pj l (fun x => x.1 == nm) (fun y0 y1 y2 => Ge y0 y1 y2 nm) (fun x => rfl) hl l.length 0 Zj (by omega) (by omega) (by unfold Zj; omega) rfl
  unfold Nf Vl
  rw [show ((0 : Nat) : Int) = 0 from rfl] at h
  rw [h, Option.bind_some]
  unfold Pt
  rw [show l.findIdx? (fun x => x.1 == nm) = tix l nm from rfl]
  cases hp : tix l nm with
  | none => rfl
  | some k =>
    have hk := tix_lt hp
    have hg : l.getD k Pk = l[k] := by simp [List.getD, hk]
    rw [show decide (ixI (some k) < 0) = false from decide_eq_false (by show ¬ ((k : Nat) : Int) < 0; omega), cond_false]
    show (idx l ((k : Nat) : Int)).bind _ = _
    rw [Jt hk, Option.bind_some]
    simp only [hg]
theorem rTok_loop (l : List Fv) (nm : Str) (hl : l.length ≤ 9000) : ∀ (d i f : Nat), d = l.length - i → i ≤ l.length → d < f → (l.take i).any (fun x => x.1 == nm) = false → Xm l nm f (i : Int) = some (Pt l nm) := by
  intro d
  induction d with
  | zero =>
    intro i f hd hi hf hn
    obtain ⟨f, rfl⟩ : ∃ g, f = g + 1 := ⟨f - 1, by omega⟩
    show Xl (Xm l nm f) l nm (i : Int) = _
    unfold Xl Pt tix
    rw [List.take_of_length_le (by omega)] at hn
    rw [show decide ((i : Int) < ((l.length : Nat) : Int)) = false from decide_eq_false (by omega), cond_false, M2 hn]
  | succ d ih =>
    intro i f hd hi hf hn
    obtain ⟨f, rfl⟩ : ∃ g, f = g + 1 := ⟨f - 1, by omega⟩
    have hlt : i < l.length := by omega
    show Xl (Xm l nm f) l nm (i : Int) = _
    unfold Xl
    rw [show decide ((i : Int) < ((l.length : Nat) : Int)) = true from decide_eq_true (by omega), cond_true, Jt hlt, Option.bind_some]
    cases hx : (l[i].1 == nm) with
    | true =>
      have hg : l.getD i Pk = l[i] := by simp [List.getD, hlt]
      rw [cond_true, Option.bind_some]
      unfold Pt tix
      rw [M1 hlt hn hx]
      simp only [hg]
    | false =>
      rw [cond_false, show ((i : Int) + 1) = ((i + 1 : Nat) : Int) by omega, Xh (by omega)]
      exact ih (i + 1) f (by omega) (by omega) (by omega) (M3 hlt hn hx)
theorem rTok (n : Str) (a b : Int) (ns : List Me) (l : List Fv) (nm : Str) (hl : l.length ≤ 9000) : Nw n a b ns l nm = some (Pt l nm) :=
  rTok_loop l nm hl l.length 0 Zj (by omega) (by omega) (by unfold Zj; omega) rfl
theorem Ot (a : Nat) (h : a < 256) : (BitVec.ofInt (IntKind.bits .u8) (a : Int)).toNat = a := by
  show (BitVec.ofInt 8 (a : Int)).toNat = a
  rw [BitVec.ofInt_natCast, BitVec.toNat_ofNat]
  exact Nat.mod_eq_of_lt (by omega)
theorem bOr8 (a b : Nat) (ha : a < 256) (hb : b < 256) : bOr .u8 (a : Int) (b : Int) = ((a ||| b : Nat) : Int) := by
  unfold bOr
  rw [BitVec.toNat_or, Ot a ha, Ot b hb, O3]
  have : a ||| b < 2 ^ 8 := Nat.or_lt_two_pow (by omega) (by omega)
  omega
theorem bXor8 (a b : Nat) (ha : a < 256) (hb : b < 256) : V7 .u8 (a : Int) (b : Int) = ((a ^^^ b : Nat) : Int) := by
  unfold V7
  rw [BitVec.toNat_xor, Ot a ha, Ot b hb, O3]
  have : a ^^^ b < 2 ^ 8 := Nat.xor_lt_two_pow (by omega) (by omega)
  omega
theorem or_zero {a b : Nat} : a ||| b = 0 ↔ a = 0 ∧ b = 0 := by
  constructor
  · intro h
    exact ⟨Nat.le_zero.1 (h ▸ Nat.left_le_or), Nat.le_zero.1 (h ▸ Nat.right_le_or)⟩
  · rintro ⟨rfl, rfl⟩; rfl
theorem xor_zero {a b : Nat} : a ^^^ b = 0 ↔ a = b := by
  constructor
  · intro h
    have : a ^^^ b ^^^ b = 0 ^^^ b := by rw [h]
    rwa [Nat.xor_assoc, Nat.xor_self, Nat.xor_zero, Nat.zero_xor] at this
  · rintro rfl; exact Nat.xor_self a
theorem M4 (v x y : UInt8) : (Bc (bOr .u8 ((v.toNat : Nat) : Int) (V7 .u8 ((x.toNat : Nat) : Int) ((y.toNat : Nat) : Int))) = 0) ↔ (v = 0 ∧ x = y) := by
  have hv := v.toNat_lt
  have hx := x.toNat_lt
  have hy := y.toNat_lt
  have hxy : x.toNat ^^^ y.toNat < 2 ^ 8 := Nat.xor_lt_two_pow (by omega) (by omega)
  rw [bXor8 _ _ (by omega) (by omega), bOr8 _ _ (by omega) (by omega), Oc]
  have hor : v.toNat ||| (x.toNat ^^^ y.toNat) < 2 ^ 8 := Nat.or_lt_two_pow (by omega) (by omega)
  constructor
  · intro h
    have h2 := congrArg UInt8.toNat h
    rw [UInt8.toNat_ofNat', Nat.mod_eq_of_lt (by omega)] at h2
    obtain ⟨a, b⟩ := or_zero.1 h2
    exact ⟨UInt8.toNat_inj.1 a, UInt8.toNat_inj.1 (xor_zero.1 b)⟩
  · rintro ⟨rfl, rfl⟩
    rw [Nat.xor_self]
    rfl
theorem same_loop (p q : Str) (hlen : p.length = q.length) (hl : p.length ≤ 140737488355328) : ∀ (d i f : Nat) (v : UInt8), d = p.length - i → i ≤ p.length → d < f → (v = 0 ↔ p.take i = q.take i) → N5 p q f v (i : Int) = some (p == q) := by
  intro d
  induction d with
  | zero =>
    intro i f v hd hi hf hv
    obtain ⟨f, rfl⟩ : ∃ g, f = g + 1 := ⟨f - 1, by omega⟩
    show N4 (N5 p q f) p q v (i : Int) = _
    unfold N4
    rw [List.take_of_length_le (by omega), List.take_of_length_le (by omega)] at hv
    rw [show decide ((i : Int) < ((p.length : Nat) : Int)) = false from decide_eq_false (by omega), cond_false]
    congr 1
    rw [Bool.eq_iff_iff, beq_iff_eq, beq_iff_eq, ← hv]
    constructor
    · intro h
      exact UInt8.toNat_inj.1 (by show v.toNat = 0; omega)
    · rintro rfl; rfl
  | succ d ih =>
    intro i f v hd hi hf hv
    obtain ⟨f, rfl⟩ : ∃ g, f = g + 1 := ⟨f - 1, by omega⟩
    have hlt : i < p.length := by omega
    have hlt2 : i < q.length := by omega
    show N4 (N5 p q f) p q v (i : Int) = _
    unfold N4
    rw [show decide ((i : Int) < ((p.length : Nat) : Int)) = true from decide_eq_true (by omega), cond_true, Jt hlt, Option.bind_some, Jt hlt2, Option.bind_some, show ((i : Int) + 1) = ((i + 1 : Nat) : Int) by omega, Xh (by omega)]
    refine ih (i + 1) f _ (by omega) (by omega) (by omega) ?_
    rw [M4, hv, List.take_add_one, List.take_add_one, List.getElem?_eq_getElem hlt, List.getElem?_eq_getElem hlt2]
    constructor
    · rintro ⟨h1, h2⟩; rw [h1, h2]
    · intro h
      have := List.append_inj h (by simp; omega)
      exact ⟨this.1, by simpa using this.2⟩
theorem lSame (p q : Str) (hl : p.length ≤ 140737488355328) : B7 p q = some (p == q) := by
  unfold B7
  by_cases h : p.length = q.length
  · rw [h, bne_self_eq_false, cond_false]
    exact same_loop p q h hl p.length 0 Zj 0 (by omega) (by omega) (by unfold Zj; omega) (by simp)
  · rw [show ((((List.length p : Nat) : Int)) != ((List.length q : Nat) : Int)) = true by rw [bne_iff_ne]; omega, cond_true]
    congr 1
    symm
    rw [beq_eq_false_iff_ne]
    rintro rfl
    exact h rfl
structure VC (l : List Qg) : Prop where
  len : l.length ≤ 9000
  q : ∀ t ∈ l, Mh t
  s : ∀ t ∈ l, TenS t
  o : ∀ t ∈ l, Fx t = true
def E1 (l : List Qg) (t k : Str) : Str × Str × Int × Bool := Pt (Hc l t).2.2.2.2.1 k
def Pl (l : List Qg) (M : Uw) (t k : Str) (now : Int) : Bool := (E1 l t k).2.2.2 && ((Ro M (t, k) == 0) && decide (now < (E1 l t k).2.2.1))
def Fe (l : List Qg) (t k n : Str) : Str := cond (E1 l t k).2.2.2 (C1 (E1 l t k).2.1 [t, k, n]) []
def B9 (l : List Qg) (M : Uw) (t k n p : Str) (now : Int) : Int := cond (Pl l M t k now) (cond (Fe l t k n == []) 101 (cond (p == Fe l t k n) 0 101)) 3
def vRevB (l : List Qg) (M : Uw) (t k : Str) : Bool := (E1 l t k).2.2.2 && (Ro M (t, k) == 0)
def M5 (l : List Qg) (M : Uw) (t k : Str) : Uw := cond (E1 l t k).2.2.2 (Oo M (t, k) (Ro M (t, k) + 1)) M
section
variable {l : List Qg} (hv : VC l)
include hv
theorem Eu (t : Str) : (Hc l t).2.2.2.2.1.length ≤ 9000 := by
  unfold Hc
  cases hp : pl l t with
  | none => simp
  | some k =>
    have hk := pl_lt' hp
    have hg : l.getD k Kp = l[k] := by simp [List.getD, hk]
    simp only [hg]
    exact (hv.s _ (List.getElem_mem hk)).2.2.1
theorem K0 {t k : Str} (h : (E1 l t k).2.2.2 = true) : (E1 l t k).2.1.length ≤ 32 ∧ 0 ≤ (E1 l t k).2.2.1 ∧ (E1 l t k).2.2.1 ≤ 1099511627776 ∧ t.length ≤ 20 ∧ k.length ≤ 20 := by
  unfold E1 at h ⊢
  unfold Hc at h ⊢
  cases hp : pl l t with
  | none =>
    rw [hp] at h
    simp [Pt, tix] at h
  | some i =>
    have hi := pl_lt' hp
    have hg : l.getD i Kp = l[i] := by simp [List.getD, hi]
    rw [hp] at h
    simp only [hg] at h ⊢
    have ho := hv.o _ (List.getElem_mem hi)
    have hname : l[i].1 = t := by
      have := (List.findIdx?_eq_some_iff_getElem.1 hp).2.1
      simpa using this
    unfold Fx at ho
    simp only [Bool.and_eq_true, List.all_eq_true] at ho
    have hn := ho.2.1.1
    unfold Ef at hn
    simp only [Bool.and_eq_true, decide_eq_true_eq] at hn
    unfold Pt at h ⊢
    cases hp2 : tix l[i].2.2.2.2 k with
    | none => rw [hp2] at h; cases h
    | some j =>
      have hj := tix_lt hp2
      have hg2 : l[i].2.2.2.2.getD j Pk = l[i].2.2.2.2[j] := by simp [List.getD, hj]
      simp only [hg2]
      have hk := ho.1.2 _ (List.getElem_mem hj)
      have hname2 : l[i].2.2.2.2[j].1 = k := by
        have := (List.findIdx?_eq_some_iff_getElem.1 hp2).2.1
        simpa using this
      unfold Hs Ef at hk
      simp only [Bool.and_eq_true, decide_eq_true_eq] at hk
      rw [hname2] at hk
      rw [hname] at hn
      exact ⟨hk.2.1.2, hk.2.2.1, hk.2.2.2, hn.1.1.1.2, hk.1.1.1.1.2⟩
theorem rfound (w g i e : Int) (G : List Str) (t k : Str) : Z5 w g i e l G t k = some (E1 l t k) := by
  unfold Z5
  rw [rFind _ _ _ _ _ _ hv.len, Option.bind_some, rTok _ _ _ _ _ _ (Eu hv t), Option.bind_some]
  rfl
variable (w g i e : Int) (M : Uw) (t k : Str)
theorem pVGood (now : Int) : Na w g i e l M t k now = some (Pl l M t k now) := by
  unfold Na Xu Zn
  rw [lFind _ _ _ _ _ _ (by have := hv.len; omega), Option.bind_some, lTok _ _ _ _ _ _ (by have := Eu hv t; omega), Option.bind_some]
  rw [show Pt (Hc l t).2.2.2.2.1 k = E1 l t k from rfl]
  unfold Pl
  cases h : (E1 l t k).2.2.2 with
  | false => rfl
  | true =>
    obtain ⟨_, _, _, h1, h2⟩ := K0 hv h
    rw [cond_true]
    unfold Nj Y6
    rw [show (Nat.ble t.length 140737488355328 && Nat.ble k.length 140737488355328) = true by simp; omega]
    simp only [chk, Option.bind_some]
    cases (Ro M (t, k) == 0) <;> rfl
theorem pVWant (n : Str) : J1 w g i e l M t k n = some (Fe l t k n) := by
  unfold J1 Xv Zo
  rw [lFind _ _ _ _ _ _ (by have := hv.len; omega), Option.bind_some, lTok _ _ _ _ _ _ (by have := Eu hv t; omega), Option.bind_some]
  rw [show Pt (Hc l t).2.2.2.2.1 k = E1 l t k from rfl]
  unfold Fe
  cases h : (E1 l t k).2.2.2 with
  | false => rfl
  | true =>
    obtain ⟨h1, _⟩ := K0 hv h
    rw [cond_true, cond_true]
    unfold Nk
    rw [show Nat.ble (E1 l t k).2.1.length 281474976710656 = true by simp; omega]
    simp only [chk, Option.bind_some]
    rw [Pg _ (by omega) _ (by simp)]
    rfl
theorem pVRevoke (hM : 0 ≤ Ro M (t, k) ∧ Ro M (t, k) ≤ 1000000) : Ug w g i e l M t k = some (vRevB l M t k, w, g, i, e, M5 l M t k) := by
  unfold Ug Xg Zd
  rw [lFind _ _ _ _ _ _ (by have := hv.len; omega), Option.bind_some, lTok _ _ _ _ _ _ (by have := Eu hv t; omega), Option.bind_some]
  rw [show Pt (Hc l t).2.2.2.2.1 k = E1 l t k from rfl]
  unfold vRevB M5
  cases h : (E1 l t k).2.2.2 with
  | false => rfl
  | true =>
    obtain ⟨_, _, _, h1, h2⟩ := K0 hv h
    rw [cond_true]
    unfold Ux
    rw [show (Nat.ble t.length 140737488355328 && Nat.ble k.length 140737488355328) = true by simp; omega]
    simp only [chk, Option.bind_some, cond_true, Bool.true_and]
    rw [Bh (by omega), Is, if_pos rfl]
    rw [show (Ro M (t, k) + 1 == 1) = (Ro M (t, k) == 0) by rw [Bool.eq_iff_iff, beq_iff_eq, beq_iff_eq]; omega]
omit hv in
theorem vWant_len (n : Str) : (Fe l t k n).length ≤ 64 := by
  unfold Fe
  cases (E1 l t k).2.2.2 with
  | false => simp
  | true =>
    rw [cond_true]
    by_cases h : ∀ x ∈ [t, k, n], x.length ≤ 255
    · rw [Ky h]; omega
    · unfold C1
      rw [if_neg (by simpa [List.all_eq_true] using h)]
      simp
omit hv in
theorem beq_sym (a b : Str) : (a == b) = (b == a) := by rw [Bool.eq_iff_iff, beq_iff_eq, beq_iff_eq]; exact eq_comm
theorem pVCheck (n p : Str) (hp : p.length ≤ 140737488355328) (now : Int) : Uv w g i e l M t k n p now = some (B9 l M t k n p now) := by
  unfold Uv Jh B9
  rw [pVGood hv, Option.bind_some, pVWant hv, Option.bind_some]
  have hw := vWant_len (l := l) t k n
  cases Pl l M t k now with
  | false => rfl
  | true =>
    rw [show (!true) = false from rfl, cond_false, cond_true]
    cases h : (Fe l t k n == []) with
    | true => rfl
    | false =>
      rw [cond_false, cond_false, show Nat.ble (Fe l t k n).length 281474976710656 = true by simp; omega, show Nat.ble p.length 281474976710656 = true by simp; omega]
      simp only [chk, Option.bind_some]
      rw [lSame _ _ (by omega), Option.bind_some, beq_sym p]
      cases (Fe l t k n == p) <;> rfl
omit hv in
def gf (ps : List (Str × Str)) : List Str := ps.flatMap fun p => [p.1, p.2]
omit hv in
theorem Ou : ∀ ps : List (Str × Str), (gf ps).length = 2 * ps.length
  | [] => rfl
  | p :: ps => by
    show (p.1 :: p.2 :: gf ps).length = _
    simp only [List.length_cons, Ou ps]
    omega
omit hv in
theorem gf_get : ∀ (ps : List (Str × Str)) (j : Nat) (h : j < ps.length), (gf ps)[2 * j]? = some ps[j].1 ∧ (gf ps)[2 * j + 1]? = some ps[j].2
  | p :: ps, 0, _ => ⟨rfl, rfl⟩
  | p :: ps, j + 1, h => by
    have := gf_get ps j (by simpa using h)
    have e : gf (p :: ps) = p.1 :: p.2 :: gf ps := rfl
    rw [e, show 2 * (j + 1) = 2 * j + 1 + 1 by omega]
    simpa using this
omit hv in
theorem gf_snoc (ps : List (Str × Str)) (t k : Str) : gf ps ++ [t, k] = gf (ps ++ [(t, k)]) := by simp [gf]
def inP (ps : List (Str × Str)) (t k : Str) : Bool := ps.any fun p => (p.1 == t) && (p.2 == k)
omit hv in
theorem Lx (ps : List (Str × Str)) (hl : ps.length ≤ 1000000) : ∀ (d j f : Nat), d = ps.length - j → j ≤ ps.length → d < f → Vm (gf ps) t k f ((2 * j : Nat) : Int) = some (inP (ps.drop j) t k) := by
  intro d
  induction d with
  | zero =>
    intro j f hd hj hf
    obtain ⟨f, rfl⟩ : ∃ g, f = g + 1 := ⟨f - 1, by omega⟩
    show V3 (Vm (gf ps) t k f) (gf ps) t k ((2 * j : Nat) : Int) = _
    unfold V3
    rw [show (((2 * j : Nat) : Int) + 1) = ((2 * j + 1 : Nat) : Int) by omega, Xh (by omega), Ou, show decide (((2 * j + 1 : Nat) : Int) < ((2 * ps.length : Nat) : Int)) = false from decide_eq_false (by omega), cond_false, List.drop_of_length_le (by omega)]
    rfl
  | succ d ih =>
    intro j f hd hj hf
    obtain ⟨f, rfl⟩ : ∃ g, f = g + 1 := ⟨f - 1, by omega⟩
    have hlt : j < ps.length := by omega
    obtain ⟨g1, g2⟩ := gf_get ps j hlt
    show V3 (Vm (gf ps) t k f) (gf ps) t k ((2 * j : Nat) : Int) = _
    unfold V3 Z8
    rw [show (((2 * j : Nat) : Int) + 1) = ((2 * j + 1 : Nat) : Int) by omega, Xh (by omega), Ou, show decide (((2 * j + 1 : Nat) : Int) < ((2 * ps.length : Nat) : Int)) = true from decide_eq_true (by omega), cond_true, Ib, g1, Option.bind_some, Ib, g2, Option.bind_some,
      show (((2 * j : Nat) : Int) + 2) = ((2 * (j + 1) : Nat) : Int) by omega, Xh (by omega), ih (j + 1) f (by omega) (by omega) (by omega), List.drop_eq_getElem_cons hlt]
    unfold inP
    rw [List.any_cons]
    cases (ps[j].1 == t) with
    | false => rfl
    | true =>
      rw [cond_true]
      cases (ps[j].2 == k) <;> rfl
omit hv in
theorem Ov (ps : List (Str × Str)) (hl : ps.length ≤ 1000000) : X4 w g i e l (gf ps) t k = some (inP ps t k) := by
  have := Lx t k ps hl ps.length 0 Zj (by omega) (by omega) (by unfold Zj; omega)
  rw [show ((2 * 0 : Nat) : Int) = 0 from rfl, List.drop_zero] at this
  exact this
def Pm (l : List Qg) (ps : List (Str × Str)) (t k : Str) : Bool := (E1 l t k).2.2.2 && !(inP ps t k)
def Pn (l : List Qg) (ps : List (Str × Str)) (t k : Str) : List (Str × Str) := cond (Pm l ps t k) (ps ++ [(t, k)]) ps
theorem rVRevoke (ps : List (Str × Str)) (hl : ps.length ≤ 1000000) : Yf w g i e l (gf ps) t k = some (Pm l ps t k, w, g, i, e, gf (Pn l ps t k)) := by
  unfold Yf Xe Pn Pm
  rw [rfound hv, Option.bind_some, Ov _ _ _ _ _ _ ps hl, Option.bind_some]
  cases (E1 l t k).2.2.2 with
  | false => rfl
  | true =>
    rw [show (!true) = false from rfl, cond_false]
    cases inP ps t k with
    | true => rfl
    | false =>
      rw [cond_false, Ry (by rw [Ou]; simp; omega), Option.bind_some, gf_snoc]
      rfl
def Po (l : List Qg) (ps : List (Str × Str)) (t k : Str) (now : Int) : Bool := (E1 l t k).2.2.2 && ((!(inP ps t k)) && decide (now < (E1 l t k).2.2.1))
theorem rVGood (ps : List (Str × Str)) (hl : ps.length ≤ 1000000) (now : Int) : Yz w g i e l (gf ps) t k now = some (Po l ps t k now, w, g, i, e, gf ps) := by
  unfold Yz Z6 Po
  rw [rfound hv, Option.bind_some, Ov _ _ _ _ _ _ ps hl, Option.bind_some]
  cases (E1 l t k).2.2.2 with
  | false => rfl
  | true => cases inP ps t k <;> rfl
theorem rVWant (ps : List (Str × Str)) (n : Str) : Y0 w g i e l (gf ps) t k n = some (Fe l t k n) := by
  unfold Y0 Fe
  rw [rfound hv, Option.bind_some]
  cases h : (E1 l t k).2.2.2 with
  | false => rfl
  | true =>
    obtain ⟨h1, _⟩ := K0 hv h
    rw [show (!true) = false from rfl, cond_false, cond_true, show Nat.ble (E1 l t k).2.1.length 281474976710656 = true by simp; omega]
    simp only [chk, Option.bind_some]
    rw [ref_proof _ (by omega) _ (by simp)]
    rfl
def Ow (l : List Qg) (ps : List (Str × Str)) (t k n p : Str) (now : Int) : Int := cond (Po l ps t k now) (cond (Fe l t k n == []) 101 (cond (p == Fe l t k n) 0 101)) 3
theorem rVCheck (ps : List (Str × Str)) (hl : ps.length ≤ 1000000) (n p : Str) (now : Int) : Ys w g i e l (gf ps) t k n p now = some (Ow l ps t k n p now, w, g, i, e, gf ps) := by
  unfold Ys Xs Ow
  rw [rVGood hv w g i e t k ps hl, Option.bind_some, rVWant hv, Option.bind_some]
  cases Po l ps t k now with
  | false => rfl
  | true =>
    rw [show (!true) = false from rfl, cond_false, cond_true]
    cases (Fe l t k n == []) with
    | true => rfl
    | false => cases (p == Fe l t k n) <;> rfl
end
theorem pVNew (w g i e : Int) (l : List Qg) (hl : l.length ≤ 140737488355328) (hq : ∀ t ∈ l, Mh t) : Rq w g i e l = some (cond (Ht w g i e l) (some (w, g, i, e, [])) none) := by
  unfold Rq
  rw [lCfg w g i e l hl hq, Option.bind_some]
  cases Ht w g i e l <;> rfl
theorem rVNew (w g i e : Int) (l : List Qg) (hl : l.length ≤ 9000) (hq : ∀ t ∈ l, Mh t) (hs : ∀ t ∈ l, TenS t) : Up w g i e l = some (cond (Ht w g i e l) (some (w, g, i, e, gf [])) none) := by
  unfold Up
  rw [rCfg w g i e l hl hq hs, Option.bind_some]
  cases Ht w g i e l <;> rfl
theorem vc_of {w g i e : Int} {l : List Qg} (hk : Ht w g i e l = true) (hl : l.length ≤ 9000) (hq : ∀ t ∈ l, Mh t) (hs : ∀ t ∈ l, TenS t) : VC l := by
  refine ⟨hl, hq, hs, ?_⟩
  unfold Ht at hk
  simp only [Bool.and_eq_true, List.all_eq_true] at hk
  exact hk.2.2.1
end Go.Proofs.YtmgfanhcdfobhaaGreatDoor
namespace Go.Proofs.YtmgfanhcdfobhaaGreatDoor
abbrev headV : List Qg := [(([97, 110, 110] : List UInt8), 0, 0, ([] : List (Int × Int)), ([(([107] : List UInt8), ([115] : List UInt8), 5)] : List ((List UInt8) × (List UInt8) × Int)))]
theorem headV_q : ∀ t ∈ headV, Mh t := by
  intro t ht
  have : t = (([97, 110, 110] : List UInt8), 0, 0, ([] : List (Int × Int)), ([(([107] : List UInt8), ([115] : List UInt8), 5)] : List ((List UInt8) × (List UInt8) × Int))) := by simpa [headV] using ht
  subst this
  refine ⟨by decide, by decide, by decide, (fun n hn => by cases hn), fun x hx => ?_⟩
  have : x = (([107] : List UInt8), ([115] : List UInt8), 5) := by simpa using hx
  subst this
  decide
theorem headVNew : Rq 9 9 9 9 headV = some (some (9, 9, 9, 9, [])) := by
  rw [pVNew 9 9 9 9 headV (by decide) headV_q, show Ht 9 9 9 9 headV = true by kernel_rfl]
  rfl
theorem optE_s {α β : Type} (x : α) (a : Option β) (f : α → Option β) : optE (some x) a f = f x := rfl
theorem M6 (l : List Qg) (M : Uw) (t k : Str) (x : Str × Str) : Ro (M5 l M t k) x = if (E1 l t k).2.2.2 = true ∧ (t, k) = x then Ro M (t, k) + 1 else Ro M x := by
  unfold M5
  cases h : (E1 l t k).2.2.2 with
  | false => rw [cond_false, if_neg (by simp)]
  | true =>
    rw [cond_true, Is]
    simp
def MB (n : Nat) (M : Uw) : Prop := ∀ x, 0 ≤ Ro M x ∧ Ro M x ≤ n
theorem mb_nil : MB 0 [] := fun x => by rw [mget_nil]; omega
theorem mb_rev {n : Nat} {M : Uw} (h : MB n M) (l : List Qg) (t k : Str) : MB (n + 1) (M5 l M t k) := by
  intro x
  rw [M6]
  have := h x
  have := h (t, k)
  split <;> omega
theorem mb_le {n m : Nat} {M : Uw} (h : MB n M) (hm : n ≤ m) : MB m M := fun x => by have := h x; omega
end Go.Proofs.YtmgfanhcdfobhaaGreatDoor
namespace Go.Proofs.YtmgfanhcdfobhaaGreatDoor
theorem inP_snoc (ps : List (Str × Str)) (a b t k : Str) : inP (ps ++ [(a, b)]) t k = (inP ps t k || ((a == t) && (b == k))) := by unfold inP; rw [List.any_append]; simp
def Rel (l : List Qg) (M : Uw) (ps : List (Str × Str)) : Prop := ∀ t k, (E1 l t k).2.2.2 = true → (Ro M (t, k) == 0) = !(inP ps t k)
theorem rel_next {l : List Qg} {M : Uw} {ps : List (Str × Str)} {n : Nat} (h : Rel l M ps) (hM : MB n M) (a b : Str) : Rel l (M5 l M a b) (ps ++ [(a, b)]) := by
  intro t k htk
  rw [inP_snoc, M6]
  have h0 := hM (a, b)
  by_cases e : (a, b) = (t, k)
  · injection e with e1 e2
    subst e1; subst e2
    rw [if_pos ⟨htk, rfl⟩, beq_self_eq_true, beq_self_eq_true]
    simp
    omega
  · rw [if_neg (fun h => e h.2), h t k htk]
    have : ((a == t) && (b == k)) = false := by
      rw [Bool.eq_false_iff]
      intro h2
      simp only [Bool.and_eq_true, beq_iff_eq] at h2
      exact e (by rw [h2.1, h2.2])
    rw [this, Bool.or_false]
theorem rel_good {l : List Qg} {M : Uw} {ps : List (Str × Str)} (h : Rel l M ps) (t k : Str) (now : Int) : Po l ps t k now = Pl l M t k now := by
  unfold Po Pl
  cases hx : (E1 l t k).2.2.2 with
  | false => rfl
  | true => rw [h t k hx]
theorem rel_check {l : List Qg} {M : Uw} {ps : List (Str × Str)} (h : Rel l M ps) (t k n p : Str) (now : Int) : Ow l ps t k n p now = B9 l M t k n p now := by
  unfold Ow B9
  rw [rel_good h]
theorem rel_step {l : List Qg} {M : Uw} {ps : List (Str × Str)} {n : Nat} (h : Rel l M ps) (hM : MB n M) (a b : Str) : Rel l (M5 l M a b) (Pn l ps a b) := by
  unfold Pn
  cases hr : Pm l ps a b with
  | true => exact rel_next h hM a b
  | false =>
    rw [cond_false]
    intro t k htk
    rw [M6]
    by_cases e : (E1 l a b).2.2.2 = true ∧ (a, b) = (t, k)
    · obtain ⟨e1, e2⟩ := e
      injection e2 with e2 e3
      subst e2; subst e3
      rw [if_pos ⟨e1, rfl⟩]
      unfold Pm at hr
      rw [e1, Bool.true_and] at hr
      have hin : inP ps a b = true := by simpa using hr
      have := hM (a, b)
      rw [hin]
      simp
      omega
    · rw [if_neg e, h t k htk]
theorem rRevP_len (l : List Qg) (ps : List (Str × Str)) (t k : Str) : (Pn l ps t k).length ≤ ps.length + 1 := by
  unfold Pn
  cases Pm l ps t k <;> simp
end Go.Proofs.YtmgfanhcdfobhaaGreatDoor
namespace Go.Proofs.YtmgfanhcdfobhaaGreatDoor
def Xj (c : Int) (g : Nat) : Value := cond (c == 1) (.func (.func 57) #[pt g 0] #[]) (cond (c == 2) (.func (.func 75) #[pt g 0] #[]) .nilFunc)
def Hv (c : Int) : Bool := cond (c == 1) false (cond (c == 2) false true)
theorem stepV_1 {c : Int} {g : Nat} (h : (c == 1) = true) : Xj c g = .func (.func 57) #[pt g 0] #[] := by unfold Xj; rw [h]; rfl
theorem stepV_2 {c : Int} {g : Nat} (h1 : (c == 1) = false) (h : (c == 2) = true) : Xj c g = .func (.func 75) #[pt g 0] #[] := by unfold Xj; rw [h1, h]; rfl
end Go.Proofs.YtmgfanhcdfobhaaGreatDoor
namespace Go.Proofs.YtmgfanhcdfobhaaGreatDoor
open Go.RowKit
def Jb (q3 : Int) (q4 : Int) (q5 : Int) (q6 : Int) (q7 : (List Qg)) (f : Uw) (g : Int) (a : (List UInt8)) (b : (List UInt8)) (c : (List UInt8)) (d : Bool) (e : Int) : Option (Int × (List UInt8) × (List UInt8) × Int × Int × Int × (List UInt8) × (List UInt8) × (List UInt8) × Bool) :=
  (some (5, ([] : List UInt8), ([] : List UInt8), e, 0, 0, a, b, c, d))
theorem Ng {S : List Nat} (g1 : Nat) (g2 : Nat) (A8 : Option Addr) (c9 : Nat) (c : Nat) (q3 : Int) (q4 : Int) (q5 : Int) (q6 : Int) (f : (List Va)) (h : Uw) (p : Int) (j : (List UInt8)) (l : (List UInt8)) (m : (List UInt8)) (o : Bool) (b : Int) (w0 : World) (hO : SP S w0 w0 [Qn g2 79 #[(.int .i64 q3), (.int .i64 q4), (.int .i64 q5), (.int .i64 q6), (.slice A8 (List.length (List.map stT f)) c9), (.map (some c))], V5 c h, Qn g1 95 #[(pt g2 0), (Xj p g1), (.string ⟨List.toArray j⟩), (.string ⟨List.toArray l⟩), (.string ⟨List.toArray m⟩), (.bool o)]]) (a2 : ∀ w, Mod S w0 w → (dDS Js Ce).ok w (A8, c9, f)) (r : (Int × (List UInt8) × (List UInt8) × Int × Int × Int × (List UInt8) × (List UInt8) × (List UInt8) × Bool)) (H : Jb q3 q4 q5 q6 (List.map stT f) h p j l m o b = some r) :
  Calls Tryz.prog 74 #[(pt g1 0), (.int .i64 b)] w0 (fun e w' => e = .returned (.agg #[(.int .i64 r.1), (.string ⟨List.toArray r.2.1⟩), (.string ⟨List.toArray r.2.2.1⟩), (.int .i64 r.2.2.2.1), (.int .i64 r.2.2.2.2.1)]) ∧ SP S w0 w' [Qn g2 79 #[(.int .i64 q3), (.int .i64 q4), (.int .i64 q5), (.int .i64 q6), (.slice A8 (List.length (List.map stT f)) c9), (.map (some c))], V5 c h, Qn g1 95 #[(pt g2 0), (Xj r.2.2.2.2.2.1 g1), (.string ⟨List.toArray r.2.2.2.2.2.2.1⟩), (.string ⟨List.toArray r.2.2.2.2.2.2.2.1⟩), (.string ⟨List.toArray r.2.2.2.2.2.2.2.2.1⟩), (.bool r.2.2.2.2.2.2.2.2.2)]]) := by
 unfold Jb at H
 refine Qs (n := 10) Tryz.func74 K K K ?_
 have u := hO
 refine aQ ?_
 refine aR ?_
 refine iS 1 ?_
 refine Qi.alloc (t := 63) (z := (.agg #[(.int .i64 0), (.string ⟨List.toArray ([] : List UInt8)⟩), (.string ⟨List.toArray ([] : List UInt8)⟩), (.int .i64 0), (.int .i64 0)])) (d := (some 4)) (k := 0) K rfl K u ?_
 intro q a3 a0
 refine iF ?_
 refine aQ ?_
 refine aR ?_
 refine iR 3 3 [(5, (pt g1 0)), (6, (pt g1 0)), (7, (pt g1 1))] ?_
 refine iS 4 ?_
 refine Qi.store (t := 93) (x := (.tmp 7)) (y := (.const .nilFunc)) (g := g1) (off := 1) (i := 2) (v := .nilFunc) (cs' := #[(pt g2 0), .nilFunc, (.string ⟨List.toArray j⟩), (.string ⟨List.toArray l⟩), (.string ⟨List.toArray m⟩), (.bool o)]) (d := none) (k := 3) K rfl K K a0 rfl K ?_
 intro a4 a1
 refine iF ?_
 refine aQ ?_
 refine aR ?_
 refine iR 2 2 [(8, (.int .i64 b)), (9, (.agg #[(.int .i64 5), (.string ⟨List.toArray ([] : List UInt8)⟩), (.string ⟨List.toArray ([] : List UInt8)⟩), (.int .i64 b), (.int .i64 0)]))] ?_
 refine iS 3 ?_
 refine Qi.store (t := 63) (x := (.tmp 4)) (y := (.tmp 9)) (g := q) (off := 0) (i := 3) (v := (.agg #[(.int .i64 5), (.string ⟨List.toArray ([] : List UInt8)⟩), (.string ⟨List.toArray ([] : List UInt8)⟩), (.int .i64 b), (.int .i64 0)])) (cs' := #[(.int .i64 5), (.string ⟨List.toArray ([] : List UInt8)⟩), (.string ⟨List.toArray ([] : List UInt8)⟩), (.int .i64 b), (.int .i64 0)]) (d := none) (k := 2) K rfl K K a1 rfl K ?_
 intro a5 s
 refine iF ?_
 refine At.ret K ?_
 refine ⟨(.agg #[(.int .i64 5), (.string ⟨List.toArray ([] : List UInt8)⟩), (.string ⟨List.toArray ([] : List UInt8)⟩), (.int .i64 b), (.int .i64 0)]), Bs K (J4 (a := 4) (t := 63) (g := q) (off := 0) K (SP.get s (i := 3) rfl) K), ?_⟩
 obtain rfl := Qe H
 exact ⟨rfl, SP.sel s [0,1,2] rfl rfl⟩
def N6 (q3 : Int) (q4 : Int) (q5 : Int) (q6 : Int) (q7 : (List Qg)) (e : Uw) (f : Int) (g : (List UInt8)) (h : (List UInt8)) (i : (List UInt8)) (c : Bool) (j : Int) (k : (List UInt8)) (l : (List UInt8)) (m : Int) (n : Int) (o : Int) (b : (List UInt8)) : Option (Int × (List UInt8) × (List UInt8) × Int × Int × Int × (List UInt8) × (List UInt8) × (List UInt8) × Bool) :=
  (cond (j != 1) ((Jb q3 q4 q5 q6 q7 e f g h i c 1).bind fun a => (some (a.1, a.2.1, a.2.2.1, a.2.2.2.1, a.2.2.2.2.1, a.2.2.2.2.2.1, a.2.2.2.2.2.2.1, a.2.2.2.2.2.2.2.1, a.2.2.2.2.2.2.2.2.1, a.2.2.2.2.2.2.2.2.2))) ((sub b 0 (if 64 < ((List.length b : Nat) : Int) then 64 else ((List.length b : Nat) : Int))).bind fun d => (some (2, d, ([] : List UInt8), 0, 0, 2, k, l, d, c))))
theorem Ca {S : List Nat} (g1 : Nat) (g2 : Nat) (A8 : Option Addr) (c9 : Nat) (u : Nat) (q3 : Int) (q4 : Int) (q5 : Int) (q6 : Int) (a2 : (List Va)) (a6 : Uw) (a3 : Int) (b2 : (List UInt8)) (b0 : (List UInt8)) (a7 : (List UInt8)) (a0 : Bool) (a1 : Int) (m : (List UInt8)) (p : (List UInt8)) (a8 : Int) (a9 : Int) (b7 : Int) (c : (List UInt8)) (w0 : World) (hO : SP S w0 w0 [Qn g2 79 #[(.int .i64 q3), (.int .i64 q4), (.int .i64 q5), (.int .i64 q6), (.slice A8 (List.length (List.map stT a2)) c9), (.map (some u))], V5 u a6, Qn g1 95 #[(pt g2 0), (Xj a3 g1), (.string ⟨List.toArray b2⟩), (.string ⟨List.toArray b0⟩), (.string ⟨List.toArray a7⟩), (.bool a0)]]) (c3 : ∀ w, Mod S w0 w → (dDS Js Ce).ok w (A8, c9, a2)) (r : (Int × (List UInt8) × (List UInt8) × Int × Int × Int × (List UInt8) × (List UInt8) × (List UInt8) × Bool)) (H : N6 q3 q4 q5 q6 (List.map stT a2) a6 a3 b2 b0 a7 a0 a1 m p a8 a9 b7 c = some r) :
  Calls Tryz.prog 57 #[(pt g1 0), (.agg #[(.int .i64 a1), (.string ⟨List.toArray m⟩), (.string ⟨List.toArray p⟩), (.int .i64 a8), (.int .i64 a9)]), (.int .i64 b7), (.string ⟨List.toArray c⟩)] w0 (fun e w' => e = .returned (.agg #[(.int .i64 r.1), (.string ⟨List.toArray r.2.1⟩), (.string ⟨List.toArray r.2.2.1⟩), (.int .i64 r.2.2.2.1), (.int .i64 r.2.2.2.2.1)]) ∧ SP S w0 w' [Qn g2 79 #[(.int .i64 q3), (.int .i64 q4), (.int .i64 q5), (.int .i64 q6), (.slice A8 (List.length (List.map stT a2)) c9), (.map (some u))], V5 u a6, Qn g1 95 #[(pt g2 0), (Xj r.2.2.2.2.2.1 g1), (.string ⟨List.toArray r.2.2.2.2.2.2.1⟩), (.string ⟨List.toArray r.2.2.2.2.2.2.2.1⟩), (.string ⟨List.toArray r.2.2.2.2.2.2.2.2.1⟩), (.bool r.2.2.2.2.2.2.2.2.2)]]) := by
 unfold N6 at H
 refine Qs (n := 42) Tryz.func57 K K K ?_
 have c4 := hO
 refine aQ ?_
 refine aR ?_
 refine iS 1 ?_
 refine Vn (t := 63) (x := (.tmp 1)) (v := (.agg #[(.int .i64 a1), (.string ⟨List.toArray m⟩), (.string ⟨List.toArray p⟩), (.int .i64 a8), (.int .i64 a9)])) (d := (some 5)) (k := 0) K rfl K c4 ?_
 intro s e4 c5
 refine iS 2 ?_
 refine Qi.alloc (t := 63) (z := (.agg #[(.int .i64 0), (.string ⟨List.toArray ([] : List UInt8)⟩), (.string ⟨List.toArray ([] : List UInt8)⟩), (.int .i64 0), (.int .i64 0)])) (d := (some 8)) (k := 1) K rfl K c5 ?_
 intro a4 c6 b1
 refine iF ?_
 refine aQ ?_
 refine aQ ?_
 refine aR ?_
 refine iR 1 1 [(9, (pt s 0))] ?_
 refine iS 2 ?_
 refine sL 3 9 s 0 3 (.int .i64 a1) 10 b1 rfl ?_
 refine iR 1 3 [(11, (.bool (a1 != 1)))] ?_
 refine iF ?_
 refine V1 K (o := (.tmp 11)) K (b := (a1 != 1)) K (fun b3 => ?_) (fun b3 => ?_)
 ·have H := ct H b3
  refine aQ ?_
  refine aR ?_
  refine iR 1 1 [(12, (pt g1 0))] ?_
  obtain ⟨h, c7, H⟩ := Qb H
  refine iS 2 ?_
  refine cF 74 #[(.tmp 12), (.const (.int .i64 (1)))] #[60, 38] 13 Tryz.call74 (Ng g1 g2 A8 c9 u q3 q4 q5 q6 a2 a6 a3 b2 b0 a7 a0 1 c6 (Yd b1 [0, 1, 2] rfl rfl) (fun w hm => c3 w (SP.through b1 (l := [0, 1, 2]) rfl hm)) h c7) ?_
  rintro e c8 ⟨rfl, b8⟩
  refine ⟨_, rfl, ?_⟩
  have d0 : SP S w0 c8 [Qn s 63 #[(.int .i64 a1), (.string ⟨List.toArray m⟩), (.string ⟨List.toArray p⟩), (.int .i64 a8), (.int .i64 a9)], Qn a4 63 #[(.int .i64 0), (.string ⟨List.toArray ([] : List UInt8)⟩), (.string ⟨List.toArray ([] : List UInt8)⟩), (.int .i64 0), (.int .i64 0)], Qn g2 79 #[(.int .i64 q3), (.int .i64 q4), (.int .i64 q5), (.int .i64 q6), (.slice A8 (List.length (List.map stT a2)) c9), (.map (some u))], V5 u a6, Qn g1 95 #[(pt g2 0), (Xj h.2.2.2.2.2.1 g1), (.string ⟨List.toArray h.2.2.2.2.2.2.1⟩), (.string ⟨List.toArray h.2.2.2.2.2.2.2.1⟩), (.string ⟨List.toArray h.2.2.2.2.2.2.2.2.1⟩), (.bool h.2.2.2.2.2.2.2.2.2)]] := Vv b1 [0, 1, 2] [3, 4] rfl rfl b8 rfl
  clear b8
  refine iS 3 ?_
  refine Qi.store (t := 63) (x := (.tmp 8)) (y := (.tmp 13)) (g := a4) (off := 0) (i := 1) (v := (.agg #[(.int .i64 h.1), (.string ⟨List.toArray h.2.1⟩), (.string ⟨List.toArray h.2.2.1⟩), (.int .i64 h.2.2.2.1), (.int .i64 h.2.2.2.2.1)])) (cs' := #[(.int .i64 h.1), (.string ⟨List.toArray h.2.1⟩), (.string ⟨List.toArray h.2.2.1⟩), (.int .i64 h.2.2.2.1), (.int .i64 h.2.2.2.2.1)]) (d := none) (k := 2) K rfl K K d0 rfl K ?_
  intro e5 b9
  refine iF ?_
  refine At.ret K ?_
  refine ⟨(.agg #[(.int .i64 h.1), (.string ⟨List.toArray h.2.1⟩), (.string ⟨List.toArray h.2.2.1⟩), (.int .i64 h.2.2.2.1), (.int .i64 h.2.2.2.2.1)]), Bs K (J4 (a := 8) (t := 63) (g := a4) (off := 0) K (SP.get b9 (i := 1) rfl) K), ?_⟩
  obtain rfl := Qe H
  exact ⟨rfl, SP.sel b9 [2,3,4] rfl rfl⟩
 ·have H := cf H b3
  refine At.skip K ?_
  refine aQ ?_
  obtain ⟨b4, b5, b6, H⟩ := Dw H
  obtain ⟨a5, hyl142⟩ : ∃ y, (List.drop (Int.toNat 0) (List.take (Int.toNat (if 64 < ((List.length c : Nat) : Int) then 64 else ((List.length c : Nat) : Int))) c)) = y := ⟨_, rfl⟩
  rw [hyl142] at H
  refine aG [GEq (pt g1 0), GEq (pt g1 0), GEq (pt g1 0), GEq (pt s 1), GEq (.string ⟨List.toArray m⟩), GEq (pt s 2), GEq (.string ⟨List.toArray p⟩), GEq (.string ⟨List.toArray c⟩), GEq (.string ⟨List.toArray c⟩), GEq (.int .i64 ((List.length c : Nat) : Int)), GEq (.int .i64 (if 64 < ((List.length c : Nat) : Int) then 64 else ((List.length c : Nat) : Int))), GEq (.string ⟨List.toArray a5⟩), GEq (pt g1 0), GEq (pt g1 2), Ey, GEq (pt g1 0), GEq (pt g1 3), Ey, GEq (pt g1 0), GEq (pt g1 4), Ey] [14, 17, 20] [sG [] [] S w0 [Qn g2 79 #[(.int .i64 q3), (.int .i64 q4), (.int .i64 q5), (.int .i64 q6), (.slice A8 (List.length (List.map stT a2)) c9), (.map (some u))], V5 u a6, Qn g1 95 #[(pt g2 0), (Xj a3 g1), (.string ⟨List.toArray b2⟩), (.string ⟨List.toArray b0⟩), (.string ⟨List.toArray a7⟩), (.bool a0)], Qn s 63 #[(.int .i64 a1), (.string ⟨List.toArray m⟩), (.string ⟨List.toArray p⟩), (.int .i64 a8), (.int .i64 a9)], Qn a4 63 #[(.int .i64 0), (.string ⟨List.toArray ([] : List UInt8)⟩), (.string ⟨List.toArray ([] : List UInt8)⟩), (.int .i64 0), (.int .i64 0)]], sG [14] [undef] S w0 [Qn g2 79 #[(.int .i64 q3), (.int .i64 q4), (.int .i64 q5), (.int .i64 q6), (.slice A8 (List.length (List.map stT a2)) c9), (.map (some u))], V5 u a6, Qn g1 95 #[(pt g2 0), (Xj a3 g1), (.string ⟨List.toArray m⟩), (.string ⟨List.toArray b0⟩), (.string ⟨List.toArray a7⟩), (.bool a0)], Qn s 63 #[(.int .i64 a1), (.string ⟨List.toArray m⟩), (.string ⟨List.toArray p⟩), (.int .i64 a8), (.int .i64 a9)], Qn a4 63 #[(.int .i64 0), (.string ⟨List.toArray ([] : List UInt8)⟩), (.string ⟨List.toArray ([] : List UInt8)⟩), (.int .i64 0), (.int .i64 0)]], sG [14, 17] [undef, undef] S w0 [Qn g2 79 #[(.int .i64 q3), (.int .i64 q4), (.int .i64 q5), (.int .i64 q6), (.slice A8 (List.length (List.map stT a2)) c9), (.map (some u))], V5 u a6, Qn g1 95 #[(pt g2 0), (Xj a3 g1), (.string ⟨List.toArray m⟩), (.string ⟨List.toArray p⟩), (.string ⟨List.toArray a7⟩), (.bool a0)], Qn s 63 #[(.int .i64 a1), (.string ⟨List.toArray m⟩), (.string ⟨List.toArray p⟩), (.int .i64 a8), (.int .i64 a9)], Qn a4 63 #[(.int .i64 0), (.string ⟨List.toArray ([] : List UInt8)⟩), (.string ⟨List.toArray ([] : List UInt8)⟩), (.int .i64 0), (.int .i64 0)]], sG [14, 17, 20] [undef, undef, undef] S w0 [Qn g2 79 #[(.int .i64 q3), (.int .i64 q4), (.int .i64 q5), (.int .i64 q6), (.slice A8 (List.length (List.map stT a2)) c9), (.map (some u))], V5 u a6, Qn g1 95 #[(pt g2 0), (Xj a3 g1), (.string ⟨List.toArray m⟩), (.string ⟨List.toArray p⟩), (.string ⟨List.toArray a5⟩), (.bool a0)], Qn s 63 #[(.int .i64 a1), (.string ⟨List.toArray m⟩), (.string ⟨List.toArray p⟩), (.int .i64 a8), (.int .i64 a9)], Qn a4 63 #[(.int .i64 0), (.string ⟨List.toArray ([] : List UInt8)⟩), (.string ⟨List.toArray ([] : List UInt8)⟩), (.int .i64 0), (.int .i64 0)]]] 21 3 ⟨trivial, SP.drew b1⟩ ?_ ?_
  iterate 21 refine And.intro ?_ ?_
  exact trivial
  ·exact oV (hC (hS 0 (pt g1 0)) (h0)) (pt g1 0)
  ·exact oV (hC (hS 0 (pt g1 0)) (h0)) (pt g1 0)
  ·exact oV (hC (hS 0 (pt g1 0)) (h0)) (pt g1 0)
  ·exact oV (hC (hS 5 (pt s 0)) (h0)) (pt s 1)
  ·refine oL 0 ?_
   ·rintro ρ' w' hs f ⟨e6, d1⟩
    refine kM (kc (kA f 3 17) k0) fun q => ?_
    refine sL 9 17 s 1 3 (.string ⟨List.toArray m⟩) 18 d1 rfl ?_
    exact eK q
  ·exact oV (hC (hS 5 (pt s 0)) (h0)) (pt s 2)
  ·refine Owe.light K [0, 1] K (Qf ?_ (Qf ?_ Q8))
   ·rintro ρ' w' hs f ⟨e7, d2⟩
    refine kM (kc (kA f 5 19) k0) fun q => ?_
    refine sL 9 19 s 2 3 (.string ⟨List.toArray p⟩) 20 d2 rfl ?_
    exact eK q
   ·rintro ρ' w' hs f ⟨⟨e8, -⟩, d3⟩
    refine kM (kc (kA f 5 19) k0) fun q => ?_
    refine sL 9 19 s 2 3 (.string ⟨List.toArray p⟩) 20 d3 rfl ?_
    exact eK q
  ·exact oV (hC (hS 3 (.string ⟨List.toArray c⟩)) (h0)) (.string ⟨List.toArray c⟩)
  ·exact oV (hC (hS 3 (.string ⟨List.toArray c⟩)) (h0)) (.string ⟨List.toArray c⟩)
  ·exact oV (hC (hA 8 22) (h0)) (.int .i64 ((List.length c : Nat) : Int))
  ·exact oV (hC (hA 9 23) (h0)) (.int .i64 (if 64 < ((List.length c : Nat) : Int) then 64 else ((List.length c : Nat) : Int)))
  ·refine Owe.light K [0, 1, 2] K (Qf ?_ (Qf ?_ (Qf ?_ Q8)))
   ·rintro ρ' w' hs f ⟨e9, f0⟩
    refine kM (kc (kA f 7 21) (kc (kA f 10 24) k0)) fun q => ?_
    refine Dx (a := c) (T := 9) (x := (.tmp 21)) (lo := none) (hi := (some (.tmp 24))) (i := 0) (j := (if 64 < ((List.length c : Nat) : Int) then 64 else ((List.length c : Nat) : Int))) (d := (some 25)) (k := 11) K rfl K K rfl ⟨.i64, K⟩ b4 b5 b6 ?_
    rw [hyl142]
    exact eK q
   ·rintro ρ' w' hs f ⟨⟨f1, -⟩, f2⟩
    refine kM (kc (kA f 7 21) (kc (kA f 10 24) k0)) fun q => ?_
    refine Dx (a := c) (T := 9) (x := (.tmp 21)) (lo := none) (hi := (some (.tmp 24))) (i := 0) (j := (if 64 < ((List.length c : Nat) : Int) then 64 else ((List.length c : Nat) : Int))) (d := (some 25)) (k := 11) K rfl K K rfl ⟨.i64, K⟩ b4 b5 b6 ?_
    rw [hyl142]
    exact eK q
   ·rintro ρ' w' hs f ⟨⟨f3, f4, -⟩, f5⟩
    refine kM (kc (kA f 7 21) (kc (kA f 10 24) k0)) fun q => ?_
    refine Dx (a := c) (T := 9) (x := (.tmp 21)) (lo := none) (hi := (some (.tmp 24))) (i := 0) (j := (if 64 < ((List.length c : Nat) : Int) then 64 else ((List.length c : Nat) : Int))) (d := (some 25)) (k := 11) K rfl K K rfl ⟨.i64, K⟩ b4 b5 b6 ?_
    rw [hyl142]
    exact eK q
  ·exact oV (hC (hA 0 14) (h0)) (pt g1 0)
  ·exact oV (hC (hA 12 26) (h0)) (pt g1 2)
  ·refine oH 0 1 ?_
   ·rintro ρ' w' hs f ⟨f6, d4⟩
    refine kM (kc (kA f 13 27) (kc (kA f 4 18) k0)) fun q => ?_
    refine Qi.store (t := 9) (x := (.tmp 27)) (y := (.tmp 18)) (g := g1) (off := 2) (i := 2) (v := (.string ⟨List.toArray m⟩)) (cs' := #[(pt g2 0), (Xj a3 g1), (.string ⟨List.toArray m⟩), (.string ⟨List.toArray b0⟩), (.string ⟨List.toArray a7⟩), (.bool a0)]) (d := none) (k := 14) K rfl K K d4 rfl K ?_
    intro f7 d5
    refine ⟨_, Qa q, trivial, ?_⟩
    exact (And.intro (And.intro rfl (trivial)) (d5))
  ·exact oV (hC (hA 1 15) (h0)) (pt g1 0)
  ·exact oV (hC (hA 15 28) (h0)) (pt g1 3)
  ·refine oH 1 2 ?_
   ·rintro ρ' w' hs f ⟨⟨d6, -⟩, d7⟩
    refine kM (kc (kA f 16 29) (kc (kA f 6 20) k0)) fun q => ?_
    refine Qi.store (t := 9) (x := (.tmp 29)) (y := (.tmp 20)) (g := g1) (off := 3) (i := 2) (v := (.string ⟨List.toArray p⟩)) (cs' := #[(pt g2 0), (Xj a3 g1), (.string ⟨List.toArray m⟩), (.string ⟨List.toArray p⟩), (.string ⟨List.toArray a7⟩), (.bool a0)]) (d := none) (k := 17) K rfl K K d7 rfl K ?_
    intro f8 d8
    refine ⟨_, Qa q, trivial, ?_⟩
    exact (And.intro (And.intro d6 (And.intro rfl (trivial))) (d8))
  ·exact oV (hC (hA 2 16) (h0)) (pt g1 0)
  ·exact oV (hC (hA 18 30) (h0)) (pt g1 4)
  ·refine oH 2 3 ?_
   ·rintro ρ' w' hs f ⟨⟨d9, e0, -⟩, e1⟩
    refine kM (kc (kA f 19 31) (kc (kA f 11 25) k0)) fun q => ?_
    refine Qi.store (t := 9) (x := (.tmp 31)) (y := (.tmp 25)) (g := g1) (off := 4) (i := 2) (v := (.string ⟨List.toArray a5⟩)) (cs' := #[(pt g2 0), (Xj a3 g1), (.string ⟨List.toArray m⟩), (.string ⟨List.toArray p⟩), (.string ⟨List.toArray a5⟩), (.bool a0)]) (d := none) (k := 20) K rfl K K e1 rfl K ?_
    intro f9 e2
    refine ⟨_, Qa q, trivial, ?_⟩
    exact (And.intro (And.intro d9 (And.intro e0 (And.intro rfl (trivial)))) (e2))
  ·rintro ρ' w' hs hf ⟨⟨g0, g3, g4, -⟩, c0⟩
   refine Q3 [(0, (pt g1 0)), (8, (pt a4 0))] ⟨(hs 0 K).trans K, (hs 8 K).trans K, trivial⟩ ?_
   obtain ⟨g5, e3⟩ : ∃ x, w' = x := ⟨_, rfl⟩
   rw [e3] at c0 ⊢
   refine aQ ?_
   refine aR ?_
   refine iR 5 5 [(32, (pt g1 0)), (33, (pt g1 0)), (34, (.func (.func 75) #[(pt g1 0)] #[])), (35, (pt g1 0)), (36, (pt g1 1))] ?_
   refine iS 6 ?_
   refine Qi.store (t := 93) (x := (.tmp 36)) (y := (.tmp 34)) (g := g1) (off := 1) (i := 2) (v := (.func (.func 75) #[(pt g1 0)] #[])) (cs' := #[(pt g2 0), (.func (.func 75) #[(pt g1 0)] #[]), (.string ⟨List.toArray m⟩), (.string ⟨List.toArray p⟩), (.string ⟨List.toArray a5⟩), (.bool a0)]) (d := none) (k := 5) K rfl K K c0 rfl K ?_
   intro g6 c1
   refine iF ?_
   refine aQ ?_
   refine aR ?_
   refine iR 3 3 [(37, (pt g1 0)), (38, (pt g1 0)), (39, (pt g1 4))] ?_
   refine iS 4 ?_
   refine sL 9 39 g1 4 2 (.string ⟨List.toArray a5⟩) 40 c1 rfl ?_
   refine iR 1 5 [(41, (.agg #[(.int .i64 2), (.string ⟨List.toArray a5⟩), (.string ⟨List.toArray ([] : List UInt8)⟩), (.int .i64 0), (.int .i64 0)]))] ?_
   refine iS 6 ?_
   refine Qi.store (t := 63) (x := (.tmp 8)) (y := (.tmp 41)) (g := a4) (off := 0) (i := 4) (v := (.agg #[(.int .i64 2), (.string ⟨List.toArray a5⟩), (.string ⟨List.toArray ([] : List UInt8)⟩), (.int .i64 0), (.int .i64 0)])) (cs' := #[(.int .i64 2), (.string ⟨List.toArray a5⟩), (.string ⟨List.toArray ([] : List UInt8)⟩), (.int .i64 0), (.int .i64 0)]) (d := none) (k := 5) K rfl K K c1 rfl K ?_
   intro g7 c2
   refine iF ?_
   refine At.ret K ?_
   refine ⟨(.agg #[(.int .i64 2), (.string ⟨List.toArray a5⟩), (.string ⟨List.toArray ([] : List UInt8)⟩), (.int .i64 0), (.int .i64 0)]), Bs K (J4 (a := 8) (t := 63) (g := a4) (off := 0) K (SP.get c2 (i := 4) rfl) K), ?_⟩
   obtain rfl := Qe H
   exact ⟨rfl, SP.sel c2 [0,1,2] rfl rfl⟩
def N7 (q3 : Int) (q4 : Int) (q5 : Int) (q6 : Int) (q7 : (List Qg)) (f : Uw) (g : Int) (c : (List UInt8)) (d : (List UInt8)) (e : (List UInt8)) (h : Bool) (j : Int) (k : (List UInt8)) (m : (List UInt8)) (n : Int) (o : Int) (l : Int) (p : (List UInt8)) : Option (Int × (List UInt8) × (List UInt8) × Int × Int × Int × (List UInt8) × (List UInt8) × (List UInt8) × Bool) :=
  (cond (j != 3) ((Jb q3 q4 q5 q6 q7 f g c d e h 1).bind fun a => (some (a.1, a.2.1, a.2.2.1, a.2.2.2.1, a.2.2.2.2.1, a.2.2.2.2.2.1, a.2.2.2.2.2.2.1, a.2.2.2.2.2.2.2.1, a.2.2.2.2.2.2.2.2.1, a.2.2.2.2.2.2.2.2.2))) ((Uv q3 q4 q5 q6 q7 f c d e k l).bind fun i => (cond (i != 0) ((Jb q3 q4 q5 q6 q7 f g c d e h i).bind fun b => (some (b.1, b.2.1, b.2.2.1, b.2.2.2.1, b.2.2.2.2.1, b.2.2.2.2.2.1, b.2.2.2.2.2.2.1, b.2.2.2.2.2.2.2.1, b.2.2.2.2.2.2.2.2.1, b.2.2.2.2.2.2.2.2.2))) (some (4, ([] : List UInt8), ([] : List UInt8), 0, 0, 0, c, d, e, true)))))
theorem Cb {S : List Nat} (g1 : Nat) (g2 : Nat) (A8 : Option Addr) (c9 : Nat) (h : Nat) (q3 : Int) (q4 : Int) (q5 : Int) (q6 : Int) (m : (List Va)) (a0 : Uw) (b0 : Int) (p : (List UInt8)) (q : (List UInt8)) (s : (List UInt8)) (a6 : Bool) (a1 : Int) (a2 : (List UInt8)) (a7 : (List UInt8)) (a8 : Int) (a9 : Int) (b1 : Int) (b8 : (List UInt8)) (w0 : World) (hO : SP S w0 w0 [Qn g2 79 #[(.int .i64 q3), (.int .i64 q4), (.int .i64 q5), (.int .i64 q6), (.slice A8 (List.length (List.map stT m)) c9), (.map (some h))], V5 h a0, Qn g1 95 #[(pt g2 0), (Xj b0 g1), (.string ⟨List.toArray p⟩), (.string ⟨List.toArray q⟩), (.string ⟨List.toArray s⟩), (.bool a6)]]) (b4 : ∀ w, Mod S w0 w → (dDS Js Ce).ok w (A8, c9, m)) (r : (Int × (List UInt8) × (List UInt8) × Int × Int × Int × (List UInt8) × (List UInt8) × (List UInt8) × Bool)) (H : N7 q3 q4 q5 q6 (List.map stT m) a0 b0 p q s a6 a1 a2 a7 a8 a9 b1 b8 = some r) :
  Calls Tryz.prog 75 #[(pt g1 0), (.agg #[(.int .i64 a1), (.string ⟨List.toArray a2⟩), (.string ⟨List.toArray a7⟩), (.int .i64 a8), (.int .i64 a9)]), (.int .i64 b1), (.string ⟨List.toArray b8⟩)] w0 (fun e w' => e = .returned (.agg #[(.int .i64 r.1), (.string ⟨List.toArray r.2.1⟩), (.string ⟨List.toArray r.2.2.1⟩), (.int .i64 r.2.2.2.1), (.int .i64 r.2.2.2.2.1)]) ∧ SP S w0 w' [Qn g2 79 #[(.int .i64 q3), (.int .i64 q4), (.int .i64 q5), (.int .i64 q6), (.slice A8 (List.length (List.map stT m)) c9), (.map (some h))], V5 h a0, Qn g1 95 #[(pt g2 0), (Xj r.2.2.2.2.2.1 g1), (.string ⟨List.toArray r.2.2.2.2.2.2.1⟩), (.string ⟨List.toArray r.2.2.2.2.2.2.2.1⟩), (.string ⟨List.toArray r.2.2.2.2.2.2.2.2.1⟩), (.bool r.2.2.2.2.2.2.2.2.2)]]) := by
 unfold N7 at H
 refine Qs (n := 47) Tryz.func75 K K K ?_
 have c5 := hO
 refine aQ ?_
 refine aR ?_
 refine iS 1 ?_
 refine Vn (t := 63) (x := (.tmp 1)) (v := (.agg #[(.int .i64 a1), (.string ⟨List.toArray a2⟩), (.string ⟨List.toArray a7⟩), (.int .i64 a8), (.int .i64 a9)])) (d := (some 5)) (k := 0) K rfl K c5 ?_
 intro a3 e7 c6
 refine iS 2 ?_
 refine Qi.alloc (t := 63) (z := (.agg #[(.int .i64 0), (.string ⟨List.toArray ([] : List UInt8)⟩), (.string ⟨List.toArray ([] : List UInt8)⟩), (.int .i64 0), (.int .i64 0)])) (d := (some 8)) (k := 1) K rfl K c6 ?_
 intro u c7 b2
 refine iF ?_
 refine aQ ?_
 refine aQ ?_
 refine aR ?_
 refine iR 1 1 [(10, (pt a3 0))] ?_
 refine iS 2 ?_
 refine sL 3 10 a3 0 3 (.int .i64 a1) 11 b2 rfl ?_
 refine iR 1 3 [(12, (.bool (a1 != 3)))] ?_
 refine iF ?_
 refine V1 K (o := (.tmp 12)) K (b := (a1 != 3)) K (fun b5 => ?_) (fun b5 => ?_)
 ·have H := ct H b5
  refine aQ ?_
  refine aR ?_
  refine iR 1 1 [(13, (pt g1 0))] ?_
  obtain ⟨c, c8, H⟩ := Qb H
  refine iS 2 ?_
  refine cF 74 #[(.tmp 13), (.const (.int .i64 (1)))] #[60, 38] 14 Tryz.call74 (Ng g1 g2 A8 c9 h q3 q4 q5 q6 m a0 b0 p q s a6 1 c7 (Yd b2 [0, 1, 2] rfl rfl) (fun w hm => b4 w (SP.through b2 (l := [0, 1, 2]) rfl hm)) c c8) ?_
  rintro e d0 ⟨rfl, b9⟩
  refine ⟨_, rfl, ?_⟩
  have d1 : SP S w0 d0 [Qn a3 63 #[(.int .i64 a1), (.string ⟨List.toArray a2⟩), (.string ⟨List.toArray a7⟩), (.int .i64 a8), (.int .i64 a9)], Qn u 63 #[(.int .i64 0), (.string ⟨List.toArray ([] : List UInt8)⟩), (.string ⟨List.toArray ([] : List UInt8)⟩), (.int .i64 0), (.int .i64 0)], Qn g2 79 #[(.int .i64 q3), (.int .i64 q4), (.int .i64 q5), (.int .i64 q6), (.slice A8 (List.length (List.map stT m)) c9), (.map (some h))], V5 h a0, Qn g1 95 #[(pt g2 0), (Xj c.2.2.2.2.2.1 g1), (.string ⟨List.toArray c.2.2.2.2.2.2.1⟩), (.string ⟨List.toArray c.2.2.2.2.2.2.2.1⟩), (.string ⟨List.toArray c.2.2.2.2.2.2.2.2.1⟩), (.bool c.2.2.2.2.2.2.2.2.2)]] := Vv b2 [0, 1, 2] [3, 4] rfl rfl b9 rfl
  clear b9
  refine iS 3 ?_
  refine Qi.store (t := 63) (x := (.tmp 8)) (y := (.tmp 14)) (g := u) (off := 0) (i := 1) (v := (.agg #[(.int .i64 c.1), (.string ⟨List.toArray c.2.1⟩), (.string ⟨List.toArray c.2.2.1⟩), (.int .i64 c.2.2.2.1), (.int .i64 c.2.2.2.2.1)])) (cs' := #[(.int .i64 c.1), (.string ⟨List.toArray c.2.1⟩), (.string ⟨List.toArray c.2.2.1⟩), (.int .i64 c.2.2.2.1), (.int .i64 c.2.2.2.2.1)]) (d := none) (k := 2) K rfl K K d1 rfl K ?_
  intro e8 c0
  refine iF ?_
  refine At.ret K ?_
  refine ⟨(.agg #[(.int .i64 c.1), (.string ⟨List.toArray c.2.1⟩), (.string ⟨List.toArray c.2.2.1⟩), (.int .i64 c.2.2.2.1), (.int .i64 c.2.2.2.2.1)]), Bs K (J4 (a := 8) (t := 63) (g := u) (off := 0) K (SP.get c0 (i := 1) rfl) K), ?_⟩
  obtain rfl := Qe H
  exact ⟨rfl, SP.sel c0 [2,3,4] rfl rfl⟩
 ·have H := cf H b5
  refine At.skip K ?_
  refine aQ ?_
  refine aQ ?_
  obtain ⟨a4, d2, H⟩ := Qb H
  refine aG [GEq (pt g1 0), GEq (pt g1 0), GEq (pt g1 0), GEq (pt g2 0), GEq (pt g1 0), GEq (pt g1 0), GEq (pt g1 2), GEq (.string ⟨List.toArray p⟩), GEq (pt g1 0), GEq (pt g1 0), GEq (pt g1 3), GEq (.string ⟨List.toArray q⟩), GEq (pt g1 0), GEq (pt g1 0), GEq (pt g1 4), GEq (.string ⟨List.toArray s⟩), GEq (pt a3 1), GEq (.string ⟨List.toArray a2⟩), GEq (.int .i64 b1), GEq (.int .i64 a4), GEq (.int .i64 a4)] [19] [sG [] [] S w0 [Qn g2 79 #[(.int .i64 q3), (.int .i64 q4), (.int .i64 q5), (.int .i64 q6), (.slice A8 (List.length (List.map stT m)) c9), (.map (some h))], V5 h a0, Qn g1 95 #[(pt g2 0), (Xj b0 g1), (.string ⟨List.toArray p⟩), (.string ⟨List.toArray q⟩), (.string ⟨List.toArray s⟩), (.bool a6)], Qn a3 63 #[(.int .i64 a1), (.string ⟨List.toArray a2⟩), (.string ⟨List.toArray a7⟩), (.int .i64 a8), (.int .i64 a9)], Qn u 63 #[(.int .i64 0), (.string ⟨List.toArray ([] : List UInt8)⟩), (.string ⟨List.toArray ([] : List UInt8)⟩), (.int .i64 0), (.int .i64 0)]], sG [19] [(.int .i64 a4)] S w0 [Qn g1 95 #[(pt g2 0), (Xj b0 g1), (.string ⟨List.toArray p⟩), (.string ⟨List.toArray q⟩), (.string ⟨List.toArray s⟩), (.bool a6)], Qn a3 63 #[(.int .i64 a1), (.string ⟨List.toArray a2⟩), (.string ⟨List.toArray a7⟩), (.int .i64 a8), (.int .i64 a9)], Qn u 63 #[(.int .i64 0), (.string ⟨List.toArray ([] : List UInt8)⟩), (.string ⟨List.toArray ([] : List UInt8)⟩), (.int .i64 0), (.int .i64 0)], Qn g2 79 #[(.int .i64 q3), (.int .i64 q4), (.int .i64 q5), (.int .i64 q6), (.slice A8 (List.length (List.map stT m)) c9), (.map (some h))], V5 h a0]] 21 1 ⟨trivial, SP.drew b2⟩ ?_ ?_
  iterate 21 refine And.intro ?_ ?_
  exact trivial
  ·exact oV (hC (hS 0 (pt g1 0)) (h0)) (pt g1 0)
  ·exact oV (hC (hA 0 15) (h0)) (pt g1 0)
  ·exact oV (hC (hA 1 16) (h0)) (pt g1 0)
  ·refine oL 0 ?_
   ·rintro ρ' w' hs j ⟨e9, d3⟩
    refine kM (kc (kA j 2 17) k0) fun a5 => ?_
    refine sL 29 17 g1 0 2 (pt g2 0) 18 d3 rfl ?_
    exact eK a5
  ·exact oV (hC (hS 0 (pt g1 0)) (h0)) (pt g1 0)
  ·exact oV (hC (hA 4 19) (h0)) (pt g1 0)
  ·exact oV (hC (hA 5 20) (h0)) (pt g1 2)
  ·refine oL 0 ?_
   ·rintro ρ' w' hs j ⟨f0, d4⟩
    refine kM (kc (kA j 6 21) k0) fun a5 => ?_
    refine sL 9 21 g1 2 2 (.string ⟨List.toArray p⟩) 22 d4 rfl ?_
    exact eK a5
  ·exact oV (hC (hS 0 (pt g1 0)) (h0)) (pt g1 0)
  ·exact oV (hC (hA 8 23) (h0)) (pt g1 0)
  ·exact oV (hC (hA 9 24) (h0)) (pt g1 3)
  ·refine oL 0 ?_
   ·rintro ρ' w' hs j ⟨f1, d5⟩
    refine kM (kc (kA j 10 25) k0) fun a5 => ?_
    refine sL 9 25 g1 3 2 (.string ⟨List.toArray q⟩) 26 d5 rfl ?_
    exact eK a5
  ·exact oV (hC (hS 0 (pt g1 0)) (h0)) (pt g1 0)
  ·exact oV (hC (hA 12 27) (h0)) (pt g1 0)
  ·exact oV (hC (hA 13 28) (h0)) (pt g1 4)
  ·refine oL 0 ?_
   ·rintro ρ' w' hs j ⟨f2, d6⟩
    refine kM (kc (kA j 14 29) k0) fun a5 => ?_
    refine sL 9 29 g1 4 2 (.string ⟨List.toArray s⟩) 30 d6 rfl ?_
    exact eK a5
  ·exact oV (hC (hS 5 (pt a3 0)) (h0)) (pt a3 1)
  ·refine oL 0 ?_
   ·rintro ρ' w' hs j ⟨f3, d7⟩
    refine kM (kc (kA j 16 31) k0) fun a5 => ?_
    refine sL 9 31 a3 1 3 (.string ⟨List.toArray a2⟩) 32 d7 rfl ?_
    exact eK a5
  ·exact oV (hC (hS 2 (.int .i64 b1)) (h0)) (.int .i64 b1)
  ·refine oH 0 1 ?_
   ·rintro ρ' w' hs j ⟨f4, b6⟩
    refine kM (kc (kA j 3 18) (kc (kA j 7 22) (kc (kA j 11 26) (kc (kA j 15 30) (kc (kA j 17 32) (kc (kA j 18 33) k0)))))) fun a5 => ?_
    refine cF 26 #[(.tmp 18), (.tmp 22), (.tmp 26), (.tmp 30), (.tmp 32), (.tmp 33)] #[29, 9, 9, 9, 9, 2] 34 Tryz.call26 (B8 g2 A8 c9 h q3 q4 q5 q6 m a0 p q s a2 b1 w' (Yd b6 [0, 1] rfl rfl) (fun w hm => b4 w (SP.through b6 (l := [0, 1]) rfl hm)) a4 d2) ?_
    rintro e d8 ⟨rfl, c1⟩
    refine ⟨_, rfl, ?_⟩
    have d9 : SP S w0 d8 [Qn g1 95 #[(pt g2 0), (Xj b0 g1), (.string ⟨List.toArray p⟩), (.string ⟨List.toArray q⟩), (.string ⟨List.toArray s⟩), (.bool a6)], Qn a3 63 #[(.int .i64 a1), (.string ⟨List.toArray a2⟩), (.string ⟨List.toArray a7⟩), (.int .i64 a8), (.int .i64 a9)], Qn u 63 #[(.int .i64 0), (.string ⟨List.toArray ([] : List UInt8)⟩), (.string ⟨List.toArray ([] : List UInt8)⟩), (.int .i64 0), (.int .i64 0)], Qn g2 79 #[(.int .i64 q3), (.int .i64 q4), (.int .i64 q5), (.int .i64 q6), (.slice A8 (List.length (List.map stT m)) c9), (.map (some h))], V5 h a0] := Vv b6 [0, 1] [2, 3, 4] rfl rfl c1 rfl
    clear c1
    refine ⟨_, Qa a5, rfl, ?_⟩
    exact (And.intro (And.intro rfl (trivial)) (d9))
  ·exact oV (hC (hA 19 34) (h0)) (.int .i64 a4)
  ·rintro ρ' w' hs hf ⟨⟨f5, -⟩, b3⟩
   refine Q3 [(0, (pt g1 0)), (8, (pt u 0)), (9, (.int .i64 a4))] ⟨(hs 0 K).trans K, (hs 8 K).trans K, hf 20 9 K, trivial⟩ ?_
   obtain ⟨e0, e1⟩ : ∃ x, w' = x := ⟨_, rfl⟩
   rw [e1] at b3 ⊢
   refine aQ ?_
   refine aR ?_
   refine iR 2 2 [(35, (.int .i64 a4)), (36, (.bool (a4 != 0)))] ?_
   refine iF ?_
   refine V1 K (o := (.tmp 36)) K (b := (a4 != 0)) K (fun b7 => ?_) (fun b7 => ?_)
   ·have H := ct H b7
    refine aQ ?_
    refine aR ?_
    refine iR 2 2 [(37, (pt g1 0)), (38, (.int .i64 a4))] ?_
    obtain ⟨f, e2, H⟩ := Qb H
    refine iS 3 ?_
    refine cF 74 #[(.tmp 37), (.tmp 38)] #[60, 38] 39 Tryz.call74 (Ng g1 g2 A8 c9 h q3 q4 q5 q6 m a0 b0 p q s a6 a4 e0 (Yd b3 [3, 4, 0] rfl rfl) (fun w hm => b4 w (SP.through b3 (l := [3, 4, 0]) rfl hm)) f e2) ?_
    rintro e e3 ⟨rfl, c2⟩
    refine ⟨_, rfl, ?_⟩
    have e4 : SP S w0 e3 [Qn a3 63 #[(.int .i64 a1), (.string ⟨List.toArray a2⟩), (.string ⟨List.toArray a7⟩), (.int .i64 a8), (.int .i64 a9)], Qn u 63 #[(.int .i64 0), (.string ⟨List.toArray ([] : List UInt8)⟩), (.string ⟨List.toArray ([] : List UInt8)⟩), (.int .i64 0), (.int .i64 0)], Qn g2 79 #[(.int .i64 q3), (.int .i64 q4), (.int .i64 q5), (.int .i64 q6), (.slice A8 (List.length (List.map stT m)) c9), (.map (some h))], V5 h a0, Qn g1 95 #[(pt g2 0), (Xj f.2.2.2.2.2.1 g1), (.string ⟨List.toArray f.2.2.2.2.2.2.1⟩), (.string ⟨List.toArray f.2.2.2.2.2.2.2.1⟩), (.string ⟨List.toArray f.2.2.2.2.2.2.2.2.1⟩), (.bool f.2.2.2.2.2.2.2.2.2)]] := Vv b3 [3, 4, 0] [1, 2] rfl rfl c2 rfl
    clear c2
    refine iS 4 ?_
    refine Qi.store (t := 63) (x := (.tmp 8)) (y := (.tmp 39)) (g := u) (off := 0) (i := 1) (v := (.agg #[(.int .i64 f.1), (.string ⟨List.toArray f.2.1⟩), (.string ⟨List.toArray f.2.2.1⟩), (.int .i64 f.2.2.2.1), (.int .i64 f.2.2.2.2.1)])) (cs' := #[(.int .i64 f.1), (.string ⟨List.toArray f.2.1⟩), (.string ⟨List.toArray f.2.2.1⟩), (.int .i64 f.2.2.2.1), (.int .i64 f.2.2.2.2.1)]) (d := none) (k := 3) K rfl K K e4 rfl K ?_
    intro f6 c3
    refine iF ?_
    refine At.ret K ?_
    refine ⟨(.agg #[(.int .i64 f.1), (.string ⟨List.toArray f.2.1⟩), (.string ⟨List.toArray f.2.2.1⟩), (.int .i64 f.2.2.2.1), (.int .i64 f.2.2.2.2.1)]), Bs K (J4 (a := 8) (t := 63) (g := u) (off := 0) K (SP.get c3 (i := 1) rfl) K), ?_⟩
    obtain rfl := Qe H
    exact ⟨rfl, SP.sel c3 [2,3,4] rfl rfl⟩
   ·have H := cf H b7
    refine At.skip K ?_
    refine aQ ?_
    refine aR ?_
    refine iR 4 4 [(40, (pt g1 0)), (41, (pt g1 0)), (42, (pt g1 0)), (43, (pt g1 1))] ?_
    refine iS 5 ?_
    refine Qi.store (t := 93) (x := (.tmp 43)) (y := (.const .nilFunc)) (g := g1) (off := 1) (i := 0) (v := .nilFunc) (cs' := #[(pt g2 0), .nilFunc, (.string ⟨List.toArray p⟩), (.string ⟨List.toArray q⟩), (.string ⟨List.toArray s⟩), (.bool a6)]) (d := none) (k := 4) K rfl K K b3 rfl K ?_
    intro f7 e5
    refine iR 2 7 [(44, (pt g1 0)), (45, (pt g1 5))] ?_
    refine iS 8 ?_
    refine Qi.store (t := 4) (x := (.tmp 45)) (y := (.const (.bool true))) (g := g1) (off := 5) (i := 0) (v := (.bool true)) (cs' := #[(pt g2 0), .nilFunc, (.string ⟨List.toArray p⟩), (.string ⟨List.toArray q⟩), (.string ⟨List.toArray s⟩), (.bool true)]) (d := none) (k := 7) K rfl K K e5 rfl K ?_
    intro f8 e6
    refine iF ?_
    refine aQ ?_
    refine aR ?_
    refine iR 1 1 [(46, (.agg #[(.int .i64 4), (.string ⟨List.toArray ([] : List UInt8)⟩), (.string ⟨List.toArray ([] : List UInt8)⟩), (.int .i64 0), (.int .i64 0)]))] ?_
    refine iS 2 ?_
    refine Qi.store (t := 63) (x := (.tmp 8)) (y := (.tmp 46)) (g := u) (off := 0) (i := 2) (v := (.agg #[(.int .i64 4), (.string ⟨List.toArray ([] : List UInt8)⟩), (.string ⟨List.toArray ([] : List UInt8)⟩), (.int .i64 0), (.int .i64 0)])) (cs' := #[(.int .i64 4), (.string ⟨List.toArray ([] : List UInt8)⟩), (.string ⟨List.toArray ([] : List UInt8)⟩), (.int .i64 0), (.int .i64 0)]) (d := none) (k := 1) K rfl K K e6 rfl K ?_
    intro f9 c4
    refine iF ?_
    refine At.ret K ?_
    refine ⟨(.agg #[(.int .i64 4), (.string ⟨List.toArray ([] : List UInt8)⟩), (.string ⟨List.toArray ([] : List UInt8)⟩), (.int .i64 0), (.int .i64 0)]), Bs K (J4 (a := 8) (t := 63) (g := u) (off := 0) K (SP.get c4 (i := 2) rfl) K), ?_⟩
    obtain rfl := Qe H
    exact ⟨rfl, SP.sel c4 [3,4,0] rfl rfl⟩
def Bb (q2 : Int) (q3 : Int) (q4 : Int) (q5 : Int) (q6 : (List Qg)) (a : Uw) : Option (Int × (List UInt8) × (List UInt8) × (List UInt8) × Bool) :=
  (some (1, ([] : List UInt8), ([] : List UInt8), ([] : List UInt8), false))
theorem Dr {S : List Nat} (g1 : Nat) (A7 : Option Addr) (c8 : Nat) (b : Nat) (q2 : Int) (q3 : Int) (q4 : Int) (q5 : Int) (c : (List Va)) (f : Uw) (w0 : World) (hO : SP S w0 w0 [Qn g1 79 #[(.int .i64 q2), (.int .i64 q3), (.int .i64 q4), (.int .i64 q5), (.slice A7 (List.length (List.map stT c)) c8), (.map (some b))], V5 b f]) (o : ∀ w, Mod S w0 w → (dDS Js Ce).ok w (A7, c8, c)) (r : (Int × (List UInt8) × (List UInt8) × (List UInt8) × Bool)) (H : Bb q2 q3 q4 q5 (List.map stT c) f = some r) :
  Calls Tryz.prog 33 #[(pt g1 0)] w0 (fun e w' => ∃ (h : Nat), e = .returned (pt h 0) ∧ SP S w0 w' [Qn h 95 #[(pt g1 0), (Xj r.1 h), (.string ⟨List.toArray r.2.1⟩), (.string ⟨List.toArray r.2.2.1⟩), (.string ⟨List.toArray r.2.2.2.1⟩), (.bool r.2.2.2.2)], Qn g1 79 #[(.int .i64 q2), (.int .i64 q3), (.int .i64 q4), (.int .i64 q5), (.slice A7 (List.length (List.map stT c)) c8), (.map (some b))], V5 b f]) := by
 unfold Bb at H
 refine Qs (n := 13) Tryz.func33 K K K ?_
 have j := hO
 refine aQ ?_
 refine aR ?_
 refine iR 1 1 [(2, (.pointer none))] ?_
 refine iF ?_
 refine aQ ?_
 refine aR ?_
 refine iR 2 2 [(4, (pt g1 0)), (5, (.agg #[(pt g1 0), .nilFunc, (.string ⟨List.toArray ([] : List UInt8)⟩), (.string ⟨List.toArray ([] : List UInt8)⟩), (.string ⟨List.toArray ([] : List UInt8)⟩), (.bool false)]))] ?_
 refine iS 3 ?_
 refine Vn (t := 95) (x := (.tmp 5)) (v := (.agg #[(pt g1 0), .nilFunc, (.string ⟨List.toArray ([] : List UInt8)⟩), (.string ⟨List.toArray ([] : List UInt8)⟩), (.string ⟨List.toArray ([] : List UInt8)⟩), (.bool false)])) (d := (some 6)) (k := 2) K rfl K j ?_
 intro a p l
 refine iR 1 4 [(3, (pt a 0))] ?_
 refine iF ?_
 refine aQ ?_
 refine aR ?_
 refine iR 5 5 [(7, (pt a 0)), (8, (pt a 0)), (9, (.func (.func 57) #[(pt a 0)] #[])), (10, (pt a 0)), (11, (pt a 1))] ?_
 refine iS 6 ?_
 refine Qi.store (t := 93) (x := (.tmp 11)) (y := (.tmp 9)) (g := a) (off := 1) (i := 2) (v := (.func (.func 57) #[(pt a 0)] #[])) (cs' := #[(pt g1 0), (.func (.func 57) #[(pt a 0)] #[]), (.string ⟨List.toArray ([] : List UInt8)⟩), (.string ⟨List.toArray ([] : List UInt8)⟩), (.string ⟨List.toArray ([] : List UInt8)⟩), (.bool false)]) (d := none) (k := 5) K rfl K K l rfl K ?_
 intro q m
 refine iF ?_
 refine aQ ?_
 refine aR ?_
 refine iR 2 2 [(12, (pt a 0)), (2, (pt a 0))] ?_
 refine iF ?_
 refine At.ret K ?_
 refine ⟨(pt a 0), K, ?_⟩
 obtain rfl := Qe H
 exact ⟨a, rfl, SP.sel m [2,0,1] rfl rfl⟩
def Xt (q3 : Int) (q4 : Int) (q5 : Int) (q6 : Int) (q7 : (List Qg)) (h : Uw) (c : Int) (d : (List UInt8)) (e : (List UInt8)) (f : (List UInt8)) (g : Bool) (i : Int) (j : (List UInt8)) (k : (List UInt8)) (l : Int) (m : Int) (n : Int) (o : (List UInt8)) : Option (Int × (List UInt8) × (List UInt8) × Int × Int × Bool × Int × (List UInt8) × (List UInt8) × (List UInt8) × Bool) :=
  (cond (Hv c) (some (0, ([] : List UInt8), ([] : List UInt8), 0, 0, false, c, d, e, f, g)) (cond (c == 1) ((N6 q3 q4 q5 q6 q7 h 1 d e f g i j k l m n o).bind fun a => (some (a.1, a.2.1, a.2.2.1, a.2.2.2.1, a.2.2.2.2.1, true, a.2.2.2.2.2.1, a.2.2.2.2.2.2.1, a.2.2.2.2.2.2.2.1, a.2.2.2.2.2.2.2.2.1, a.2.2.2.2.2.2.2.2.2))) (cond (c == 2) ((N7 q3 q4 q5 q6 q7 h 2 d e f g i j k l m n o).bind fun b => (some (b.1, b.2.1, b.2.2.1, b.2.2.2.1, b.2.2.2.2.1, true, b.2.2.2.2.2.1, b.2.2.2.2.2.2.1, b.2.2.2.2.2.2.2.1, b.2.2.2.2.2.2.2.2.1, b.2.2.2.2.2.2.2.2.2))) none)))
theorem Y7 {S : List Nat} (g1 : Nat) (g2 : Nat) (A8 : Option Addr) (c9 : Nat) (m : Nat) (q3 : Int) (q4 : Int) (q5 : Int) (q6 : Int) (a3 : (List Va)) (a4 : Uw) (a7 : Int) (b0 : (List UInt8)) (b1 : (List UInt8)) (b2 : (List UInt8)) (b3 : Bool) (q : Int) (s : (List UInt8)) (u : (List UInt8)) (a0 : Int) (a1 : Int) (a8 : Int) (a9 : (List UInt8)) (w0 : World) (hO : SP S w0 w0 [Qn g2 79 #[(.int .i64 q3), (.int .i64 q4), (.int .i64 q5), (.int .i64 q6), (.slice A8 (List.length (List.map stT a3)) c9), (.map (some m))], V5 m a4, Qn g1 95 #[(pt g2 0), (Xj a7 g1), (.string ⟨List.toArray b0⟩), (.string ⟨List.toArray b1⟩), (.string ⟨List.toArray b2⟩), (.bool b3)]]) (c2 : ∀ w, Mod S w0 w → (dDS Js Ce).ok w (A8, c9, a3)) (r : (Int × (List UInt8) × (List UInt8) × Int × Int × Bool × Int × (List UInt8) × (List UInt8) × (List UInt8) × Bool)) (H : Xt q3 q4 q5 q6 (List.map stT a3) a4 a7 b0 b1 b2 b3 q s u a0 a1 a8 a9 = some r) :
  Calls Tryz.prog 34 #[(pt g1 0), (.agg #[(.int .i64 q), (.string ⟨List.toArray s⟩), (.string ⟨List.toArray u⟩), (.int .i64 a0), (.int .i64 a1)]), (.int .i64 a8), (.string ⟨List.toArray a9⟩)] w0 (fun e w' => e = .returned (.tuple #[(.agg #[(.int .i64 r.1), (.string ⟨List.toArray r.2.1⟩), (.string ⟨List.toArray r.2.2.1⟩), (.int .i64 r.2.2.2.1), (.int .i64 r.2.2.2.2.1)]), (.bool r.2.2.2.2.2.1)]) ∧ SP S w0 w' [Qn g2 79 #[(.int .i64 q3), (.int .i64 q4), (.int .i64 q5), (.int .i64 q6), (.slice A8 (List.length (List.map stT a3)) c9), (.map (some m))], V5 m a4, Qn g1 95 #[(pt g2 0), (Xj r.2.2.2.2.2.2.1 g1), (.string ⟨List.toArray r.2.2.2.2.2.2.2.1⟩), (.string ⟨List.toArray r.2.2.2.2.2.2.2.2.1⟩), (.string ⟨List.toArray r.2.2.2.2.2.2.2.2.2.1⟩), (.bool r.2.2.2.2.2.2.2.2.2.2)]]) := by
 unfold Xt at H
 refine Qs (n := 24) Tryz.func34 K K K ?_
 have d0 := hO
 refine aQ ?_
 refine aR ?_
 refine iS 1 ?_
 refine Vn (t := 63) (x := (.tmp 1)) (v := (.agg #[(.int .i64 q), (.string ⟨List.toArray s⟩), (.string ⟨List.toArray u⟩), (.int .i64 a0), (.int .i64 a1)])) (d := (some 5)) (k := 0) K rfl K d0 ?_
 intro a6 f0 d1
 refine iS 2 ?_
 refine Qi.alloc (t := 63) (z := (.agg #[(.int .i64 0), (.string ⟨List.toArray ([] : List UInt8)⟩), (.string ⟨List.toArray ([] : List UInt8)⟩), (.int .i64 0), (.int .i64 0)])) (d := (some 8)) (k := 1) K rfl K d1 ?_
 intro p c3 b5
 refine iR 1 3 [(9, (.bool false))] ?_
 refine iF ?_
 refine aQ ?_
 refine aQ ?_
 refine aR ?_
 refine iR 3 3 [(10, (pt g1 0)), (11, (pt g1 0)), (12, (pt g1 1))] ?_
 refine iS 4 ?_
 refine sL 93 12 g1 1 2 (Xj a7 g1) 13 b5 rfl ?_
 refine iS 5 ?_
 refine Fm (op := .eql) (T := 93) (T' := 93) (x := (.tmp 13)) (y := (.const .nilFunc)) (vx := (Xj a7 g1)) (vy := .nilFunc) (v := (.bool (Hv a7))) (d := (some 14)) (k := 4) K rfl K K (by clear H; intro w; unfold Xj Hv; cases (a7 == 1) <;> cases (a7 == 2) <;> kernel_rfl) ?_
 refine iF ?_
 refine V1 K (o := (.tmp 14)) K (b := (Hv a7)) K (fun b7 => ?_) (fun b7 => ?_)
 ·have H := ct H b7
  refine aQ ?_
  refine aR ?_
  refine iR 1 1 [(15, (.agg #[(.int .i64 0), (.string ⟨List.toArray ([] : List UInt8)⟩), (.string ⟨List.toArray ([] : List UInt8)⟩), (.int .i64 0), (.int .i64 0)]))] ?_
  refine iS 2 ?_
  refine Qi.store (t := 63) (x := (.tmp 8)) (y := (.tmp 15)) (g := p) (off := 0) (i := 4) (v := (.agg #[(.int .i64 0), (.string ⟨List.toArray ([] : List UInt8)⟩), (.string ⟨List.toArray ([] : List UInt8)⟩), (.int .i64 0), (.int .i64 0)])) (cs' := #[(.int .i64 0), (.string ⟨List.toArray ([] : List UInt8)⟩), (.string ⟨List.toArray ([] : List UInt8)⟩), (.int .i64 0), (.int .i64 0)]) (d := none) (k := 1) K rfl K K b5 rfl K ?_
  intro f1 c4
  refine iR 1 3 [(9, (.bool false))] ?_
  refine iF ?_
  refine At.ret K ?_
  refine ⟨(.tuple #[(.agg #[(.int .i64 0), (.string ⟨List.toArray ([] : List UInt8)⟩), (.string ⟨List.toArray ([] : List UInt8)⟩), (.int .i64 0), (.int .i64 0)]), (.bool false)]), C2 K (J4 (a := 8) (t := 63) (g := p) (off := 0) K (SP.get c4 (i := 4) rfl) K) (R4 (t := 9) K), ?_⟩
  obtain rfl := Qe H
  exact ⟨rfl, SP.sel c4 [0,1,2] rfl rfl⟩
 ·have H := cf H b7
  refine At.skip K ?_
  refine aQ ?_
  rcases Bool.eq_false_or_eq_true (a7 == 1) with b4 | b4
  ·have H := ct H b4
   have d2 : SP S w0 c3 [Qn g2 79 #[(.int .i64 q3), (.int .i64 q4), (.int .i64 q5), (.int .i64 q6), (.slice A8 (List.length (List.map stT a3)) c9), (.map (some m))], V5 m a4, Qn g1 95 #[(pt g2 0), (.func (.func 57) #[(pt g1 0)] #[]), (.string ⟨List.toArray b0⟩), (.string ⟨List.toArray b1⟩), (.string ⟨List.toArray b2⟩), (.bool b3)], Qn a6 63 #[(.int .i64 q), (.string ⟨List.toArray s⟩), (.string ⟨List.toArray u⟩), (.int .i64 a0), (.int .i64 a1)], Qn p 63 #[(.int .i64 0), (.string ⟨List.toArray ([] : List UInt8)⟩), (.string ⟨List.toArray ([] : List UInt8)⟩), (.int .i64 0), (.int .i64 0)]] := by have h := b5; rw [stepV_1 b4] at h; exact h
   obtain ⟨c, d3, H⟩ := Qb H
   refine aG [GEq (pt g1 0), GEq (pt g1 0), GEq (pt g1 1), GEq (.func (.func 57) #[(pt g1 0)] #[]), GEq (.agg #[(.int .i64 q), (.string ⟨List.toArray s⟩), (.string ⟨List.toArray u⟩), (.int .i64 a0), (.int .i64 a1)]), GEq (.int .i64 a8), GEq (.string ⟨List.toArray a9⟩), GEq (.agg #[(.int .i64 c.1), (.string ⟨List.toArray c.2.1⟩), (.string ⟨List.toArray c.2.2.1⟩), (.int .i64 c.2.2.2.1), (.int .i64 c.2.2.2.2.1)]), Ey, GEq (.bool true)] [7, 8] [sG [] [] S w0 [Qn g2 79 #[(.int .i64 q3), (.int .i64 q4), (.int .i64 q5), (.int .i64 q6), (.slice A8 (List.length (List.map stT a3)) c9), (.map (some m))], V5 m a4, Qn g1 95 #[(pt g2 0), (.func (.func 57) #[(pt g1 0)] #[]), (.string ⟨List.toArray b0⟩), (.string ⟨List.toArray b1⟩), (.string ⟨List.toArray b2⟩), (.bool b3)], Qn a6 63 #[(.int .i64 q), (.string ⟨List.toArray s⟩), (.string ⟨List.toArray u⟩), (.int .i64 a0), (.int .i64 a1)], Qn p 63 #[(.int .i64 0), (.string ⟨List.toArray ([] : List UInt8)⟩), (.string ⟨List.toArray ([] : List UInt8)⟩), (.int .i64 0), (.int .i64 0)]], sG [7] [(.agg #[(.int .i64 c.1), (.string ⟨List.toArray c.2.1⟩), (.string ⟨List.toArray c.2.2.1⟩), (.int .i64 c.2.2.2.1), (.int .i64 c.2.2.2.2.1)])] S w0 [Qn a6 63 #[(.int .i64 q), (.string ⟨List.toArray s⟩), (.string ⟨List.toArray u⟩), (.int .i64 a0), (.int .i64 a1)], Qn p 63 #[(.int .i64 0), (.string ⟨List.toArray ([] : List UInt8)⟩), (.string ⟨List.toArray ([] : List UInt8)⟩), (.int .i64 0), (.int .i64 0)], Qn g2 79 #[(.int .i64 q3), (.int .i64 q4), (.int .i64 q5), (.int .i64 q6), (.slice A8 (List.length (List.map stT a3)) c9), (.map (some m))], V5 m a4, Qn g1 95 #[(pt g2 0), (Xj c.2.2.2.2.2.1 g1), (.string ⟨List.toArray c.2.2.2.2.2.2.1⟩), (.string ⟨List.toArray c.2.2.2.2.2.2.2.1⟩), (.string ⟨List.toArray c.2.2.2.2.2.2.2.2.1⟩), (.bool c.2.2.2.2.2.2.2.2.2)]], sG [7, 8] [(.agg #[(.int .i64 c.1), (.string ⟨List.toArray c.2.1⟩), (.string ⟨List.toArray c.2.2.1⟩), (.int .i64 c.2.2.2.1), (.int .i64 c.2.2.2.2.1)]), undef] S w0 [Qn a6 63 #[(.int .i64 q), (.string ⟨List.toArray s⟩), (.string ⟨List.toArray u⟩), (.int .i64 a0), (.int .i64 a1)], Qn p 63 #[(.int .i64 c.1), (.string ⟨List.toArray c.2.1⟩), (.string ⟨List.toArray c.2.2.1⟩), (.int .i64 c.2.2.2.1), (.int .i64 c.2.2.2.2.1)], Qn g2 79 #[(.int .i64 q3), (.int .i64 q4), (.int .i64 q5), (.int .i64 q6), (.slice A8 (List.length (List.map stT a3)) c9), (.map (some m))], V5 m a4, Qn g1 95 #[(pt g2 0), (Xj c.2.2.2.2.2.1 g1), (.string ⟨List.toArray c.2.2.2.2.2.2.1⟩), (.string ⟨List.toArray c.2.2.2.2.2.2.2.1⟩), (.string ⟨List.toArray c.2.2.2.2.2.2.2.2.1⟩), (.bool c.2.2.2.2.2.2.2.2.2)]]] 10 2 ⟨trivial, SP.drew d2⟩ ?_ ?_
   iterate 10 refine And.intro ?_ ?_
   exact trivial
   ·exact oV (hC (hS 0 (pt g1 0)) (h0)) (pt g1 0)
   ·exact oV (hC (hA 0 16) (h0)) (pt g1 0)
   ·exact oV (hC (hA 1 17) (h0)) (pt g1 1)
   ·refine oL 0 ?_
    ·rintro ρ' w' hs a2 ⟨f2, d4⟩
     refine kM (kc (kA a2 2 18) k0) fun a5 => ?_
     refine sL 93 18 g1 1 2 (.func (.func 57) #[(pt g1 0)] #[]) 19 d4 rfl ?_
     exact eK a5
   ·refine oL 0 ?_
    ·rintro ρ' w' hs a2 ⟨f3, d5⟩
     refine kM (kc (kS hs 5 (pt a6 0)) k0) fun a5 => ?_
     refine sL 63 5 a6 0 3 (.agg #[(.int .i64 q), (.string ⟨List.toArray s⟩), (.string ⟨List.toArray u⟩), (.int .i64 a0), (.int .i64 a1)]) 20 d5 rfl ?_
     exact eK a5
   ·exact oV (hC (hS 2 (.int .i64 a8)) (h0)) (.int .i64 a8)
   ·exact oV (hC (hS 3 (.string ⟨List.toArray a9⟩)) (h0)) (.string ⟨List.toArray a9⟩)
   ·refine oH 0 1 ?_
    ·rintro ρ' w' hs a2 ⟨f4, b8⟩
     refine kM (kc (kA a2 3 19) (kc (kA a2 4 20) (kc (kA a2 5 21) (kc (kA a2 6 22) k0)))) fun a5 => ?_
     refine Jj (f := 57) (fo := (.tmp 19)) (xs := #[(.tmp 20), (.tmp 21), (.tmp 22)]) (tys := #[63, 2, 9]) (first := #[(pt g1 0)]) (captured := #[]) (d := (some 23)) (k := 7) K rfl K K Tryz.call57 (Ca g1 g2 A8 c9 m q3 q4 q5 q6 a3 a4 1 b0 b1 b2 b3 q s u a0 a1 a8 a9 w' (Yd b8 [0, 1, 2] rfl rfl) (fun w hm => c2 w (SP.through b8 (l := [0, 1, 2]) rfl hm)) c d3) ?_
     rintro e d6 ⟨rfl, c5⟩
     refine ⟨_, rfl, ?_⟩
     have d7 : SP S w0 d6 [Qn a6 63 #[(.int .i64 q), (.string ⟨List.toArray s⟩), (.string ⟨List.toArray u⟩), (.int .i64 a0), (.int .i64 a1)], Qn p 63 #[(.int .i64 0), (.string ⟨List.toArray ([] : List UInt8)⟩), (.string ⟨List.toArray ([] : List UInt8)⟩), (.int .i64 0), (.int .i64 0)], Qn g2 79 #[(.int .i64 q3), (.int .i64 q4), (.int .i64 q5), (.int .i64 q6), (.slice A8 (List.length (List.map stT a3)) c9), (.map (some m))], V5 m a4, Qn g1 95 #[(pt g2 0), (Xj c.2.2.2.2.2.1 g1), (.string ⟨List.toArray c.2.2.2.2.2.2.1⟩), (.string ⟨List.toArray c.2.2.2.2.2.2.2.1⟩), (.string ⟨List.toArray c.2.2.2.2.2.2.2.2.1⟩), (.bool c.2.2.2.2.2.2.2.2.2)]] := Vv b8 [0, 1, 2] [3, 4] rfl rfl c5 rfl
     clear c5
     refine ⟨_, Qa a5, rfl, ?_⟩
     exact (And.intro (And.intro rfl (trivial)) (d7))
   ·refine oH 1 2 ?_
    ·rintro ρ' w' hs a2 ⟨⟨c6, -⟩, d8⟩
     refine kN [(8, (pt p 0)), (23, (.agg #[(.int .i64 c.1), (.string ⟨List.toArray c.2.1⟩), (.string ⟨List.toArray c.2.2.1⟩), (.int .i64 c.2.2.2.1), (.int .i64 c.2.2.2.2.1)]))] ⟨(hs 8 K).trans K, (Jd (h := 7) K).symm.trans c6, trivial⟩ fun a5 => ?_
     refine Qi.store (t := 63) (x := (.tmp 8)) (y := (.tmp 23)) (g := p) (off := 0) (i := 1) (v := (.agg #[(.int .i64 c.1), (.string ⟨List.toArray c.2.1⟩), (.string ⟨List.toArray c.2.2.1⟩), (.int .i64 c.2.2.2.1), (.int .i64 c.2.2.2.2.1)])) (cs' := #[(.int .i64 c.1), (.string ⟨List.toArray c.2.1⟩), (.string ⟨List.toArray c.2.2.1⟩), (.int .i64 c.2.2.2.1), (.int .i64 c.2.2.2.2.1)]) (d := none) (k := 8) K rfl K K d8 rfl K ?_
     intro f5 d9
     refine ⟨_, Qa a5, trivial, ?_⟩
     exact (And.intro (And.intro c6 (And.intro rfl (trivial))) (d9))
   ·exact Owe.run K [] trivial (.bool true) (fun _ _ => K) rfl
   ·rintro ρ' w' hs hf ⟨⟨f6, f7, -⟩, b9⟩
    refine Q3 [(8, (pt p 0)), (9, (.bool true))] ⟨(hs 8 K).trans K, hf 9 9 K, trivial⟩ ?_
    obtain ⟨f8, e0⟩ : ∃ x, w' = x := ⟨_, rfl⟩
    rw [e0] at b9 ⊢
    refine At.ret K ?_
    refine ⟨(.tuple #[(.agg #[(.int .i64 c.1), (.string ⟨List.toArray c.2.1⟩), (.string ⟨List.toArray c.2.2.1⟩), (.int .i64 c.2.2.2.1), (.int .i64 c.2.2.2.2.1)]), (.bool true)]), C2 K (J4 (a := 8) (t := 63) (g := p) (off := 0) K (SP.get b9 (i := 1) rfl) K) (R4 (t := 9) K), ?_⟩
    obtain rfl := Qe H
    exact ⟨rfl, SP.sel b9 [2,3,4] rfl rfl⟩
  ·have H := cf H b4
   rcases Bool.eq_false_or_eq_true (a7 == 2) with b6 | b6
   ·have H := ct H b6
    have e1 : SP S w0 c3 [Qn g2 79 #[(.int .i64 q3), (.int .i64 q4), (.int .i64 q5), (.int .i64 q6), (.slice A8 (List.length (List.map stT a3)) c9), (.map (some m))], V5 m a4, Qn g1 95 #[(pt g2 0), (.func (.func 75) #[(pt g1 0)] #[]), (.string ⟨List.toArray b0⟩), (.string ⟨List.toArray b1⟩), (.string ⟨List.toArray b2⟩), (.bool b3)], Qn a6 63 #[(.int .i64 q), (.string ⟨List.toArray s⟩), (.string ⟨List.toArray u⟩), (.int .i64 a0), (.int .i64 a1)], Qn p 63 #[(.int .i64 0), (.string ⟨List.toArray ([] : List UInt8)⟩), (.string ⟨List.toArray ([] : List UInt8)⟩), (.int .i64 0), (.int .i64 0)]] := by have h := b5; rw [stepV_2 b4 b6] at h; exact h
    obtain ⟨j, e2, H⟩ := Qb H
    refine aG [GEq (pt g1 0), GEq (pt g1 0), GEq (pt g1 1), GEq (.func (.func 75) #[(pt g1 0)] #[]), GEq (.agg #[(.int .i64 q), (.string ⟨List.toArray s⟩), (.string ⟨List.toArray u⟩), (.int .i64 a0), (.int .i64 a1)]), GEq (.int .i64 a8), GEq (.string ⟨List.toArray a9⟩), GEq (.agg #[(.int .i64 j.1), (.string ⟨List.toArray j.2.1⟩), (.string ⟨List.toArray j.2.2.1⟩), (.int .i64 j.2.2.2.1), (.int .i64 j.2.2.2.2.1)]), Ey, GEq (.bool true)] [7, 8] [sG [] [] S w0 [Qn g2 79 #[(.int .i64 q3), (.int .i64 q4), (.int .i64 q5), (.int .i64 q6), (.slice A8 (List.length (List.map stT a3)) c9), (.map (some m))], V5 m a4, Qn g1 95 #[(pt g2 0), (.func (.func 75) #[(pt g1 0)] #[]), (.string ⟨List.toArray b0⟩), (.string ⟨List.toArray b1⟩), (.string ⟨List.toArray b2⟩), (.bool b3)], Qn a6 63 #[(.int .i64 q), (.string ⟨List.toArray s⟩), (.string ⟨List.toArray u⟩), (.int .i64 a0), (.int .i64 a1)], Qn p 63 #[(.int .i64 0), (.string ⟨List.toArray ([] : List UInt8)⟩), (.string ⟨List.toArray ([] : List UInt8)⟩), (.int .i64 0), (.int .i64 0)]], sG [7] [(.agg #[(.int .i64 j.1), (.string ⟨List.toArray j.2.1⟩), (.string ⟨List.toArray j.2.2.1⟩), (.int .i64 j.2.2.2.1), (.int .i64 j.2.2.2.2.1)])] S w0 [Qn a6 63 #[(.int .i64 q), (.string ⟨List.toArray s⟩), (.string ⟨List.toArray u⟩), (.int .i64 a0), (.int .i64 a1)], Qn p 63 #[(.int .i64 0), (.string ⟨List.toArray ([] : List UInt8)⟩), (.string ⟨List.toArray ([] : List UInt8)⟩), (.int .i64 0), (.int .i64 0)], Qn g2 79 #[(.int .i64 q3), (.int .i64 q4), (.int .i64 q5), (.int .i64 q6), (.slice A8 (List.length (List.map stT a3)) c9), (.map (some m))], V5 m a4, Qn g1 95 #[(pt g2 0), (Xj j.2.2.2.2.2.1 g1), (.string ⟨List.toArray j.2.2.2.2.2.2.1⟩), (.string ⟨List.toArray j.2.2.2.2.2.2.2.1⟩), (.string ⟨List.toArray j.2.2.2.2.2.2.2.2.1⟩), (.bool j.2.2.2.2.2.2.2.2.2)]], sG [7, 8] [(.agg #[(.int .i64 j.1), (.string ⟨List.toArray j.2.1⟩), (.string ⟨List.toArray j.2.2.1⟩), (.int .i64 j.2.2.2.1), (.int .i64 j.2.2.2.2.1)]), undef] S w0 [Qn a6 63 #[(.int .i64 q), (.string ⟨List.toArray s⟩), (.string ⟨List.toArray u⟩), (.int .i64 a0), (.int .i64 a1)], Qn p 63 #[(.int .i64 j.1), (.string ⟨List.toArray j.2.1⟩), (.string ⟨List.toArray j.2.2.1⟩), (.int .i64 j.2.2.2.1), (.int .i64 j.2.2.2.2.1)], Qn g2 79 #[(.int .i64 q3), (.int .i64 q4), (.int .i64 q5), (.int .i64 q6), (.slice A8 (List.length (List.map stT a3)) c9), (.map (some m))], V5 m a4, Qn g1 95 #[(pt g2 0), (Xj j.2.2.2.2.2.1 g1), (.string ⟨List.toArray j.2.2.2.2.2.2.1⟩), (.string ⟨List.toArray j.2.2.2.2.2.2.2.1⟩), (.string ⟨List.toArray j.2.2.2.2.2.2.2.2.1⟩), (.bool j.2.2.2.2.2.2.2.2.2)]]] 10 2 ⟨trivial, SP.drew e1⟩ ?_ ?_
    iterate 10 refine And.intro ?_ ?_
    exact trivial
    ·exact oV (hC (hS 0 (pt g1 0)) (h0)) (pt g1 0)
    ·exact oV (hC (hA 0 16) (h0)) (pt g1 0)
    ·exact oV (hC (hA 1 17) (h0)) (pt g1 1)
    ·refine oL 0 ?_
     ·rintro ρ' w' hs a2 ⟨f9, e3⟩
      refine kM (kc (kA a2 2 18) k0) fun a5 => ?_
      refine sL 93 18 g1 1 2 (.func (.func 75) #[(pt g1 0)] #[]) 19 e3 rfl ?_
      exact eK a5
    ·refine oL 0 ?_
     ·rintro ρ' w' hs a2 ⟨g0, e4⟩
      refine kM (kc (kS hs 5 (pt a6 0)) k0) fun a5 => ?_
      refine sL 63 5 a6 0 3 (.agg #[(.int .i64 q), (.string ⟨List.toArray s⟩), (.string ⟨List.toArray u⟩), (.int .i64 a0), (.int .i64 a1)]) 20 e4 rfl ?_
      exact eK a5
    ·exact oV (hC (hS 2 (.int .i64 a8)) (h0)) (.int .i64 a8)
    ·exact oV (hC (hS 3 (.string ⟨List.toArray a9⟩)) (h0)) (.string ⟨List.toArray a9⟩)
    ·refine oH 0 1 ?_
     ·rintro ρ' w' hs a2 ⟨g3, c0⟩
      refine kM (kc (kA a2 3 19) (kc (kA a2 4 20) (kc (kA a2 5 21) (kc (kA a2 6 22) k0)))) fun a5 => ?_
      refine Jj (f := 75) (fo := (.tmp 19)) (xs := #[(.tmp 20), (.tmp 21), (.tmp 22)]) (tys := #[63, 2, 9]) (first := #[(pt g1 0)]) (captured := #[]) (d := (some 23)) (k := 7) K rfl K K Tryz.call75 (Cb g1 g2 A8 c9 m q3 q4 q5 q6 a3 a4 2 b0 b1 b2 b3 q s u a0 a1 a8 a9 w' (Yd c0 [0, 1, 2] rfl rfl) (fun w hm => c2 w (SP.through c0 (l := [0, 1, 2]) rfl hm)) j e2) ?_
      rintro e e5 ⟨rfl, c7⟩
      refine ⟨_, rfl, ?_⟩
      have e6 : SP S w0 e5 [Qn a6 63 #[(.int .i64 q), (.string ⟨List.toArray s⟩), (.string ⟨List.toArray u⟩), (.int .i64 a0), (.int .i64 a1)], Qn p 63 #[(.int .i64 0), (.string ⟨List.toArray ([] : List UInt8)⟩), (.string ⟨List.toArray ([] : List UInt8)⟩), (.int .i64 0), (.int .i64 0)], Qn g2 79 #[(.int .i64 q3), (.int .i64 q4), (.int .i64 q5), (.int .i64 q6), (.slice A8 (List.length (List.map stT a3)) c9), (.map (some m))], V5 m a4, Qn g1 95 #[(pt g2 0), (Xj j.2.2.2.2.2.1 g1), (.string ⟨List.toArray j.2.2.2.2.2.2.1⟩), (.string ⟨List.toArray j.2.2.2.2.2.2.2.1⟩), (.string ⟨List.toArray j.2.2.2.2.2.2.2.2.1⟩), (.bool j.2.2.2.2.2.2.2.2.2)]] := Vv c0 [0, 1, 2] [3, 4] rfl rfl c7 rfl
      clear c7
      refine ⟨_, Qa a5, rfl, ?_⟩
      exact (And.intro (And.intro rfl (trivial)) (e6))
    ·refine oH 1 2 ?_
     ·rintro ρ' w' hs a2 ⟨⟨c8, -⟩, e7⟩
      refine kN [(8, (pt p 0)), (23, (.agg #[(.int .i64 j.1), (.string ⟨List.toArray j.2.1⟩), (.string ⟨List.toArray j.2.2.1⟩), (.int .i64 j.2.2.2.1), (.int .i64 j.2.2.2.2.1)]))] ⟨(hs 8 K).trans K, (Jd (h := 7) K).symm.trans c8, trivial⟩ fun a5 => ?_
      refine Qi.store (t := 63) (x := (.tmp 8)) (y := (.tmp 23)) (g := p) (off := 0) (i := 1) (v := (.agg #[(.int .i64 j.1), (.string ⟨List.toArray j.2.1⟩), (.string ⟨List.toArray j.2.2.1⟩), (.int .i64 j.2.2.2.1), (.int .i64 j.2.2.2.2.1)])) (cs' := #[(.int .i64 j.1), (.string ⟨List.toArray j.2.1⟩), (.string ⟨List.toArray j.2.2.1⟩), (.int .i64 j.2.2.2.1), (.int .i64 j.2.2.2.2.1)]) (d := none) (k := 8) K rfl K K e7 rfl K ?_
      intro g4 e8
      refine ⟨_, Qa a5, trivial, ?_⟩
      exact (And.intro (And.intro c8 (And.intro rfl (trivial))) (e8))
    ·exact Owe.run K [] trivial (.bool true) (fun _ _ => K) rfl
    ·rintro ρ' w' hs hf ⟨⟨g5, g6, -⟩, c1⟩
     refine Q3 [(8, (pt p 0)), (9, (.bool true))] ⟨(hs 8 K).trans K, hf 9 9 K, trivial⟩ ?_
     obtain ⟨g7, e9⟩ : ∃ x, w' = x := ⟨_, rfl⟩
     rw [e9] at c1 ⊢
     refine At.ret K ?_
     refine ⟨(.tuple #[(.agg #[(.int .i64 j.1), (.string ⟨List.toArray j.2.1⟩), (.string ⟨List.toArray j.2.2.1⟩), (.int .i64 j.2.2.2.1), (.int .i64 j.2.2.2.2.1)]), (.bool true)]), C2 K (J4 (a := 8) (t := 63) (g := p) (off := 0) K (SP.get c1 (i := 1) rfl) K) (R4 (t := 9) K), ?_⟩
     obtain rfl := Qe H
     exact ⟨rfl, SP.sel c1 [2,3,4] rfl rfl⟩
   ·have H := cf H b6
    cases H
def Jr (q3 : Int) (q4 : Int) (q5 : Int) (q6 : Int) (q7 : (List Qg)) (c : Uw) (d : Int) (a : (List UInt8)) (e : (List UInt8)) (f : (List UInt8)) (b : Bool) : Option ((List UInt8) × Bool) :=
  (cond (!b) (some (([] : List UInt8), false)) (some (a, true)))
theorem Gj {S : List Nat} (g1 : Nat) (g2 : Nat) (A8 : Option Addr) (c9 : Nat) (d : Nat) (q3 : Int) (q4 : Int) (q5 : Int) (q6 : Int) (f : (List Va)) (h : Uw) (i : Int) (a : (List UInt8)) (j : (List UInt8)) (k : (List UInt8)) (c : Bool) (w0 : World) (hO : SP S w0 w0 [Qn g2 79 #[(.int .i64 q3), (.int .i64 q4), (.int .i64 q5), (.int .i64 q6), (.slice A8 (List.length (List.map stT f)) c9), (.map (some d))], V5 d h, Qn g1 95 #[(pt g2 0), (Xj i g1), (.string ⟨List.toArray a⟩), (.string ⟨List.toArray j⟩), (.string ⟨List.toArray k⟩), (.bool c)]]) (m : ∀ w, Mod S w0 w → (dDS Js Ce).ok w (A8, c9, f)) (r : ((List UInt8) × Bool)) (H : Jr q3 q4 q5 q6 (List.map stT f) h i a j k c = some r) :
  Calls Tryz.prog 35 #[(pt g1 0)] w0 (fun e w' => e = .returned (.tuple #[(.string ⟨List.toArray r.1⟩), (.bool r.2)]) ∧ SP S w0 w' [Qn g2 79 #[(.int .i64 q3), (.int .i64 q4), (.int .i64 q5), (.int .i64 q6), (.slice A8 (List.length (List.map stT f)) c9), (.map (some d))], V5 d h, Qn g1 95 #[(pt g2 0), (Xj i g1), (.string ⟨List.toArray a⟩), (.string ⟨List.toArray j⟩), (.string ⟨List.toArray k⟩), (.bool c)]]) := by
 unfold Jr at H
 refine Qs (n := 13) Tryz.func35 K K K ?_
 have g := hO
 refine aQ ?_
 refine aR ?_
 refine iR 2 2 [(2, (.string ⟨List.toArray ([] : List UInt8)⟩)), (3, (.bool false))] ?_
 refine iF ?_
 refine aQ ?_
 refine aQ ?_
 refine aR ?_
 refine iR 3 3 [(4, (pt g1 0)), (5, (pt g1 0)), (6, (pt g1 5))] ?_
 refine iS 4 ?_
 refine sL 4 6 g1 5 2 (.bool c) 7 g rfl ?_
 refine iR 1 5 [(8, (.bool (!c)))] ?_
 refine iF ?_
 refine V1 K (o := (.tmp 8)) K (b := (!c)) K (fun l => ?_) (fun l => ?_)
 ·have H := ct H l
  refine aQ ?_
  refine aR ?_
  refine iR 2 2 [(2, (.string ⟨List.toArray ([] : List UInt8)⟩)), (3, (.bool false))] ?_
  refine iF ?_
  refine At.ret K ?_
  refine ⟨(.tuple #[(.string ⟨List.toArray ([] : List UInt8)⟩), (.bool false)]), K, ?_⟩
  obtain rfl := Qe H
  exact ⟨rfl, SP.sel g [0,1,2] rfl rfl⟩
 ·have H := cf H l
  refine At.skip K ?_
  refine aQ ?_
  refine aR ?_
  refine iR 3 3 [(9, (pt g1 0)), (10, (pt g1 0)), (11, (pt g1 2))] ?_
  refine iS 4 ?_
  refine sL 9 11 g1 2 2 (.string ⟨List.toArray a⟩) 12 g rfl ?_
  refine iR 2 6 [(2, (.string ⟨List.toArray a⟩)), (3, (.bool true))] ?_
  refine iF ?_
  refine At.ret K ?_
  refine ⟨(.tuple #[(.string ⟨List.toArray a⟩), (.bool true)]), K, ?_⟩
  obtain rfl := Qe H
  exact ⟨rfl, SP.sel g [0,1,2] rfl rfl⟩
def J2 (q3 : Int) (q4 : Int) (q5 : Int) (q6 : Int) (q7 : (List Qg)) (b : Uw) (a : Int) (c : (List UInt8)) (d : (List UInt8)) (e : (List UInt8)) (f : Bool) : Option (Bool) :=
  (some ((Hv a)))
theorem N8 {S : List Nat} (g1 : Nat) (g2 : Nat) (A8 : Option Addr) (c9 : Nat) (b : Nat) (q3 : Int) (q4 : Int) (q5 : Int) (q6 : Int) (c : (List Va)) (f : Uw) (a : Int) (g : (List UInt8)) (h : (List UInt8)) (i : (List UInt8)) (j : Bool) (w0 : World) (hO : SP S w0 w0 [Qn g2 79 #[(.int .i64 q3), (.int .i64 q4), (.int .i64 q5), (.int .i64 q6), (.slice A8 (List.length (List.map stT c)) c9), (.map (some b))], V5 b f, Qn g1 95 #[(pt g2 0), (Xj a g1), (.string ⟨List.toArray g⟩), (.string ⟨List.toArray h⟩), (.string ⟨List.toArray i⟩), (.bool j)]]) (m : ∀ w, Mod S w0 w → (dDS Js Ce).ok w (A8, c9, c)) (r : (Bool)) (H : J2 q3 q4 q5 q6 (List.map stT c) f a g h i j = some r) :
  Calls Tryz.prog 36 #[(pt g1 0)] w0 (fun e w' => e = .returned (.bool r) ∧ SP S w0 w' [Qn g2 79 #[(.int .i64 q3), (.int .i64 q4), (.int .i64 q5), (.int .i64 q6), (.slice A8 (List.length (List.map stT c)) c9), (.map (some b))], V5 b f, Qn g1 95 #[(pt g2 0), (Xj a g1), (.string ⟨List.toArray g⟩), (.string ⟨List.toArray h⟩), (.string ⟨List.toArray i⟩), (.bool j)]]) := by
 unfold J2 at H
 refine Qs (n := 8) Tryz.func36 K K K ?_
 have l := hO
 refine aQ ?_
 refine aR ?_
 refine iR 1 1 [(2, (.bool false))] ?_
 refine iF ?_
 refine aQ ?_
 refine aR ?_
 refine iR 3 3 [(3, (pt g1 0)), (4, (pt g1 0)), (5, (pt g1 1))] ?_
 refine iS 4 ?_
 refine sL 93 5 g1 1 2 (Xj a g1) 6 l rfl ?_
 refine iS 5 ?_
 refine Fm (op := .eql) (T := 93) (T' := 93) (x := (.tmp 6)) (y := (.const .nilFunc)) (vx := (Xj a g1)) (vy := .nilFunc) (v := (.bool (Hv a))) (d := (some 7)) (k := 4) K rfl K K (by clear H; intro w; unfold Xj Hv; cases (a == 1) <;> cases (a == 2) <;> kernel_rfl) ?_
 refine iR 1 6 [(2, (.bool (Hv a)))] ?_
 refine iF ?_
 refine At.ret K ?_
 refine ⟨(.bool (Hv a)), K, ?_⟩
 obtain rfl := Qe H
 exact ⟨rfl, SP.sel l [0,1,2] rfl rfl⟩
end Go.Proofs.YtmgfanhcdfobhaaGreatDoor
