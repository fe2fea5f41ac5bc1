import Derived.Test.YtmgfanhcdfobhaaGreatDoorPkVaultPlays4
set_option linter.unusedSimpArgs false
set_option linter.unusedVariables false
set_option linter.unusedSectionVars false
namespace Go.Proofs.YtmgfanhcdfobhaaGreatDoor
open Go.RowKit Go.WideMaps Go.WideShapes
abbrev N5 := List ((List UInt8 × List UInt8) × Int)
def Hl (k : List UInt8 × List UInt8) : Value := .agg #[.string ⟨k.1.toArray⟩, .string ⟨k.2.toArray⟩]
theorem Ml {a b : List UInt8 × List UInt8} (h : Hl a = Hl b) : a = b := by
  unfold Hl at h
  injection h with h
  have := congrArg Array.toList h
  simp at this
  exact Prod.ext this.1 this.2
def G8 (L : N5) (k : List UInt8 × List UInt8) : Int := match L.findIdx? (fun e => e.1 == k) with | some j => (L.getD j (k, 0)).2 | none => 0
def Mm (L : N5) (k : List UInt8 × List UInt8) (v : Int) : N5 := match L.findIdx? (fun e => e.1 == k) with | some j => L.set j (k, v) | none => L ++ [(k, v)]
def Ec (L : N5) (k : List UInt8 × List UInt8) : N5 := match L.findIdx? (fun e => e.1 == k) with | some j => L | none => L ++ [(k, 0)]
def mEnc (L : N5) : List (Value × Value) := L.map fun p => (Hl p.1, .int .i64 p.2)
structure MOk (m : Nat) (L : N5) (es : Array MapEntry) (clock : Nat) (w : World) : Prop where
  heap : w.heap[m]? = some (.map es clock)
  ents : es.toList.map (fun e => (e.key, e.val)) = mEnc L
  len : ∀ p ∈ L, p.1.1.length ≤ maxLen ∧ p.1.2.length ≤ maxLen
  nd : L.Pairwise fun a b => a.1 ≠ b.1
  born : es.toList.Pairwise fun a b => a.born ≠ b.born
  clk : ∀ e ∈ es.toList, e.born < clock
def Zs (m : Nat) (L : N5) : Ent := ⟨[m], fun w => ∃ es clock, MOk m L es clock w, fun w w' hk ⟨es, clock, h⟩ => ⟨es, clock, (hk m (by simp)).trans h.heap, h.ents, h.len, h.nd, h.born, h.clk⟩⟩
def Lv (m : Nat) (L : N5) (k : List UInt8 × List UInt8) (b : Nat) : Ent := ⟨[m], fun w => ∃ es clock, MOk m (Ec L k) es clock w ∧ ∃ (j : Nat) (e : MapEntry), es.toList[j]? = some e ∧ e.key = Hl k ∧ e.born = b,
  fun w w' hk ⟨es, clock, h, h2⟩ => ⟨es, clock, ⟨(hk m (by simp)).trans h.heap, h.ents, h.len, h.nd, h.born, h.clk⟩, h2⟩⟩
theorem Mn {L : N5} {k : List UInt8 × List UInt8} {j : Nat} {p : (List UInt8 × List UInt8) × Int} (hn : L.Pairwise fun a b => a.1 ≠ b.1) (hj : L[j]? = some p) (hp : p.1 = k) : L.findIdx? (fun e => e.1 == k) = some j := by
  obtain ⟨hlt, he⟩ := List.getElem?_eq_some_iff.1 hj
  rw [List.findIdx?_eq_some_iff_getElem]
  refine ⟨hlt, by rw [he, hp]; simp, fun i hi => ?_⟩
  have := List.pairwise_iff_getElem.1 hn i j (by omega) hlt hi
  rw [he, hp] at this
  simpa using this
theorem Oe {L : N5} {k : List UInt8 × List UInt8} (h : ∀ p ∈ L, p.1 ≠ k) : L.findIdx? (fun e => e.1 == k) = none := by
  rw [List.findIdx?_eq_none_iff]
  intro p hp
  simpa using h p hp
theorem m2put_get (L : N5) (k : List UInt8 × List UInt8) : G8 (Ec L k) k = G8 L k := by
  unfold Ec
  split
  · rfl
  · rename_i h
    unfold G8
    rw [h]
    have hf : (L ++ [(k, (0 : Int))]).findIdx? (fun e => e.1 == k) = some L.length := by
      rw [List.findIdx?_append, h]
      simp [List.findIdx?_cons]
    rw [hf]
    simp [List.getD]
theorem m2put_set (L : N5) (k : List UInt8 × List UInt8) (v : Int) : Mm (Ec L k) k v = Mm L k v := by
  unfold Ec
  split
  · rfl
  · rename_i h
    have hf : (L ++ [(k, (0 : Int))]).findIdx? (fun e => e.1 == k) = some L.length := by
      rw [List.findIdx?_append, h]
      simp [List.findIdx?_cons]
    unfold Mm
    rw [hf, h]
    simp
section
variable {P : Program} {w : World} {m : Nat} {L : N5} {es : Array MapEntry} {clock : Nat} {T kt et : TypeId} {k : List UInt8 × List UInt8}
structure KeyT (P : Program) (kt : TypeId) : Prop where
  law : KeyLaw P kt
  key : ∀ k : List UInt8 × List UInt8, k.1.length ≤ maxLen → k.2.length ≤ maxLen → ∃ l, keyOf P kt (Hl k) = some l
theorem MOk.find (h : MOk m L es clock w) (K : KeyT P kt) (h1 : k.1.length ≤ maxLen) (h2 : k.2.length ≤ maxLen) :
    ((Instr.findKey kt (Hl k) es.toList).run P w = .ok none w ∧ L.findIdx? (fun e => e.1 == k) = none) ∨ ∃ j p e, L[j]? = some p ∧ p.1 = k ∧ es.toList[j]? = some e ∧ e.key = Hl k ∧ e.val = .int .i64 p.2 ∧ L.findIdx? (fun e => e.1 == k) = some j ∧ (Instr.findKey kt (Hl k) es.toList).run P w = .ok (some (j, .int .i64 p.2)) w := by
  obtain ⟨l, hl⟩ := K.key k h1 h2
  have get : ∀ (j : Nat) (e : MapEntry), es.toList[j]? = some e → ∃ p, L[j]? = some p ∧ e.key = Hl p.1 ∧ e.val = .int .i64 p.2 := fun j e hj => by
    have h3 := congrArg (fun x => x[j]?) h.ents
    simp only [mEnc, List.getElem?_map, hj, Option.map_some] at h3
    have h3' := h3.symm
    rw [Option.map_eq_some_iff] at h3'
    obtain ⟨p, hp, he⟩ := h3'
    injection he with e1 e2
    exact ⟨p, hp, e1.symm, e2.symm⟩
  have hes : ∀ e ∈ es.toList, ∃ l, keyOf P kt e.key = some l := fun e he => by
    obtain ⟨j, hj⟩ := List.mem_iff_getElem?.1 he
    obtain ⟨p, hp, hk, _⟩ := get j e hj
    obtain ⟨q1, q2⟩ := h.len p (List.mem_of_getElem? hp)
    rw [hk]
    exact K.key p.1 q1 q2
  rcases K.law.find w hl es.toList hes with ⟨r, hno⟩ | ⟨j, e, r, hj, hk⟩
  · left
    refine ⟨r, Oe fun p hp hpk => ?_⟩
    obtain ⟨j, hj⟩ := List.mem_iff_getElem?.1 hp
    have h3 := congrArg (fun x => x[j]?) h.ents
    simp only [mEnc, List.getElem?_map, hj, Option.map_some] at h3
    rw [Option.map_eq_some_iff] at h3
    obtain ⟨e, he, hee⟩ := h3
    injection hee with e1 _
    exact hno e (List.mem_of_getElem? he) (by rw [e1, hpk])
  · right
    obtain ⟨p, hp, hk2, hv⟩ := get j e hj
    have hpk : p.1 = k := Ml (hk2.symm.trans hk)
    exact ⟨j, p, e, hp, hpk, hj, hk, hv, Mn h.nd hp hpk, by rw [← hv]; exact r⟩
theorem Kt (h : MOk m L es clock w) (K : KeyT P kt) (hT : P.underlying T = some (.map kt et)) (hz : ∀ w, (zeroValue et).run P w = .ok (.int .i64 0) w) (h1 : k.1.length ≤ maxLen) (h2 : k.2.length ≤ maxLen) :
    (Instr.lookup T (.map (some m)) (Hl k) false).run P w = .ok (.int .i64 (G8 L k)) w := by
  obtain ⟨l, hl⟩ := K.key k h1 h2
  have hck := K.law.check w es.isEmpty hl
  unfold G8
  rcases h.find K h1 h2 with ⟨r, hf⟩ | ⟨j, p, e, hp, hpk, hj, hk, hv, hf, r⟩
  · rw [hf]
    simp only [Instr.lookup, Sem.run_bind, run_underlying hT, Go.MapKept.run_getObj_map h.heap, hck, r, hz, Result.andThen_ok, Sem.run_pure]
    rfl
  · rw [hf]
    have : L.getD j (k, 0) = p := by simp [List.getD, hp]
    simp only [this]
    simp only [Instr.lookup, Sem.run_bind, run_underlying hT, Go.MapKept.run_getObj_map h.heap, hck, r, Result.andThen_ok, Sem.run_pure]
    rfl
end
section
variable {P : Program} {w : World} {m : Nat} {L : N5} {es : Array MapEntry} {clock : Nat} {T kt et : TypeId} {k : List UInt8 × List UInt8}
theorem MOk.push {w' : World} (h : MOk m L es clock w) (h1 : k.1.length ≤ maxLen) (h2 : k.2.length ≤ maxLen) (hf : L.findIdx? (fun e => e.1 == k) = none) (hw : w'.heap[m]? = some (.map (es.push { key := Hl k, val := .int .i64 0, born := clock }) (clock + 1))) :
    MOk m (L ++ [(k, 0)]) (es.push { key := Hl k, val := .int .i64 0, born := clock }) (clock + 1) w' := by
  refine ⟨hw, by rw [Array.toList_push, List.map_append, h.ents]; simp [mEnc], fun p hp => ?_, ?_, ?_, fun e he => ?_⟩
  · rcases List.mem_append.1 hp with hp | hp
    · exact h.len p hp
    · simp at hp; subst hp; exact ⟨h1, h2⟩
  · refine List.pairwise_append.2 ⟨h.nd, List.pairwise_singleton _ _, fun a ha b hb => ?_⟩
    simp at hb; subst hb
    rw [List.findIdx?_eq_none_iff] at hf
    simpa using hf a ha
  · rw [Array.toList_push]
    refine List.pairwise_append.2 ⟨h.born, List.pairwise_singleton _ _, fun a ha b hb => ?_⟩
    simp at hb; subst hb
    have := h.clk a ha
    show a.born ≠ clock
    omega
  · rw [Array.toList_push] at he
    rcases List.mem_append.1 he with he | he
    · have := h.clk e he; omega
    · simp at he; subst he; exact Nat.lt_succ_self _
theorem Ix {w : World} {m : Nat} {o o' : Obj} (h : w.heap[m]? = some o) : ({ w with heap := w.heap.setIfInBounds m o' } : World).heap[m]? = some o' := (Go.MapKept.heap_set h).1
theorem Lw {w : World} {m : Nat} {o o' : Obj} (h : w.heap[m]? = some o) : Mod [m] w { w with heap := w.heap.setIfInBounds m o' } :=
  ⟨rfl, rfl, rfl, by simp, fun k _ hk => (Go.MapKept.heap_set h).2 k (by simpa using hk)⟩
theorem Lx (h : MOk m L es clock w) (K : KeyT P kt) (hT : P.underlying T = some (.map kt et)) (hz : ∀ w, (zeroValue et).run P w = .ok (.int .i64 0) w) (h1 : k.1.length ≤ maxLen) (h2 : k.2.length ≤ maxLen) :
    ∃ (b : Nat) (w' : World), (Instr.mapEntry T (.map (some m)) (Hl k)).run P w = .ok (.tuple #[.int .i64 (G8 L k), .int .i64 (b : Int)]) w' ∧ Mod [m] w w' ∧ (Lv m L k b).ok w' ∧ w'.heap.size = w.heap.size := by
  obtain ⟨l, hl⟩ := K.key k h1 h2
  have hck := K.law.check w false hl
  have hst := K.law.stays w hl
  rcases h.find K h1 h2 with ⟨r, hf⟩ | ⟨j, p, e, hp, hpk, hj, hk, hv, hf, r⟩
  · refine ⟨clock, { w with heap := w.heap.setIfInBounds m (.map (es.push { key := Hl k, val := .int .i64 0, born := clock }) (clock + 1)) }, ?_, Lw h.heap, ⟨_, _, by rw [show Ec L k = L ++ [(k, 0)] by unfold Ec; rw [hf]]; exact h.push h1 h2 hf (Ix h.heap), L.length, { key := Hl k, val := .int .i64 0, born := clock }, ?_, rfl, rfl⟩, by simp⟩
    · simp only [Instr.mapEntry, Sem.run_bind, run_underlying hT, Go.MapKept.run_getObj_map h.heap, hck, r, hz, Go.MapKept.run_setObj_map _ h.heap, Result.andThen_ok, Sem.run_pure]
      rw [show G8 L k = 0 by unfold G8; rw [hf]]
      rfl
    · have hl2 := congrArg List.length h.ents
      simp [mEnc] at hl2
      rw [Array.toList_push]
      simp [hl2]
  · have hj' : es[j]? = some e := by simpa using hj
    have hmod : es.modify j (fun e => { e with key := Hl k }) = es := by
      apply Array.ext_getElem?
      intro i
      rw [Array.getElem?_modify]
      by_cases hij : j = i
      · subst hij
        rw [if_pos rfl, hj', Option.map_some]
        rw [← hk]
      · rw [if_neg hij]
    refine ⟨e.born, { w with heap := w.heap.setIfInBounds m (.map es clock) }, ?_, Lw h.heap, ⟨es, clock, ?_, j, e, hj, hk, rfl⟩, by simp⟩
    · simp only [Instr.mapEntry, Sem.run_bind, run_underlying hT, Go.MapKept.run_getObj_map h.heap, hck, r, hj', Option.map_some, Option.getD_some, hk, hst, hmod, Go.MapKept.run_setObj_map _ h.heap, Result.andThen_ok, Sem.run_pure]
      rw [show G8 L k = p.2 by unfold G8; rw [hf]; simp [List.getD, hp]]
      rfl
    · rw [show Ec L k = L by unfold Ec; rw [hf]]
      exact ⟨Ix h.heap, h.ents, h.len, h.nd, h.born, h.clk⟩
theorem Ly {b : Nat} {v : Int} (hp : (Lv m L k b).ok w) (h1 : k.1.length ≤ maxLen) (h2 : k.2.length ≤ maxLen) :
    ∃ w' : World, (Instr.entryStore T (.map (some m)) (.int .i64 (b : Int)) (.int .i64 v)).run P w = .ok () w' ∧ Mod [m] w w' ∧ (Zs m (Mm L k v)).ok w' ∧ w'.heap.size = w.heap.size := by
  obtain ⟨es, clock, h, j, e, hj, hk, hb⟩ := hp
  have hlt : j < es.toList.length := (List.getElem?_eq_some_iff.1 hj).1
  have hfind : es.findIdx? (fun e => (e.born : Int) == (b : Int)) = some j := by
    rw [show es = es.toList.toArray by simp, List.findIdx?_toArray, List.findIdx?_eq_some_iff_getElem]
    have he := (List.getElem?_eq_some_iff.1 hj).2
    refine ⟨hlt, by rw [he, hb]; simp, fun i hi => ?_⟩
    have := List.pairwise_iff_getElem.1 h.born i j (by omega) hlt hi
    rw [he, hb] at this
    intro hh
    have h9 : ((es.toList[i].born : Nat) : Int) = (b : Int) := eq_of_beq hh
    omega
  have get : ∃ p, (Ec L k)[j]? = some p ∧ p.1 = k := by
    have h3 := congrArg (fun x => x[j]?) h.ents
    simp only [mEnc, List.getElem?_map, hj, Option.map_some] at h3
    have h3' := h3.symm
    rw [Option.map_eq_some_iff] at h3'
    obtain ⟨p, hp, he⟩ := h3'
    injection he with e1 _
    exact ⟨p, hp, Ml (e1.trans hk)⟩
  obtain ⟨p, hp, hpk⟩ := get
  have hf := Mn h.nd hp hpk
  have hset : Mm L k v = (Ec L k).set j (k, v) := by rw [← m2put_set]; unfold Mm; rw [hf]
  refine ⟨{ w with heap := w.heap.setIfInBounds m (.map (es.modify j fun e => { e with val := .int .i64 v }) clock) }, ?_, Lw h.heap, ⟨es.modify j fun e => { e with val := .int .i64 v }, clock, ?_⟩, by simp⟩
  · simp only [Instr.entryStore, Sem.run_bind, Go.MapKept.run_getObj_map h.heap, asInt, asIntOf, Result.andThen_ok, Sem.run_pure, hfind, Go.MapKept.run_setObj_map _ h.heap]
  · have hml : (es.modify j fun e => { e with val := .int .i64 v }).toList = es.toList.modify j (fun e => { e with val := .int .i64 v }) := by simp
    refine ⟨Ix h.heap, ?_, ?_, ?_, ?_, ?_⟩
    · rw [hset, hml]
      apply List.ext_getElem?
      intro i
      have h3 := congrArg (fun x => x[i]?) h.ents
      simp only [mEnc, List.getElem?_map] at h3 ⊢
      rw [List.getElem?_modify, List.getElem?_set]
      by_cases hij : j = i
      · subst hij
        have hlt2 : j < (Ec L k).length := (List.getElem?_eq_some_iff.1 hp).1
        simp [hj, hlt2, hk]
      · simp only [if_neg hij]
        simpa using h3
    · rw [hset]
      intro q hq
      rcases List.mem_or_eq_of_mem_set hq with hq | rfl
      · exact h.len q hq
      · exact ⟨h1, h2⟩
    · rw [hset]
      rw [List.pairwise_iff_getElem]
      intro a b ha hb hab
      have hkey : ∀ (i : Nat) (hi : i < ((Ec L k).set j (k, v)).length), (((Ec L k).set j (k, v))[i]).1 = ((Ec L k)[i]'(by simpa using hi)).1 := fun i hi => by
        rw [List.getElem_set]
        split
        · rename_i hji
          subst hji
          have := (List.getElem?_eq_some_iff.1 hp).2
          rw [this, hpk]
        · rfl
      rw [hkey a ha, hkey b hb]
      exact List.pairwise_iff_getElem.1 h.nd a b (by simpa using ha) (by simpa using hb) hab
    · rw [hml, List.pairwise_iff_getElem]
      intro a b ha hb hab
      have hbn : ∀ (i : Nat) (hi : i < (es.toList.modify j (fun e => { e with val := .int .i64 v })).length), ((es.toList.modify j (fun e => { e with val := .int .i64 v }))[i]).born = (es.toList[i]'(by simpa using hi)).born := fun i hi => by
        rw [List.getElem_modify]
        split <;> rfl
      rw [hbn a ha, hbn b hb]
      exact List.pairwise_iff_getElem.1 h.born a b (by simpa using ha) (by simpa using hb) hab
    · rw [hml]
      intro q hq
      obtain ⟨i, hi, rfl⟩ := List.mem_iff_getElem.1 hq
      have hbn : ((es.toList.modify j (fun e => { e with val := .int .i64 v }))[i]).born = (es.toList[i]'(by simpa using hi)).born := by
        rw [List.getElem_modify]
        split <;> rfl
      rw [hbn]
      exact h.clk _ (List.getElem_mem _)
end
section
variable {P : Program} {n : Nat} {B : Code} {p : List Bool} {o : Nat} {K : Fr → World → Prop} {ρ : Fr} {w w0 : World} {ens : List Ent} {S : List Nat} {m : Nat} {L : N5} {dst : Option Nat} {k : List UInt8 × List UInt8}
theorem Lz {T : TypeId} (ho : Dl (Qm B p) o ρ = some (.makeMap T none, dst)) (hd : Jn n dst = true) (hs : SP S w0 w ens)
    (next : ∀ (m : Nat) (w' : World), SP S w0 w' (ens ++ [Zs m []]) → K (Gv ρ dst (.map (some m))) w') : Qk P n B p o K ρ w := by
  refine Qk.val ho hd (w' := w.alloc (.map #[] 0)) (v := .map (some w.heap.size)) (fun o hop => ?_) (next _ _ ?_)
  · unfold execOp; rw [hop]
    rfl
  · refine hs.push ((Below.refl _ _).alloc (Nat.le_refl _) _) ⟨#[], 0, heap_alloc_new w _, rfl, fun p hp => (by cases hp), List.Pairwise.nil, List.Pairwise.nil, fun e he => (by cases he)⟩ fun k hk => ?_
    have : k = w.heap.size := by simpa [Zs] using hk
    subst this
    simp
theorem Cu {T kt et : TypeId} {x ix : Operand} (ho : Dl (Qm B p) o ρ = some (.lookup T x ix false, dst)) (hd : Jn n dst = true) (hx : opv ρ x = .map (some m)) (hix : opv ρ ix = Hl k) (hT : P.underlying T = some (.map kt et)) (hK : KeyT P kt)
    (hz : ∀ w, (zeroValue et).run P w = .ok (.int .i64 0) w) (h : (Zs m L).ok w) (h1 : k.1.length ≤ maxLen) (h2 : k.2.length ≤ maxLen) (next : K (Gv ρ dst (.int .i64 (G8 L k))) w) : Qk P n B p o K ρ w := by
  obtain ⟨es, clock, h⟩ := h
  refine Qk.val ho hd (fun o hop => ?_) next
  unfold execOp; rw [hop]
  simp only [hx, hix, Sem.run_bind, Kt h hK hT hz h1 h2, Result.andThen_ok]
  rfl
theorem Hm {T kt et : TypeId} {b : Nat} {x ix : Operand} (ho : Dl (Qm B p) o ρ = some (.lookup T x ix false, dst)) (hd : Jn n dst = true) (hx : opv ρ x = .map (some m)) (hix : opv ρ ix = Hl k) (hT : P.underlying T = some (.map kt et)) (hK : KeyT P kt)
    (hz : ∀ w, (zeroValue et).run P w = .ok (.int .i64 0) w) (h : (Lv m L k b).ok w) (h1 : k.1.length ≤ maxLen) (h2 : k.2.length ≤ maxLen) (next : K (Gv ρ dst (.int .i64 (G8 L k))) w) : Qk P n B p o K ρ w := by
  obtain ⟨es, clock, h, _⟩ := h
  refine Qk.val ho hd (fun o hop => ?_) next
  unfold execOp; rw [hop]
  simp only [hx, hix, Sem.run_bind, Kt h hK hT hz h1 h2, m2put_get, Result.andThen_ok]
  rfl
theorem Ku {T kt et : TypeId} {x ix : Operand} {i : Nat} (ho : Dl (Qm B p) o ρ = some (.mapEntry T x ix, dst)) (hd : Jn n dst = true) (hx : opv ρ x = .map (some m)) (hix : opv ρ ix = Hl k) (hT : P.underlying T = some (.map kt et)) (hK : KeyT P kt)
    (hz : ∀ w, (zeroValue et).run P w = .ok (.int .i64 0) w) (hs : SP S w0 w ens) (hi : ens[i]? = some (Zs m L)) (h1 : k.1.length ≤ maxLen) (h2 : k.2.length ≤ maxLen)
    (next : ∀ (b : Nat) (w' : World), SP S w0 w' (ens.set i (Lv m L k b)) → K (Gv ρ dst (.tuple #[.int .i64 (G8 L k), .int .i64 (b : Int)])) w') : Qk P n B p o K ρ w := by
  obtain ⟨es, clock, h⟩ := hs.get hi
  obtain ⟨b, w', hr, hm, hok, hsz⟩ := Lx h hK hT hz h1 h2
  refine Qk.val ho hd (w' := w') (v := .tuple #[.int .i64 (G8 L k), .int .i64 (b : Int)]) (fun o hop => ?_) (next b w' ?_)
  · unfold execOp; rw [hop]
    simp only [hx, hix, Sem.run_bind, hr, Result.andThen_ok]
    rfl
  · refine hs.set hi (T := [m]) hm (fun k hk => hk) hok fun k hk => ⟨.inl hk, ?_⟩
    have := (hs.own.get hi).2 k hk
    omega
theorem Kv {T : TypeId} {x ix y : Operand} {i b : Nat} {v : Int} (ho : Dl (Qm B p) o ρ = some (.entryStore T x ix y, dst)) (hd : Jn n dst = true) (hx : opv ρ x = .map (some m)) (hix : opv ρ ix = .int .i64 (b : Int)) (hy : opv ρ y = .int .i64 v)
    (hs : SP S w0 w ens) (hi : ens[i]? = some (Lv m L k b)) (h1 : k.1.length ≤ maxLen) (h2 : k.2.length ≤ maxLen)
    (next : ∀ (w' : World), SP S w0 w' (ens.set i (Zs m (Mm L k v))) → K (Gv ρ dst undef) w') : Qk P n B p o K ρ w := by
  obtain ⟨w', hr, hm, hok, hsz⟩ := Ly (T := T) (P := P) (v := v) (hs.get hi) h1 h2
  refine Ej ho hd (w' := w') (fun o hop => ?_) (next w' ?_)
  · unfold execOp; rw [hop]
    simp only [hx, hix, hy, Sem.run_bind, hr, Result.andThen_ok]
    rfl
  · refine hs.set hi (T := [m]) hm (fun k hk => hk) hok fun k hk => ⟨.inl hk, ?_⟩
    have := (hs.own.get hi).2 k hk
    omega
end
theorem Kz {a b : List UInt8} (h : (Nat.ble (List.length a) 140737488355328 && Nat.ble (List.length b) 140737488355328) = true) : a.length ≤ maxLen ∧ b.length ≤ maxLen := by
  rw [Bool.and_eq_true] at h
  have hm : 140737488355328 ≤ maxLen := by decide
  exact ⟨Nat.le_trans (Nat.le_of_ble_eq_true h.1) hm, Nat.le_trans (Nat.le_of_ble_eq_true h.2) hm⟩
theorem B0 : KeyT Tryz.prog 83 := by
  have hA : ArrKey Tryz.prog 83 9 2 := ⟨by kernel_rfl, by kernel_rfl, by kernel_rfl, by kernel_rfl⟩
  refine ⟨hA.law, fun k h1 h2 => ?_⟩
  have hs1 : (⟨k.1.toArray⟩ : ByteArray).size ≤ maxLen := by rw [Rx]; exact h1
  have hs2 : (⟨k.2.toArray⟩ : ByteArray).size ≤ maxLen := by rw [Rx]; exact h2
  unfold keyOf
  rw [hA.hu]
  have hkt : Tryz.prog.keyType 83 = true := by kernel_rfl
  have hfm : (Hl k).formed Tryz.prog 83 = true := by kernel_rfl
  simp only [hkt, hfm, Bool.and_self, if_true]
  have hkl : ∃ ls, Tryz.prog.keyLits (Tryz.prog.types.size + 1) 83 (Hl k).cells.toList = some ls := by
    obtain ⟨N, hN⟩ : ∃ N, Tryz.prog.types.size = N + 1 := ⟨Tryz.prog.types.size - 1, by kernel_rfl⟩
    rw [hN]
    unfold Program.keyLits
    rw [hA.hu]
    simp only [hA.size, hA.one]
    have hst : Tryz.prog.underlying 9 = some .string := by kernel_rfl
    have e1 : Tryz.prog.keyLits (N + 1) 9 [.string ⟨k.1.toArray⟩] = some [.string k.1] := by
      unfold Program.keyLits
      rw [hst]
      simp [hs1]
    have e2 : Tryz.prog.keyLits (N + 1) 9 [.string ⟨k.2.toArray⟩] = some [.string k.2] := by
      unfold Program.keyLits
      rw [hst]
      simp [hs2]
    refine ⟨[.string k.1, .string k.2], ?_⟩
    simp [Hl, Value.cells, List.range_succ, e1, e2]
  obtain ⟨ls, hls⟩ := hkl
  exact ⟨_, by rw [hls]; rfl⟩
end Go.Proofs.YtmgfanhcdfobhaaGreatDoor
namespace Go.Proofs.YtmgfanhcdfobhaaGreatDoor
abbrev KeyL := List UInt8 × List UInt8
theorem mget_nil (k : KeyL) : G8 [] k = 0 := rfl
theorem Co (e : KeyL × Int) (L : N5) (k : KeyL) : G8 (e :: L) k = if e.1 = k then e.2 else G8 L k := by
  unfold G8
  rw [List.findIdx?_cons]
  by_cases h : e.1 = k
  · rw [if_pos h, if_pos (by simpa using h)]
    simp [List.getD]
  · rw [if_neg h, if_neg (by simpa using h)]
    cases hf : L.findIdx? (fun e => e.1 == k) with
    | none => rfl
    | some j => simp [List.getD]
theorem mset_nil (k : KeyL) (v : Int) : Mm [] k v = [(k, v)] := rfl
theorem mset_cons (e : KeyL × Int) (L : N5) (k : KeyL) (v : Int) : Mm (e :: L) k v = if e.1 = k then (k, v) :: L else e :: Mm L k v := by
  unfold Mm
  rw [List.findIdx?_cons]
  by_cases h : e.1 = k
  · rw [if_pos h, if_pos (by simpa using h)]
    simp
  · rw [if_neg h, if_neg (by simpa using h)]
    cases hf : L.findIdx? (fun e => e.1 == k) with
    | none => simp
    | some j => simp
theorem Hn : ∀ (L : N5) (k k' : KeyL) (v : Int), G8 (Mm L k v) k' = if k = k' then v else G8 L k'
  | [], k, k', v => by
    rw [mset_nil, Co]
  | e :: L, k, k', v => by
    rw [mset_cons]
    by_cases h : e.1 = k
    · rw [if_pos h, Co, Co, h]
      by_cases h2 : k = k'
      · rw [if_pos h2, if_pos h2]
      · rw [if_neg h2, if_neg h2, if_neg h2]
    · rw [if_neg h, Co, Co, Hn L k k' v]
      by_cases h2 : e.1 = k'
      · rw [if_pos h2, if_pos h2, if_neg (fun h3 => h (h2.trans h3.symm))]
      · rw [if_neg h2, if_neg h2]
end Go.Proofs.YtmgfanhcdfobhaaGreatDoor
namespace Go.Proofs.YtmgfanhcdfobhaaGreatDoor
open Go.RowKit
def Gi (a : (List UInt8)) (c : Int) (d : Int) (e : (List (Int × Int))) (f : (List ((List UInt8) × (List UInt8) × Int))) (b : (List UInt8)) : Option (Bool) :=
  (some ((a == b)))
set_option maxRecDepth 100000 in
set_option maxHeartbeats 4000000 in
theorem Cx (A5 : Option Addr) (c6 : Nat) (A9 : Option Addr) (j : Nat) (l : Nat) (c : (List UInt8)) (m : Int) (o : Int) (h : (List (Int × Int))) (i : (List ((List UInt8) × (List UInt8) × Int))) (f : (List UInt8)) (w0 : World) (u : RdT (Qf (Qd .u32) (Qd .i64)) w0 A5 c6 h) (w : RdT (Qf Qs (Qf Qs (Qd .i64))) w0 A9 j i) (hg13 : w0.heap[l]? = some (.cells #[(.string ⟨List.toArray f⟩)] 9 (0, 0))) (r : (Bool)) (H : Gi c m o h i f = some r) :
  Calls Tryz.prog 88 #[(.agg #[(.string ⟨List.toArray c⟩), (.int .i64 m), (.int .i64 o), (.slice A5 (List.length h) c6), (.slice A9 (List.length i) j)]), (pt l 0)] w0 (fun e w' => e = .returned (.bool r) ∧ SP [] w0 w' []) := by
 unfold Gi at H
 refine Qu (n := 8) Tryz.func88 K K K ?_
 have s := Q1 [] w0
 refine aQ ?_
 refine aR ?_
 refine iS 1 ?_
 refine V6 (t := 44) (x := (.tmp 0)) (v := (.agg #[(.string ⟨List.toArray c⟩), (.int .i64 m), (.int .i64 o), (.slice A5 (List.length h) c6), (.slice A9 (List.length i) j)])) (d := (some 2)) (k := 0) K rfl K s ?_
 intro q z p
 refine iR 1 2 [(3, (.bool false))] ?_
 refine iF ?_
 refine aQ ?_
 refine aR ?_
 refine iR 1 1 [(4, (pt q 0))] ?_
 refine iS 2 ?_
 refine sL 9 4 q 0 0 (.string ⟨List.toArray c⟩) 5 p rfl ?_
 refine iS 3 ?_
 refine H3 (t := 9) (t' := 9) (x := (.tmp 1)) (g := l) (off := 0) (cs := #[(.string ⟨List.toArray f⟩)]) (v := (.string ⟨List.toArray f⟩)) (d := (some 6)) (k := 2) K rfl K (Ek hg13 (SP.keeps p)) K ?_
 refine iS 4 ?_
 refine Vt (op := .eql) (T := 9) (T' := 9) (x := (.tmp 5)) (y := (.tmp 6)) (a := c) (b := f) (r := (.bool (c == f))) (d := (some 7)) (k := 3) K rfl K K rfl ?_
 refine iR 1 5 [(3, (.bool (c == f)))] ?_
 refine iF ?_
 refine At.ret K ?_
 refine ⟨(.bool (c == f)), K, ?_⟩
 obtain rfl := Qh H
 exact ⟨rfl, SP.sel p [] rfl rfl⟩
def Nv (e : Int) (f : Int) (g : Int) (h : Int) (b : (List Qi)) (d : (List UInt8)) : Option ((List UInt8) × Int × Int × (List (Int × Int)) × (List ((List UInt8) × (List UInt8) × Int)) × Bool) :=
  ((Vh b (fun y0 y1 y2 y3 y4 => Gi y0 y1 y2 y3 y4 d)).bind fun c => (cond (decide (c < 0)) (some (([] : List UInt8), 0, 0, ([] : List (Int × Int)), ([] : List ((List UInt8) × (List UInt8) × Int)), false)) ((idx b c).bind fun a => (some (a.1, a.2.1, a.2.2.1, a.2.2.2.1, a.2.2.2.2, true)))))
set_option maxRecDepth 100000 in
set_option maxHeartbeats 4000000 in
theorem Ro {R : World → Prop} (A6 : Option Addr) (c7 : Nat) (a1 : Int) (a2 : Int) (a3 : Int) (a4 : Int) (d9 : (List Vl)) (j : (List UInt8)) (w0 : World) (hR : ∀ w, Below w0.heap.size w0 w → R w) (m : ∀ w, R w → (dDS Ua Eh).ok w (A6, c7, d9)) (r : ((List UInt8) × Int × Int × (List (Int × Int)) × (List ((List UInt8) × (List UInt8) × Int)) × Bool)) (H : Nv a1 a2 a3 a4 (List.map stT d9) j = some r) :
  Calls Tryz.prog 67 #[(.agg #[(.int .i64 a1), (.int .i64 a2), (.int .i64 a3), (.int .i64 a4), (.slice A6 (List.length (List.map stT d9)) c7)]), (.string ⟨List.toArray j⟩)] w0 (fun e w' => ∃ (a8 : Option Addr) (a9 : Nat) (b0 : Option Addr) (b1 : Nat), e = .returned (.tuple #[(.agg #[(.string ⟨List.toArray r.1⟩), (.int .i64 r.2.1), (.int .i64 r.2.2.1), (.slice a8 (List.length r.2.2.2.1) a9), (.slice b0 (List.length r.2.2.2.2.1) b1)]), (.bool r.2.2.2.2.2)]) ∧ (∀ w, R w → RdT (Qf (Qd .u32) (Qd .i64)) w a8 a9 r.2.2.2.1) ∧ (∀ w, R w → RdT (Qf Qs (Qf Qs (Qd .i64))) w b0 b1 r.2.2.2.2.1) ∧ SP [] w0 w' []) := by
 unfold Nv at H
 refine Qu (n := 19) Tryz.func67 K K K ?_
 have b8 := Q1 [] w0
 refine aQ ?_
 refine aR ?_
 refine iS 1 ?_
 refine V6 (t := 24) (x := (.tmp 0)) (v := (.agg #[(.int .i64 a1), (.int .i64 a2), (.int .i64 a3), (.int .i64 a4), (.slice A6 (List.length (List.map stT d9)) c7)])) (d := (some 2)) (k := 0) K rfl K b8 ?_
 intro q c5 b9
 refine iS 2 ?_
 refine V6 (t := 9) (x := (.tmp 1)) (v := (.string ⟨List.toArray j⟩)) (d := (some 3)) (k := 1) K rfl K b9 ?_
 intro s c6 c0
 refine iS 3 ?_
 refine Qk.alloc (t := 44) (z := (.agg #[(.string ⟨List.toArray ([] : List UInt8)⟩), (.int .i64 0), (.int .i64 0), (.slice none (List.length ([] : List (Int × Int))) 0), (.slice none (List.length ([] : List ((List UInt8) × (List UInt8) × Int))) 0)])) (d := (some 4)) (k := 2) K rfl K c0 ?_
 intro u a5 a0
 refine iR 1 4 [(5, (.bool false))] ?_
 refine iF ?_
 refine aQ ?_
 refine aR ?_
 refine iR 1 1 [(7, (pt q 4))] ?_
 refine iS 2 ?_
 refine sL 22 7 q 4 0 (.slice A6 (List.length (List.map stT d9)) c7) 8 a0 rfl ?_
 refine iR 1 3 [(9, (.func (.func 88) #[] #[(pt s 0)]))] ?_
 obtain ⟨h, c1, H⟩ := Qe H
 refine iS 4 ?_
 refine cF 76 #[(.tmp 8), (.tmp 9)] #[22, 102] 10 Tryz.call76 (Yw A6 c7 88 #[(pt s 0)] d9 (fun y0 y1 y2 y3 y4 => Gi y0 y1 y2 y3 y4 j) a5 (m a5 (hR _ (SP.keeps a0))) Tryz.call88 (fun y0 y1 y2 y3 y4 z w Ay3 cy3 Ay4 cy4 hw hy3 hy4 hz => Cx Ay3 cy3 Ay4 cy4 s y0 y1 y2 y3 y4 j w hy3 hy4 (Ek (show a5.heap[s]? = some (.cells #[(.string ⟨List.toArray j⟩)] 9 (0, 0)) from SP.get a0 (i := 1) rfl) hw) z hz) h c1) ?_
 rintro e b2 ⟨rfl, b3⟩
 refine ⟨_, rfl, ?_⟩
 have p := SP.call a0 b3
 clear b3
 refine iR 1 5 [(6, (.int .i64 h))] ?_
 refine iF ?_
 refine aQ ?_
 refine aQ ?_
 refine aR ?_
 refine iR 2 2 [(11, (.int .i64 h)), (12, (.bool (decide (h < 0))))] ?_
 refine iF ?_
 refine Zk K (o := (.tmp 12)) K (b := (decide (h < 0))) K (fun a6 => ?_) (fun a6 => ?_)
 ·have H := ct H a6
  refine aQ ?_
  refine aR ?_
  refine iR 1 1 [(13, (.agg #[(.string ⟨List.toArray ([] : List UInt8)⟩), (.int .i64 0), (.int .i64 0), (.slice none (List.length ([] : List (Int × Int))) 0), (.slice none (List.length ([] : List ((List UInt8) × (List UInt8) × Int))) 0)]))] ?_
  refine iS 2 ?_
  refine Qk.store (t := 44) (x := (.tmp 4)) (y := (.tmp 13)) (g := u) (off := 0) (i := 2) (v := (.agg #[(.string ⟨List.toArray ([] : List UInt8)⟩), (.int .i64 0), (.int .i64 0), (.slice none (List.length ([] : List (Int × Int))) 0), (.slice none (List.length ([] : List ((List UInt8) × (List UInt8) × Int))) 0)])) (cs' := #[(.string ⟨List.toArray ([] : List UInt8)⟩), (.int .i64 0), (.int .i64 0), (.slice none (List.length ([] : List (Int × Int))) 0), (.slice none (List.length ([] : List ((List UInt8) × (List UInt8) × Int))) 0)]) (d := none) (k := 1) K rfl K K p rfl K ?_
  intro c8 b4
  refine iR 1 3 [(5, (.bool false))] ?_
  refine iF ?_
  refine At.ret K ?_
  refine ⟨(.tuple #[(.agg #[(.string ⟨List.toArray ([] : List UInt8)⟩), (.int .i64 0), (.int .i64 0), (.slice none (List.length ([] : List (Int × Int))) 0), (.slice none (List.length ([] : List ((List UInt8) × (List UInt8) × Int))) 0)]), (.bool false)]), Ig K (Dz (a := 4) (t := 44) (g := u) (off := 0) K (SP.get b4 (i := 2) rfl) K) (En (t := 5) K), ?_⟩
  obtain rfl := Qh H
  exact ⟨none, 0, none, 0, rfl, (fun w _ => RdT.nil (Qf (Qd .u32) (Qd .i64)) w), (fun w _ => RdT.nil (Qf Qs (Qf Qs (Qd .i64))) w), SP.sel b4 [] rfl rfl⟩
 ·have H := cf H a6
  refine At.skip K ?_
  refine aQ ?_
  refine aR ?_
  refine iR 1 1 [(14, (pt q 4))] ?_
  refine iS 2 ?_
  refine sL 22 14 q 4 0 (.slice A6 (List.length (List.map stT d9)) c7) 15 p rfl ?_
  refine iR 1 3 [(16, (.int .i64 h))] ?_
  obtain ⟨f, b5, b6, a7, H⟩ := G1 H
  refine iS 4 ?_
  refine Ug stT (e := Ua) (l := d9) (A := A6) (c := c7) (T := 22) (E := 44) (x := (.tmp 15)) (ix := (.tmp 16)) (ki := .i64) (iz := h) (d := (some 17)) (k := 3) K rfl K K K K ((fun w hm => (Ut (m w hm))) b2 (hR _ (SP.keeps p))) b5 b6 ?_
  intro c2 c3 c4 c9 hc46
  refine iS 5 ?_
  refine Qk.cells (t := 44) (x := (.tmp 17)) (b := c2) (off := (c3 + Int.toNat h * Ua.sz)) (xs := [(.string ⟨List.toArray (stT f).1⟩), (.int .i64 (stT f).2.1), (.int .i64 (stT f).2.2.1), (.slice f.2.2.2.1.1 (List.length (stT f).2.2.2.1) f.2.2.2.1.2.1), (.slice f.2.2.2.2.1 (List.length (stT f).2.2.2.2) f.2.2.2.2.2.1)]) (d := (some 18)) (k := 4) K rfl K K K (Z2 (e := Ua) (Qg ((fun w hm => (Ut (m w hm))) b2 (hR _ (SP.keeps p))) c4 b5 b6) a7 rfl) ?_
  refine iS 6 ?_
  refine Qk.store (t := 44) (x := (.tmp 4)) (y := (.tmp 18)) (g := u) (off := 0) (i := 2) (v := (.agg #[(.string ⟨List.toArray (stT f).1⟩), (.int .i64 (stT f).2.1), (.int .i64 (stT f).2.2.1), (.slice f.2.2.2.1.1 (List.length (stT f).2.2.2.1) f.2.2.2.1.2.1), (.slice f.2.2.2.2.1 (List.length (stT f).2.2.2.2) f.2.2.2.2.2.1)])) (cs' := #[(.string ⟨List.toArray (stT f).1⟩), (.int .i64 (stT f).2.1), (.int .i64 (stT f).2.2.1), (.slice f.2.2.2.1.1 (List.length (stT f).2.2.2.1) f.2.2.2.1.2.1), (.slice f.2.2.2.2.1 (List.length (stT f).2.2.2.2) f.2.2.2.2.2.1)]) (d := none) (k := 5) K rfl K K p rfl K ?_
  intro d0 b7
  refine iR 1 7 [(5, (.bool true))] ?_
  refine iF ?_
  refine At.ret K ?_
  refine ⟨(.tuple #[(.agg #[(.string ⟨List.toArray (stT f).1⟩), (.int .i64 (stT f).2.1), (.int .i64 (stT f).2.2.1), (.slice f.2.2.2.1.1 (List.length (stT f).2.2.2.1) f.2.2.2.1.2.1), (.slice f.2.2.2.2.1 (List.length (stT f).2.2.2.2) f.2.2.2.2.2.1)]), (.bool true)]), Ig K (Dz (a := 4) (t := 44) (g := u) (off := 0) K (SP.get b7 (i := 2) rfl) K) (En (t := 5) K), ?_⟩
  obtain rfl := Qh H
  exact ⟨f.2.2.2.1.1, f.2.2.2.1.2.1, f.2.2.2.2.1, f.2.2.2.2.2.1, rfl, (fun w hm => (Ut ((fun w hm => (dp1 (dp2 (dp2 (dp2 (D7 (m w hm) a7)))))) w hm))), (fun w hm => (Ut ((fun w hm => (dp2 (dp2 (dp2 (dp2 (D7 (m w hm) a7)))))) w hm))), SP.sel b7 [] rfl rfl⟩
def N3 (a : (List UInt8)) (b : (List UInt8)) (c : Int) (c6 : (List UInt8)) : Option (Bool) :=
  (some ((a == c6)))
set_option maxRecDepth 100000 in
set_option maxHeartbeats 4000000 in
theorem Cp (g4 : Nat) (c : (List UInt8)) (f : (List UInt8)) (h : Int) (c6 : (List UInt8)) (w0 : World) (hg5 : w0.heap[g4]? = some (.cells #[(.string ⟨List.toArray c6⟩)] 9 (0, 0))) (r : (Bool)) (H : N3 c f h c6 = some r) :
  Calls Tryz.prog 90 #[(.agg #[(.string ⟨List.toArray c⟩), (.string ⟨List.toArray f⟩), (.int .i64 h)]), (pt g4 0)] w0 (fun e w' => e = .returned (.bool r) ∧ SP [] w0 w' []) := by
 unfold N3 at H
 refine Qu (n := 8) Tryz.func90 K K K ?_
 have j := Q1 [] w0
 refine aQ ?_
 refine aR ?_
 refine iS 1 ?_
 refine V6 (t := 48) (x := (.tmp 0)) (v := (.agg #[(.string ⟨List.toArray c⟩), (.string ⟨List.toArray f⟩), (.int .i64 h)])) (d := (some 2)) (k := 0) K rfl K j ?_
 intro g7 w8 i
 refine iR 1 2 [(3, (.bool false))] ?_
 refine iF ?_
 refine aQ ?_
 refine aR ?_
 refine iR 1 1 [(4, (pt g7 0))] ?_
 refine iS 2 ?_
 refine sL 9 4 g7 0 0 (.string ⟨List.toArray c⟩) 5 i rfl ?_
 refine iS 3 ?_
 refine H3 (t := 9) (t' := 9) (x := (.tmp 1)) (g := g4) (off := 0) (cs := #[(.string ⟨List.toArray c6⟩)]) (v := (.string ⟨List.toArray c6⟩)) (d := (some 6)) (k := 2) K rfl K (Ek hg5 (SP.keeps i)) K ?_
 refine iS 4 ?_
 refine Vt (op := .eql) (T := 9) (T' := 9) (x := (.tmp 5)) (y := (.tmp 6)) (a := c) (b := c6) (r := (.bool (c == c6))) (d := (some 7)) (k := 3) K rfl K K rfl ?_
 refine iR 1 5 [(3, (.bool (c == c6)))] ?_
 refine iF ?_
 refine At.ret K ?_
 refine ⟨(.bool (c == c6)), K, ?_⟩
 obtain rfl := Qh H
 exact ⟨rfl, SP.sel i [] rfl rfl⟩
def U8 (e : (List UInt8)) (f : Int) (g : Int) (h : (List (Int × Int))) (b : (List ((List UInt8) × (List UInt8) × Int))) (d : (List UInt8)) : Option ((List UInt8) × (List UInt8) × Int × Bool) :=
  ((Vk b (fun y0 y1 y2 => N3 y0 y1 y2 d)).bind fun c => (cond (decide (c < 0)) (some (([] : List UInt8), ([] : List UInt8), 0, false)) ((idx b c).bind fun a => (some (a.1, a.2.1, a.2.2, true)))))
set_option maxRecDepth 100000 in
set_option maxHeartbeats 4000000 in
theorem G9 (A5 : Option Addr) (c6 : Nat) (A9 : Option Addr) (m : Nat) (a3 : (List UInt8)) (a4 : Int) (a5 : Int) (s : (List (Int × Int))) (h : (List ((List UInt8) × (List UInt8) × Int))) (p : (List UInt8)) (w0 : World) (c2 : RdT (Qf (Qd .u32) (Qd .i64)) w0 A5 c6 s) (a6 : RdT (Qf Qs (Qf Qs (Qd .i64))) w0 A9 m h) (r : ((List UInt8) × (List UInt8) × Int × Bool)) (H : U8 a3 a4 a5 s h p = some r) :
  Calls Tryz.prog 68 #[(.agg #[(.string ⟨List.toArray a3⟩), (.int .i64 a4), (.int .i64 a5), (.slice A5 (List.length s) c6), (.slice A9 (List.length h) m)]), (.string ⟨List.toArray p⟩)] w0 (fun e w' => e = .returned (.tuple #[(.agg #[(.string ⟨List.toArray r.1⟩), (.string ⟨List.toArray r.2.1⟩), (.int .i64 r.2.2.1)]), (.bool r.2.2.2)]) ∧ SP [] w0 w' []) := by
 unfold U8 at H
 refine Qu (n := 19) Tryz.func68 K K K ?_
 have b4 := Q1 [] w0
 refine aQ ?_
 refine aR ?_
 refine iS 1 ?_
 refine V6 (t := 44) (x := (.tmp 0)) (v := (.agg #[(.string ⟨List.toArray a3⟩), (.int .i64 a4), (.int .i64 a5), (.slice A5 (List.length s) c6), (.slice A9 (List.length h) m)])) (d := (some 2)) (k := 0) K rfl K b4 ?_
 intro u c3 b5
 refine iS 2 ?_
 refine V6 (t := 9) (x := (.tmp 1)) (v := (.string ⟨List.toArray p⟩)) (d := (some 3)) (k := 1) K rfl K b5 ?_
 intro a0 c4 b6
 refine iS 3 ?_
 refine Qk.alloc (t := 48) (z := (.agg #[(.string ⟨List.toArray ([] : List UInt8)⟩), (.string ⟨List.toArray ([] : List UInt8)⟩), (.int .i64 0)])) (d := (some 4)) (k := 2) K rfl K b6 ?_
 intro a1 a8 a2
 refine iR 1 4 [(5, (.bool false))] ?_
 refine iF ?_
 refine aQ ?_
 refine aR ?_
 refine iR 1 1 [(7, (pt u 4))] ?_
 refine iS 2 ?_
 refine sL 42 7 u 4 0 (.slice A9 (List.length h) m) 8 a2 rfl ?_
 refine iR 1 3 [(9, (.func (.func 90) #[] #[(pt a0 0)]))] ?_
 obtain ⟨j, b7, H⟩ := Qe H
 refine iS 4 ?_
 refine cF 89 #[(.tmp 8), (.tmp 9)] #[42, 117] 10 Tryz.call89 (Y6 A9 m 90 #[(pt a0 0)] h (fun y0 y1 y2 => N3 y0 y1 y2 p) a8 (RdT.sp a6 a2) Tryz.call90 (fun y0 y1 y2 z w  hw  hz => Cp a0 y0 y1 y2 p w (Ek (show a8.heap[a0]? = some (.cells #[(.string ⟨List.toArray p⟩)] 9 (0, 0)) from SP.get a2 (i := 1) rfl) hw) z hz) j b7) ?_
 rintro e c5 ⟨rfl, a9⟩
 refine ⟨_, rfl, ?_⟩
 have q := SP.call a2 a9
 clear a9
 refine iR 1 5 [(6, (.int .i64 j))] ?_
 refine iF ?_
 refine aQ ?_
 refine aQ ?_
 refine aR ?_
 refine iR 2 2 [(11, (.int .i64 j)), (12, (.bool (decide (j < 0))))] ?_
 refine iF ?_
 refine Zk K (o := (.tmp 12)) K (b := (decide (j < 0))) K (fun a7 => ?_) (fun a7 => ?_)
 ·have H := ct H a7
  refine aQ ?_
  refine aR ?_
  refine iR 1 1 [(13, (.agg #[(.string ⟨List.toArray ([] : List UInt8)⟩), (.string ⟨List.toArray ([] : List UInt8)⟩), (.int .i64 0)]))] ?_
  refine iS 2 ?_
  refine Qk.store (t := 48) (x := (.tmp 4)) (y := (.tmp 13)) (g := a1) (off := 0) (i := 2) (v := (.agg #[(.string ⟨List.toArray ([] : List UInt8)⟩), (.string ⟨List.toArray ([] : List UInt8)⟩), (.int .i64 0)])) (cs' := #[(.string ⟨List.toArray ([] : List UInt8)⟩), (.string ⟨List.toArray ([] : List UInt8)⟩), (.int .i64 0)]) (d := none) (k := 1) K rfl K K q rfl K ?_
  intro w32 b0
  refine iR 1 3 [(5, (.bool false))] ?_
  refine iF ?_
  refine At.ret K ?_
  refine ⟨(.tuple #[(.agg #[(.string ⟨List.toArray ([] : List UInt8)⟩), (.string ⟨List.toArray ([] : List UInt8)⟩), (.int .i64 0)]), (.bool false)]), Ig K (Dz (a := 4) (t := 48) (g := a1) (off := 0) K (SP.get b0 (i := 2) rfl) K) (En (t := 5) K), ?_⟩
  obtain rfl := Qh H
  exact ⟨rfl, SP.sel b0 [] rfl rfl⟩
 ·have H := cf H a7
  refine At.skip K ?_
  refine aQ ?_
  refine aR ?_
  refine iR 1 1 [(14, (pt u 4))] ?_
  refine iS 2 ?_
  refine sL 42 14 u 4 0 (.slice A9 (List.length h) m) 15 q rfl ?_
  refine iR 1 3 [(16, (.int .i64 j))] ?_
  obtain ⟨f, b1, b2, b8, H⟩ := Qn H
  refine iS 4 ?_
  refine Ve (e := (Qf Qs (Qf Qs (Qd .i64)))) (l := h) (A := A9) (c := m) (T := 42) (E := 48) (x := (.tmp 15)) (ix := (.tmp 16)) (ki := .i64) (iz := j) (d := (some 17)) (k := 3) K rfl K K K K (RdT.sp a6 q) b1 b2 ?_
  intro b9 c0 c1 c7 hc41
  refine iS 5 ?_
  refine Qk.cells (t := 48) (x := (.tmp 17)) (b := b9) (off := (c0 + Int.toNat j * (Qf Qs (Qf Qs (Qd .i64))).sz)) (xs := [(.string ⟨List.toArray f.1⟩), (.string ⟨List.toArray f.2.1⟩), (.int .i64 f.2.2)]) (d := (some 18)) (k := 4) K rfl K K K (Z2 (e := (Qf Qs (Qf Qs (Qd .i64)))) (Qg (RdT.sp a6 q) c1 b1 b2) b8 rfl) ?_
  refine iS 6 ?_
  refine Qk.store (t := 48) (x := (.tmp 4)) (y := (.tmp 18)) (g := a1) (off := 0) (i := 2) (v := (.agg #[(.string ⟨List.toArray f.1⟩), (.string ⟨List.toArray f.2.1⟩), (.int .i64 f.2.2)])) (cs' := #[(.string ⟨List.toArray f.1⟩), (.string ⟨List.toArray f.2.1⟩), (.int .i64 f.2.2)]) (d := none) (k := 5) K rfl K K q rfl K ?_
  intro c8 b3
  refine iR 1 7 [(5, (.bool true))] ?_
  refine iF ?_
  refine At.ret K ?_
  refine ⟨(.tuple #[(.agg #[(.string ⟨List.toArray f.1⟩), (.string ⟨List.toArray f.2.1⟩), (.int .i64 f.2.2)]), (.bool true)]), Ig K (Dz (a := 4) (t := 48) (g := a1) (off := 0) K (SP.get b3 (i := 2) rfl) K) (En (t := 5) K), ?_⟩
  obtain rfl := Qh H
  exact ⟨rfl, SP.sel b3 [] rfl rfl⟩
end Go.Proofs.YtmgfanhcdfobhaaGreatDoor
namespace Go.Proofs.YtmgfanhcdfobhaaGreatDoor
open Go.RowKit
def Nw (c : UInt8 → Int → Option (Bool)) (p1 : (List UInt8)) (p5 : (List UInt8)) (b : UInt8) (a : Int) : Option (Bool) :=
  (cond (decide (a < ((List.length p1 : Nat) : Int))) ((idx p1 a).bind fun d => ((idx p5 a).bind fun e => (c (Dm (bOr .u8 ((b).toNat : Int) (V1 .u8 ((d).toNat : Int) ((e).toNat : Int)))) (IntKind.wrap .i64 (a + 1))))) (some ((((b).toNat : Int) == 0))))
def Nx (p1 : (List UInt8)) (p5 : (List UInt8)) : Nat → UInt8 → Int → Option (Bool)
  | 0, _, _ => none
  | f + 1, a, b => Nw  (Nx p1 p5 f) p1 p5 a b
def Bf (p1 : (List UInt8)) (p5 : (List UInt8)) : Option (Bool) :=
  (cond (((List.length p1 : Nat) : Int) != ((List.length p5 : Nat) : Int)) (some (false)) (Nx p1 p5 Zj (0 : UInt8) 0))
set_option maxRecDepth 100000 in
set_option maxHeartbeats 4000000 in
theorem Ho (A2 : Option Addr) (c3 : Nat) (A6 : Option Addr) (c7 : Nat) (p1 : (List UInt8)) (p5 : (List UInt8)) (w0 : World) (p : RdT eU8 w0 A2 c3 p1) (q : RdT eU8 w0 A6 c7 p5) (r : (Bool)) (H : Bf p1 p5 = some r) :
  Calls Tryz.prog 52 #[(.slice A2 (List.length p1) c3), (.slice A6 (List.length p5) c7)] w0 (fun e w' => e = .returned (.bool r) ∧ SP [] w0 w' []) := by
 unfold Bf at H
 refine Qu (n := 31) Tryz.func52 K K K ?_
 have s := Q1 [] w0
 refine aQ ?_
 refine aR ?_
 refine iR 1 1 [(4, (.bool false))] ?_
 refine iF ?_
 refine aQ ?_
 refine aQ ?_
 refine aR ?_
 refine iR 5 5 [(7, (.slice A2 (List.length p1) c3)), (8, (.int .i64 ((List.length p1 : Nat) : Int))), (9, (.slice A6 (List.length p5) c7)), (10, (.int .i64 ((List.length p5 : Nat) : Int))), (11, (.bool (((List.length p1 : Nat) : Int) != ((List.length p5 : Nat) : Int))))] ?_
 refine iF ?_
 refine Zk K (o := (.tmp 11)) K (b := (((List.length p1 : Nat) : Int) != ((List.length p5 : Nat) : Int))) K (fun i => ?_) (fun i => ?_)
 ·have H := ct H i
  refine aQ ?_
  refine aR ?_
  refine iR 1 1 [(4, (.bool false))] ?_
  refine iF ?_
  refine At.ret K ?_
  refine ⟨(.bool false), K, ?_⟩
  obtain rfl := Qh H
  exact ⟨rfl, SP.sel s [] rfl rfl⟩
 ·have H := cf H i
  refine At.skip K ?_
  refine aQ ?_
  refine aR ?_
  refine iR 1 1 [(5, (.int .u8 0))] ?_
  refine iF ?_
  refine aQ ?_
  refine aQ ?_
  refine aR ?_
  refine iR 3 3 [(12, (.slice A2 (List.length p1) c3)), (13, (.int .i64 ((List.length p1 : Nat) : Int))), (14, (.int .i64 0))] ?_
  refine iF ?_
  refine Z1 K (id := 0) K ?_
  refine Nf K (fun f1 ρ w => ∃ (f : UInt8) (a : Int), V3 ρ [(0, (.slice A2 (List.length p1) c3)), (1, (.slice A6 (List.length p5) c7)), (5, (.int .u8 ((f).toNat : Int))), (13, (.int .i64 ((List.length p1 : Nat) : Int))), (14, (.int .i64 a))] ∧ SP [] w0 w [] ∧ Nx p1 p5 f1 f a = some r) (by rintro ρ w ⟨f, a, hk, hs, H⟩; cases H) ?_ Zj ?_
  ·rintro f1 ρ c2 ⟨f, a, hk, t, H⟩
   refine At.known [(0, (.slice A2 (List.length p1) c3)), (1, (.slice A6 (List.length p5) c7)), (5, (.int .u8 ((f).toNat : Int))), (13, (.int .i64 ((List.length p1 : Nat) : Int))), (14, (.int .i64 a))] hk ?_
   replace H := (show Nw (Nx p1 p5 f1) p1 p5 f a = some r from H)
   unfold Nw at H
   refine aQ ?_
   refine aR ?_
   refine iR 1 1 [(15, (.bool (decide (a < ((List.length p1 : Nat) : Int)))))] ?_
   refine iF ?_
   refine aQ ?_
   refine Zk K (o := (.tmp 15)) K (b := (decide (a < ((List.length p1 : Nat) : Int)))) K (fun m => ?_) (fun m => ?_)
   ·have H := ct H m
    refine At.skip K ?_
    refine aQ ?_
    refine Z1 K (id := 1) K ?_
    refine aQ ?_
    refine aR ?_
    refine iR 2 2 [(16, (.int .i64 a)), (6, (.int .i64 a))] ?_
    refine iF ?_
    obtain ⟨g, u, v, a1, H⟩ := Qn H
    obtain ⟨h, y, z, a2, H⟩ := Qn H
    refine aG [GEq (.int .u8 ((f).toNat : Int)), GEq (.slice A2 (List.length p1) c3), GEq (.int .i64 a), Vi A2 eU8.sz a, GEq (.int .u8 ((g).toNat : Int)), GEq (.slice A6 (List.length p5) c7), GEq (.int .i64 a), Vi A6 eU8.sz a, GEq (.int .u8 ((h).toNat : Int)), GEq (.int .u8 (V1 .u8 ((g).toNat : Int) ((h).toNat : Int))), GEq (.int .u8 (bOr .u8 ((f).toNat : Int) (V1 .u8 ((g).toNat : Int) ((h).toNat : Int)))), GEq (.int .u8 (bOr .u8 ((f).toNat : Int) (V1 .u8 ((g).toNat : Int) ((h).toNat : Int))))] [] (tG [] w0 [] [([], [])]) 12 0 ⟨trivial, SP.drew t⟩ ?_ ?_
    iterate 12 refine And.intro ?_ ?_
    exact trivial
    ·exact oV (hC (hS 5 (.int .u8 ((f).toNat : Int))) (h0)) (.int .u8 ((f).toNat : Int))
    ·exact oV (hC (hS 0 (.slice A2 (List.length p1) c3)) (h0)) (.slice A2 (List.length p1) c3)
    ·exact oV (hC (hS 6 (.int .i64 a)) (h0)) (.int .i64 a)
    ·refine oL 0 ?_
     ·rintro ρ' w' hs hah ⟨c4, a3⟩
      refine kM (kc (kA hah 1 18) (kc (kA hah 2 19) k0)) fun hkn => ?_
      refine Ve (e := eU8) (l := p1) (A := A2) (c := c3) (T := 52) (E := 5) (x := (.tmp 18)) (ix := (.tmp 19)) (ki := .i64) (iz := a) (d := (some 20)) (k := 3) K rfl K K K K (RdT.sp p a3) u v ?_
      intro a4 a5 a6 c5 hc131
      exact ⟨rfl, _, Qa hkn, ⟨a4, a5, a6, rfl⟩⟩
    ·refine oL 0 ?_
     ·rintro ρ' w' hs hah ⟨c6, a7⟩
      obtain ⟨a8, a9, b0, b1⟩ := hah 3 20 K
      refine kM (kc b1 k0) fun hkn => ?_
      refine sC 5 20 a8 (a9 + Int.toNat a * eU8.sz) (.int .u8 ((g).toNat : Int)) 21 (Qj (e := eU8) (Qg (RdT.sp p a7) b0 u v) a1 (j := 0) rfl) ?_
      exact eK hkn
    ·exact oV (hC (hS 1 (.slice A6 (List.length p5) c7)) (h0)) (.slice A6 (List.length p5) c7)
    ·exact oV (hC (hS 6 (.int .i64 a)) (h0)) (.int .i64 a)
    ·refine oL 0 ?_
     ·rintro ρ' w' hs hah ⟨c8, b2⟩
      refine kM (kc (kA hah 5 22) (kc (kA hah 6 23) k0)) fun hkn => ?_
      refine Ve (e := eU8) (l := p5) (A := A6) (c := c7) (T := 52) (E := 5) (x := (.tmp 22)) (ix := (.tmp 23)) (ki := .i64) (iz := a) (d := (some 24)) (k := 7) K rfl K K K K (RdT.sp q b2) y z ?_
      intro b3 b4 b5 c9 hc143
      exact ⟨rfl, _, Qa hkn, ⟨b3, b4, b5, rfl⟩⟩
    ·refine oL 0 ?_
     ·rintro ρ' w' hs hah ⟨d0, b6⟩
      obtain ⟨b7, b8, b9, c0⟩ := hah 7 24 K
      refine kM (kc c0 k0) fun hkn => ?_
      refine sC 5 24 b7 (b8 + Int.toNat a * eU8.sz) (.int .u8 ((h).toNat : Int)) 25 (Qj (e := eU8) (Qg (RdT.sp q b6) b9 y z) a2 (j := 0) rfl) ?_
      exact eK hkn
    ·exact oV (hC (hA 4 21) (hC (hA 8 25) (h0))) (.int .u8 (V1 .u8 ((g).toNat : Int) ((h).toNat : Int)))
    ·exact oV (hC (hA 0 17) (hC (hA 9 26) (h0))) (.int .u8 (bOr .u8 ((f).toNat : Int) (V1 .u8 ((g).toNat : Int) ((h).toNat : Int))))
    ·exact oV (hC (hA 10 27) (h0)) (.int .u8 (bOr .u8 ((f).toNat : Int) (V1 .u8 ((g).toNat : Int) ((h).toNat : Int))))
    ·rintro ρ' w' hs hf ⟨d1, a0⟩
     refine Q4 [(0, (.slice A2 (List.length p1) c3)), (1, (.slice A6 (List.length p5) c7)), (5, (.int .u8 (bOr .u8 ((f).toNat : Int) (V1 .u8 ((g).toNat : Int) ((h).toNat : Int))))), (13, (.int .i64 ((List.length p1 : Nat) : Int))), (14, (.int .i64 a))] ⟨(hs 0 K).trans K, (hs 1 K).trans K, hf 11 5 K, (hs 13 K).trans K, (hs 14 K).trans K, trivial⟩ ?_
     obtain ⟨d2, c1⟩ : ∃ x, w' = x := ⟨_, rfl⟩
     rw [c1] at a0 ⊢
     refine aR ?_
     refine iR 2 2 [(28, (.int .i64 (IntKind.wrap .i64 (a + 1)))), (14, (.int .i64 (IntKind.wrap .i64 (a + 1))))] ?_
     refine iF ?_
     exact ⟨(Dm (bOr .u8 ((f).toNat : Int) (V1 .u8 ((g).toNat : Int) ((h).toNat : Int)))), (IntKind.wrap .i64 (a + 1)), ⟨(by first | exact (by simp only [De (u8_or _ _)]; rfl) | rfl), (by first | exact (by simp only [De (u8_or _ _)]; rfl) | rfl), (by first | exact (by simp only [De (u8_or _ _)]; rfl) | rfl), (by first | exact (by simp only [De (u8_or _ _)]; rfl) | rfl), (by first | exact (by simp only [De (u8_or _ _)]; rfl) | rfl), trivial⟩, SP.sel a0 [] rfl rfl, H⟩
   ·have H := cf H m
    refine At.exit K (id := 0) K ?_
    refine aQ ?_
    refine aR ?_
    refine iR 3 3 [(29, (.int .u8 ((f).toNat : Int))), (30, (.bool (((f).toNat : Int) == 0))), (4, (.bool (((f).toNat : Int) == 0)))] ?_
    refine iF ?_
    refine At.ret K ?_
    refine ⟨(.bool (((f).toNat : Int) == 0)), K, ?_⟩
    obtain rfl := Qh H
    exact ⟨rfl, SP.sel t [] rfl rfl⟩
  ·exact ⟨(0 : UInt8), 0, ⟨K, K, K, K, K, trivial⟩, SP.sel s [] rfl rfl, H⟩
end Go.Proofs.YtmgfanhcdfobhaaGreatDoor
namespace Go.Proofs.YtmgfanhcdfobhaaGreatDoor
open Go.RowKit
def Ny (a : Int) (b : Int) (c : Int) (d : Int) (e : (List Qi)) : Option (Option (Int × Int × Int × Int × N5)) :=
  ((G3 a b c d e).bind fun f => (cond (!f) (some none) (some (some (a, b, c, d, ([] : N5))))))
set_option maxRecDepth 100000 in
set_option maxHeartbeats 4000000 in
theorem Uw (A6 : Option Addr) (c7 : Nat) (a : Int) (c : Int) (f : Int) (g : Int) (d9 : (List Vl)) (w0 : World) (hL : Ep w0) (y : (dDS Ua Eh).ok w0 (A6, c7, d9)) (r : (Option (Int × Int × Int × Int × N5))) (H : Ny a c f g (List.map stT d9) = some r) :
  Calls Tryz.prog 18 #[(.agg #[(.int .i64 a), (.int .i64 c), (.int .i64 f), (.int .i64 g), (.slice A6 (List.length (List.map stT d9)) c7)])] w0 (fun e w' => match r with | none => e = .returned (.pointer none) ∧ SP [] w0 w' [] | some o => ∃ (q : Nat) (s : Nat), e = .returned (pt q 0) ∧ SP [] w0 w' [Qv q 79 #[(.int .i64 o.1), (.int .i64 o.2.1), (.int .i64 o.2.2.1), (.int .i64 o.2.2.2.1), (.slice A6 (List.length (List.map stT d9)) c7), (.map (some s))], Zs s o.2.2.2.2]) := by
 unfold Ny at H
 refine Qu (n := 10) Tryz.func18 K K K ?_
 have z := Q1 [] w0
 refine aQ ?_
 refine aR ?_
 refine iS 1 ?_
 refine V6 (t := 24) (x := (.tmp 0)) (v := (.agg #[(.int .i64 a), (.int .i64 c), (.int .i64 f), (.int .i64 g), (.slice A6 (List.length (List.map stT d9)) c7)])) (d := (some 1)) (k := 0) K rfl K z ?_
 intro u w32 h
 refine iR 1 2 [(2, (.pointer none))] ?_
 refine iF ?_
 refine aQ ?_
 refine aQ ?_
 refine aR ?_
 refine iS 1 ?_
 refine sL 24 1 u 0 0 (.agg #[(.int .i64 a), (.int .i64 c), (.int .i64 f), (.int .i64 g), (.slice A6 (List.length (List.map stT d9)) c7)]) 3 h rfl ?_
 obtain ⟨i, a0, H⟩ := Qe H
 refine iS 2 ?_
 refine cF 43 #[(.tmp 3)] #[24] 4 Tryz.call43 (C9 A6 c7 a c f g d9 w32 (Yl hL (SP.keeps h)) (Dp.sp y h) i a0) ?_
 rintro e a3 ⟨rfl, w⟩
 refine ⟨_, rfl, ?_⟩
 have j := SP.call h w
 clear w
 refine iR 1 3 [(5, (.bool (!i)))] ?_
 refine iF ?_
 refine Zk K (o := (.tmp 5)) K (b := (!i)) K (fun l => ?_) (fun l => ?_)
 ·have H := ct H l
  refine aQ ?_
  refine aR ?_
  refine iR 1 1 [(2, (.pointer none))] ?_
  refine iF ?_
  refine At.ret K ?_
  refine ⟨(.pointer none), K, ?_⟩
  obtain rfl := Qh H
  exact ⟨rfl, SP.sel j [] rfl rfl⟩
 ·have H := cf H l
  refine At.skip K ?_
  refine aQ ?_
  refine aR ?_
  refine iS 1 ?_
  refine sL 24 1 u 0 0 (.agg #[(.int .i64 a), (.int .i64 c), (.int .i64 f), (.int .i64 g), (.slice A6 (List.length (List.map stT d9)) c7)]) 6 j rfl ?_
  refine iS 2 ?_
  refine Lz (T := 77) (dst := (some 7)) (o := 1) K rfl j ?_
  intro m a4 a1
  refine iR 1 3 [(8, (.agg #[(.int .i64 a), (.int .i64 c), (.int .i64 f), (.int .i64 g), (.slice A6 (List.length (List.map stT d9)) c7), (.map (some m))]))] ?_
  refine iS 4 ?_
  refine V6 (t := 79) (x := (.tmp 8)) (v := (.agg #[(.int .i64 a), (.int .i64 c), (.int .i64 f), (.int .i64 g), (.slice A6 (List.length (List.map stT d9)) c7), (.map (some m))])) (d := (some 9)) (k := 3) K rfl K a1 ?_
  intro p a5 a2
  refine iR 1 5 [(2, (pt p 0))] ?_
  refine iF ?_
  refine At.ret K ?_
  refine ⟨(pt p 0), K, ?_⟩
  obtain rfl := Qh H
  exact ⟨p, m, rfl, SP.sel a2 [2,1] rfl rfl⟩
def Ur (f : (List UInt8)) (g : (List UInt8)) (h : Int) (q5 : (List UInt8)) (q7 : (List UInt8)) (q9 : Int) (c : Int) (d : Int) (e : Int) (i : (List Qi)) (a : N5) (j : Bool) : Option (Int × Int × Int × Int × N5 × Bool) :=
  ((chk (Nat.ble (List.length q5) 140737488355328 && Nat.ble (List.length q7) 140737488355328)).bind fun _ => ((chk (Nat.ble (List.length q5) 140737488355328 && Nat.ble (List.length q7) 140737488355328)).bind fun _ => ((some (Mm a (q5, q7) (IntKind.wrap .i64 ((G8 a (q5, q7)) + 1)))).bind fun b => ((chk (Nat.ble (List.length q5) 140737488355328 && Nat.ble (List.length q7) 140737488355328)).bind fun _ => (some (q9, c, d, e, b, ((G8 b (q5, q7)) == 1)))))))
set_option maxRecDepth 100000 in
set_option maxHeartbeats 4000000 in
theorem Dj {S : List Nat} (g4 : Nat) (g6 : Nat) (g8 : Nat) (u : Option Addr) (a0 : Nat) (a : Nat) (f : Nat) (j : Nat) (a1 : (List UInt8)) (a2 : (List UInt8)) (a3 : Int) (q5 : (List UInt8)) (q7 : (List UInt8)) (q9 : Int) (a4 : Int) (a5 : Int) (a6 : Int) (q : (List Vl)) (c : N5) (a8 : Bool) (w0 : World) (hO : SP S w0 w0 [Qv g4 9 #[(.string ⟨List.toArray q5⟩)], Qv g6 9 #[(.string ⟨List.toArray q7⟩)], Qv g8 79 #[(.int .i64 q9), (.int .i64 a4), (.int .i64 a5), (.int .i64 a6), (.slice u (List.length (List.map stT q)) a0), (.map (some a))], Zs a c, Qv f 29 #[(pt g8 0)], Qv j 4 #[(.bool a8)]]) (e4 : ∀ w, Mod S w0 w → (dDS Ua Eh).ok w (u, a0, q)) (r : (Int × Int × Int × Int × N5 × Bool)) (H : Ur a1 a2 a3 q5 q7 q9 a4 a5 a6 (List.map stT q) c a8 = some r) :
  Calls Tryz.prog 46 #[(.agg #[(.string ⟨List.toArray a1⟩), (.string ⟨List.toArray a2⟩), (.int .i64 a3)]), (pt g4 0), (pt g6 0), (pt f 0), (pt j 0)] w0 (fun e w' => e = .returned (.tuple #[]) ∧ SP S w0 w' [Qv g4 9 #[(.string ⟨List.toArray q5⟩)], Qv g6 9 #[(.string ⟨List.toArray q7⟩)], Qv g8 79 #[(.int .i64 r.1), (.int .i64 r.2.1), (.int .i64 r.2.2.1), (.int .i64 r.2.2.2.1), (.slice u (List.length (List.map stT q)) a0), (.map (some a))], Zs a r.2.2.2.2.1, Qv f 29 #[(pt g8 0)], Qv j 4 #[(.bool r.2.2.2.2.2)]]) := by
 unfold Ur at H
 refine Qu (n := 26) Tryz.func46 K K K ?_
 have c0 := hO
 refine aQ ?_
 refine aR ?_
 refine iS 1 ?_
 refine V6 (t := 48) (x := (.tmp 0)) (v := (.agg #[(.string ⟨List.toArray a1⟩), (.string ⟨List.toArray a2⟩), (.int .i64 a3)])) (d := (some 5)) (k := 0) K rfl K c0 ?_
 intro b0 e5 b3
 refine iF ?_
 refine aQ ?_
 refine aR ?_
 refine iS 1 ?_
 refine sL 9 1 g4 0 0 (.string ⟨List.toArray q5⟩) 7 b3 rfl ?_
 refine iS 2 ?_
 refine sL 9 2 g6 0 1 (.string ⟨List.toArray q7⟩) 8 b3 rfl ?_
 refine iR 1 3 [(9, (.agg (Qc Qs ([q5, q7] : List (List UInt8))).toArray))] ?_
 refine iS 4 ?_
 refine Q5 (e := Qs) (l := (List.replicate 2 ([] : List UInt8))) (m := 2) (t := 83) (z := .agg (Qc Qs (List.replicate 2 ([] : List UInt8))).toArray) (d := (some 6)) (k := 3) K rfl K rfl rfl K b3 ?_
 intro p e6 c1
 refine iS 5 ?_
 refine Vf (e := Qs) (l := (List.replicate 2 ([] : List UInt8))) (l' := ([q5, q7] : List (List UInt8))) (m := 2) (t := 83) (x := (.tmp 6)) (y := (.tmp 9)) (g := p) (i := 7) (d := none) (k := 4) K rfl K K rfl c1 rfl K ?_
 intro e7 c2
 refine iF ?_
 refine aQ ?_
 obtain ⟨b1, H⟩ := V0 H
 obtain ⟨b2, H⟩ := V0 H
 obtain ⟨s, hyl137, H⟩ := Zg H
 refine aG [GEq (pt g8 0), GEq (pt g8 0), GEq (pt g8 5), GEq (.map (some a)), GEq (.agg (Qc Qs ([q5, q7] : List (List UInt8))).toArray), GEq (.int .i64 (G8 c (q5, q7))), GEq (.int .i64 (IntKind.wrap .i64 ((G8 c (q5, q7)) + 1))), E6, E6, E6] [7, 8, 9] [([], fun vs w => VL vs [] ∧ SP S w0 w [Qv g4 9 #[(.string ⟨List.toArray q5⟩)], Qv g6 9 #[(.string ⟨List.toArray q7⟩)], Qv g8 79 #[(.int .i64 q9), (.int .i64 a4), (.int .i64 a5), (.int .i64 a6), (.slice u (List.length (List.map stT q)) a0), (.map (some a))], Zs a c, Qv f 29 #[(pt g8 0)], Qv j 4 #[(.bool a8)], Qv b0 48 #[(.string ⟨List.toArray a1⟩), (.string ⟨List.toArray a2⟩), (.int .i64 a3)], Vj 83 Qs p 2 ([q5, q7] : List (List UInt8))]), ([7], fun vs w => ∃ (a9 : Nat), VL vs [(.tuple #[(.int .i64 (G8 c (q5, q7))), (.int .i64 ((a9 : Nat) : Int))])] ∧ SP S w0 w [Qv g4 9 #[(.string ⟨List.toArray q5⟩)], Qv g6 9 #[(.string ⟨List.toArray q7⟩)], Qv g8 79 #[(.int .i64 q9), (.int .i64 a4), (.int .i64 a5), (.int .i64 a6), (.slice u (List.length (List.map stT q)) a0), (.map (some a))], Lv a c (q5, q7) a9, Qv f 29 #[(pt g8 0)], Qv j 4 #[(.bool a8)], Qv b0 48 #[(.string ⟨List.toArray a1⟩), (.string ⟨List.toArray a2⟩), (.int .i64 a3)], Vj 83 Qs p 2 ([q5, q7] : List (List UInt8))]), ([7, 8], fun vs w => ∃ (a7 : Nat), VL vs [(.tuple #[(.int .i64 (G8 c (q5, q7))), (.int .i64 ((a7 : Nat) : Int))]), (.int .i64 ((a7 : Nat) : Int))] ∧ SP S w0 w [Qv g4 9 #[(.string ⟨List.toArray q5⟩)], Qv g6 9 #[(.string ⟨List.toArray q7⟩)], Qv g8 79 #[(.int .i64 q9), (.int .i64 a4), (.int .i64 a5), (.int .i64 a6), (.slice u (List.length (List.map stT q)) a0), (.map (some a))], Lv a c (q5, q7) a7, Qv f 29 #[(pt g8 0)], Qv j 4 #[(.bool a8)], Qv b0 48 #[(.string ⟨List.toArray a1⟩), (.string ⟨List.toArray a2⟩), (.int .i64 a3)], Vj 83 Qs p 2 ([q5, q7] : List (List UInt8))]), ([7, 8, 9], fun vs w => ∃ (b4 : Nat), VL vs [(.tuple #[(.int .i64 (G8 c (q5, q7))), (.int .i64 ((b4 : Nat) : Int))]), (.int .i64 ((b4 : Nat) : Int)), undef] ∧ SP S w0 w [Qv g4 9 #[(.string ⟨List.toArray q5⟩)], Qv g6 9 #[(.string ⟨List.toArray q7⟩)], Qv g8 79 #[(.int .i64 q9), (.int .i64 a4), (.int .i64 a5), (.int .i64 a6), (.slice u (List.length (List.map stT q)) a0), (.map (some a))], Zs a s, Qv f 29 #[(pt g8 0)], Qv j 4 #[(.bool a8)], Qv b0 48 #[(.string ⟨List.toArray a1⟩), (.string ⟨List.toArray a2⟩), (.int .i64 a3)], Vj 83 Qs p 2 ([q5, q7] : List (List UInt8))])] 10 3 ⟨trivial, SP.drew c2⟩ ?_ ?_
 iterate 10 refine And.intro ?_ ?_
 exact trivial
 ·refine oL 0 ?_
  ·rintro ρ' w' hs hah ⟨e8, c3⟩
   refine kM (kc (kS hs 3 (pt f 0)) k0) fun hkn => ?_
   refine sL 29 3 f 0 4 (pt g8 0) 10 c3 rfl ?_
   exact eK hkn
 ·exact oV (hC (hA 0 10) (h0)) (pt g8 0)
 ·exact oV (hC (hA 1 11) (h0)) (pt g8 5)
 ·refine oL 0 ?_
  ·rintro ρ' w' hs hah ⟨e9, c4⟩
   refine kM (kc (kA hah 2 12) k0) fun hkn => ?_
   refine sL 77 12 g8 5 2 (.map (some a)) 13 c4 rfl ?_
   exact eK hkn
 ·refine oL 0 ?_
  ·rintro ρ' w' hs hah ⟨f0, c5⟩
   refine kM (kc (kS hs 6 (pt p 0)) k0) fun hkn => ?_
   refine Zt (e := Qs) (l := ([q5, q7] : List (List UInt8))) (m := 2) (t := 83) (x := (.tmp 6)) (g := p) (i := 7) (d := (some 14)) (k := 4) K rfl K c5 rfl K K ?_
   exact eK hkn
 ·refine Owe.light K [0, 1, 2] K (Qb ?_ (Qb ?_ (Qb ?_ Qx)))
  ·rintro ρ' w' hs hah ⟨f1, c6⟩
   refine kM (kc (kA hah 3 13) (kc (kA hah 4 14) k0)) fun hkn => ?_
   refine Cu (T := 77) (kt := 83) (et := 3) (m := a) (L := c) (k := (q5, q7)) (x := (.tmp 13)) (ix := (.tmp 14)) (dst := (some 15)) (o := 5) K rfl K K K B0 (fun _ => rfl) (SP.get c6 (i := 3) rfl) (Kz b1).1 (Kz b1).2 ?_
   exact eK hkn
  ·rintro ρ' w' hs hah ⟨a9, ⟨f2, -⟩, c7⟩
   refine kM (kc (kA hah 3 13) (kc (kA hah 4 14) k0)) fun hkn => ?_
   refine Hm (T := 77) (kt := 83) (et := 3) (m := a) (L := c) (k := (q5, q7)) (x := (.tmp 13)) (ix := (.tmp 14)) (dst := (some 15)) (o := 5) K rfl K K K B0 (fun _ => rfl) (SP.get c7 (i := 3) rfl) (Kz b1).1 (Kz b1).2 ?_
   exact eK hkn
  ·rintro ρ' w' hs hah ⟨a7, ⟨f3, f4, -⟩, c8⟩
   refine kM (kc (kA hah 3 13) (kc (kA hah 4 14) k0)) fun hkn => ?_
   refine Hm (T := 77) (kt := 83) (et := 3) (m := a) (L := c) (k := (q5, q7)) (x := (.tmp 13)) (ix := (.tmp 14)) (dst := (some 15)) (o := 5) K rfl K K K B0 (fun _ => rfl) (SP.get c8 (i := 3) rfl) (Kz b1).1 (Kz b1).2 ?_
   exact eK hkn
 ·exact oV (hC (hA 5 15) (h0)) (.int .i64 (IntKind.wrap .i64 ((G8 c (q5, q7)) + 1)))
 ·refine oH 0 1 ?_
  ·rintro ρ' w' hs hah ⟨f5, c9⟩
   refine kM (kc (kA hah 3 13) (kc (kA hah 4 14) k0)) fun hkn => ?_
   refine Ku (T := 77) (kt := 83) (et := 3) (m := a) (L := c) (k := (q5, q7)) (x := (.tmp 13)) (ix := (.tmp 14)) (dst := (some 17)) (o := 7) (i := 3) K rfl K K K B0 (fun _ => rfl) c9 rfl (Kz b2).1 (Kz b2).2 ?_
   intro d0 f6 d1
   refine ⟨_, Qa hkn, trivial, ?_⟩
   exact (Exists.intro d0 (And.intro (And.intro rfl (trivial)) (d1)))
 ·refine oH 1 2 ?_
  ·rintro ρ' w' hs hah ⟨a9, ⟨b5, -⟩, d2⟩
   refine kN [(17, (.tuple #[(.int .i64 (G8 c (q5, q7))), (.int .i64 ((a9 : Nat) : Int))]))] ⟨(Y2 (h := 7) K).symm.trans b5, trivial⟩ fun hkn => ?_
   refine Qk.run (k := 8) (v := (.int .i64 ((a9 : Nat) : Int))) K ?_
   refine ⟨_, Qa hkn, trivial, ?_⟩
   exact (Exists.intro a9 (And.intro (And.intro b5 (And.intro rfl (trivial))) (d2)))
 ·refine oH 2 3 ?_
  ·rintro ρ' w' hs hah ⟨a7, ⟨d3, b6, -⟩, d4⟩
   refine kN [(13, (.map (some a))), (18, (.int .i64 ((a7 : Nat) : Int))), (16, (.int .i64 (IntKind.wrap .i64 ((G8 c (q5, q7)) + 1))))] ⟨hah 3 13 K, (Y2 (h := 8) K).symm.trans b6, hah 6 16 K, trivial⟩ fun hkn => ?_
   refine Kv (T := 77) (m := a) (L := c) (k := (q5, q7)) (x := (.tmp 13)) (ix := (.tmp 18)) (y := (.tmp 16)) (i := 3) (b := a7) (v := (IntKind.wrap .i64 ((G8 c (q5, q7)) + 1))) (dst := none) (o := 9) K rfl K K K d4 rfl (Kz b2).1 (Kz b2).2 ?_
   rw [hyl137]
   intro f7 d5
   refine ⟨_, Qa hkn, trivial, ?_⟩
   exact (Exists.intro a7 (And.intro (And.intro d3 (And.intro b6 (And.intro rfl (trivial)))) (d5)))
 ·rintro ρ' w' hs hf ⟨b4, ⟨f8, f9, g0, -⟩, b7⟩
  refine Q4 [(3, (pt f 0)), (4, (pt j 0)), (6, (pt p 0))] ⟨(hs 3 K).trans K, (hs 4 K).trans K, (hs 6 K).trans K, trivial⟩ ?_
  obtain ⟨g1, d6⟩ : ∃ x, w' = x := ⟨_, rfl⟩
  rw [d6] at b7 ⊢
  obtain ⟨b8, H⟩ := V0 H
  refine aG [GEq (pt g8 0), GEq (pt g8 0), GEq (pt g8 5), GEq (.map (some a)), GEq (.agg (Qc Qs ([q5, q7] : List (List UInt8))).toArray), GEq (.int .i64 (G8 s (q5, q7))), GEq (.bool ((G8 s (q5, q7)) == 1)), E6] [7] [sG [] [] S w0 [Qv g4 9 #[(.string ⟨List.toArray q5⟩)], Qv g6 9 #[(.string ⟨List.toArray q7⟩)], Qv g8 79 #[(.int .i64 q9), (.int .i64 a4), (.int .i64 a5), (.int .i64 a6), (.slice u (List.length (List.map stT q)) a0), (.map (some a))], Zs a s, Qv f 29 #[(pt g8 0)], Qv j 4 #[(.bool a8)], Qv b0 48 #[(.string ⟨List.toArray a1⟩), (.string ⟨List.toArray a2⟩), (.int .i64 a3)], Vj 83 Qs p 2 ([q5, q7] : List (List UInt8))], sG [7] [undef] S w0 [Qv g4 9 #[(.string ⟨List.toArray q5⟩)], Qv g6 9 #[(.string ⟨List.toArray q7⟩)], Qv g8 79 #[(.int .i64 q9), (.int .i64 a4), (.int .i64 a5), (.int .i64 a6), (.slice u (List.length (List.map stT q)) a0), (.map (some a))], Zs a s, Qv f 29 #[(pt g8 0)], Qv j 4 #[(.bool ((G8 s (q5, q7)) == 1))], Qv b0 48 #[(.string ⟨List.toArray a1⟩), (.string ⟨List.toArray a2⟩), (.int .i64 a3)], Vj 83 Qs p 2 ([q5, q7] : List (List UInt8))]] 8 1 ⟨trivial, SP.drew b7⟩ ?_ ?_
  iterate 8 refine And.intro ?_ ?_
  exact trivial
  ·refine oL 0 ?_
   ·rintro ρ' w' hs hah ⟨g2, d7⟩
    refine kM (kc (kS hs 3 (pt f 0)) k0) fun hkn => ?_
    refine sL 29 3 f 0 4 (pt g8 0) 19 d7 rfl ?_
    exact eK hkn
  ·exact oV (hC (hA 0 19) (h0)) (pt g8 0)
  ·exact oV (hC (hA 1 20) (h0)) (pt g8 5)
  ·refine oL 0 ?_
   ·rintro ρ' w' hs hah ⟨g3, d8⟩
    refine kM (kc (kA hah 2 21) k0) fun hkn => ?_
    refine sL 77 21 g8 5 2 (.map (some a)) 22 d8 rfl ?_
    exact eK hkn
  ·refine oL 0 ?_
   ·rintro ρ' w' hs hah ⟨g5, d9⟩
    refine kM (kc (kS hs 6 (pt p 0)) k0) fun hkn => ?_
    refine Zt (e := Qs) (l := ([q5, q7] : List (List UInt8))) (m := 2) (t := 83) (x := (.tmp 6)) (g := p) (i := 7) (d := (some 23)) (k := 4) K rfl K d9 rfl K K ?_
    exact eK hkn
  ·refine oL 0 ?_
   ·rintro ρ' w' hs hah ⟨g7, e0⟩
    refine kM (kc (kA hah 3 22) (kc (kA hah 4 23) k0)) fun hkn => ?_
    refine Cu (T := 77) (kt := 83) (et := 3) (m := a) (L := s) (k := (q5, q7)) (x := (.tmp 22)) (ix := (.tmp 23)) (dst := (some 24)) (o := 5) K rfl K K K B0 (fun _ => rfl) (SP.get e0 (i := 3) rfl) (Kz b8).1 (Kz b8).2 ?_
    exact eK hkn
  ·exact oV (hC (hA 5 24) (h0)) (.bool ((G8 s (q5, q7)) == 1))
  ·refine oH 0 1 ?_
   ·rintro ρ' w' hs hah ⟨g9, e1⟩
    refine kM (kc (kS hs 4 (pt j 0)) (kc (kA hah 6 25) k0)) fun hkn => ?_
    refine Qk.store (t := 4) (x := (.tmp 4)) (y := (.tmp 25)) (g := j) (off := 0) (i := 5) (v := (.bool ((G8 s (q5, q7)) == 1))) (cs' := #[(.bool ((G8 s (q5, q7)) == 1))]) (d := none) (k := 7) K rfl K K e1 rfl K ?_
    intro h1 e2
    refine ⟨_, Qa hkn, trivial, ?_⟩
    exact (And.intro (And.intro rfl (trivial)) (e2))
  ·rintro ρ' w' hs hf ⟨⟨h2, -⟩, b9⟩
   refine Q4 [] trivial ?_
   obtain ⟨h3, e3⟩ : ∃ x, w' = x := ⟨_, rfl⟩
   rw [e3] at b9 ⊢
   refine ⟨(.tuple #[]), K, ?_⟩
   obtain rfl := Qh H
   exact ⟨rfl, SP.sel b9 [0,1,2,3,4,5] rfl rfl⟩
def Y8 (a : Bool) : Option (Bool) :=
  (some (a))
def Nc (f : (List UInt8)) (g : (List UInt8)) (c : Int) (q5 : Int) (q6 : Int) (q7 : Int) (q8 : Int) (q9 : (List Qi)) (d : N5) (a : (List UInt8)) (b : (List UInt8)) (e : Int) (h : Bool) : Option (Bool) :=
  ((chk (Nat.ble (List.length a) 140737488355328 && Nat.ble (List.length b) 140737488355328)).bind fun _ => (cond ((G8 d (a, b)) == 0) (Y8 (decide (e < c))) (Y8 false)))
set_option maxRecDepth 100000 in
set_option maxHeartbeats 4000000 in
theorem D0 {S : List Nat} (g4 : Nat) (a3 : Option Addr) (a4 : Nat) (f : Nat) (q : Nat) (s : Nat) (u : Nat) (a0 : Nat) (z : Nat) (a5 : (List UInt8)) (a6 : (List UInt8)) (j : Int) (q5 : Int) (q6 : Int) (q7 : Int) (q8 : Int) (a1 : (List Vl)) (c : N5) (a : (List UInt8)) (b : (List UInt8)) (h : Int) (a7 : Bool) (w0 : World) (hO : SP S w0 w0 [Qv g4 79 #[(.int .i64 q5), (.int .i64 q6), (.int .i64 q7), (.int .i64 q8), (.slice a3 (List.length (List.map stT a1)) a4), (.map (some f))], Zs f c, Qv q 29 #[(pt g4 0)], Qv s 9 #[(.string ⟨List.toArray a⟩)], Qv u 9 #[(.string ⟨List.toArray b⟩)], Qv a0 2 #[(.int .i64 h)], Qv z 4 #[(.bool a7)]]) (d5 : ∀ w, Mod S w0 w → (dDS Ua Eh).ok w (a3, a4, a1)) (r : (Bool)) (H : Nc a5 a6 j q5 q6 q7 q8 (List.map stT a1) c a b h a7 = some r) :
  Calls Tryz.prog 49 #[(.agg #[(.string ⟨List.toArray a5⟩), (.string ⟨List.toArray a6⟩), (.int .i64 j)]), (pt q 0), (pt s 0), (pt u 0), (pt a0 0), (pt z 0)] w0 (fun e w' => e = .returned (.tuple #[]) ∧ SP S w0 w' [Qv g4 79 #[(.int .i64 q5), (.int .i64 q6), (.int .i64 q7), (.int .i64 q8), (.slice a3 (List.length (List.map stT a1)) a4), (.map (some f))], Zs f c, Qv q 29 #[(pt g4 0)], Qv s 9 #[(.string ⟨List.toArray a⟩)], Qv u 9 #[(.string ⟨List.toArray b⟩)], Qv a0 2 #[(.int .i64 h)], Qv z 4 #[(.bool r)]]) := by
 unfold Nc at H
 refine Qu (n := 22) Tryz.func49 K K K ?_
 have b4 := hO
 refine aQ ?_
 refine aR ?_
 refine iS 1 ?_
 refine V6 (t := 48) (x := (.tmp 0)) (v := (.agg #[(.string ⟨List.toArray a5⟩), (.string ⟨List.toArray a6⟩), (.int .i64 j)])) (d := (some 6)) (k := 0) K rfl K b4 ?_
 intro a2 d6 b1
 refine iF ?_
 refine At.join (fun ρ w => ∃ (a9 : Bool), V3 ρ [] ∧ SP S w0 w [Qv g4 79 #[(.int .i64 q5), (.int .i64 q6), (.int .i64 q7), (.int .i64 q8), (.slice a3 (List.length (List.map stT a1)) a4), (.map (some f))], Zs f c, Qv q 29 #[(pt g4 0)], Qv s 9 #[(.string ⟨List.toArray a⟩)], Qv u 9 #[(.string ⟨List.toArray b⟩)], Qv a0 2 #[(.int .i64 h)], Qv z 4 #[(.bool a9)]] ∧ Y8 a9 = some r) ?_ ?_
 ·obtain ⟨a8, H⟩ := V0 H
  rcases Bool.eq_false_or_eq_true ((G8 c (a, b)) == 0) with p | p
  ·have H := ct H p
   refine aG [GEq (pt g4 0), GEq (pt g4 0), GEq (pt g4 5), GEq (.map (some f)), GEq (.string ⟨List.toArray a⟩), GEq (.string ⟨List.toArray b⟩), GEq (.agg (Qc Qs ([a, b] : List (List UInt8))).toArray), GEq (.int .i64 (G8 c (a, b))), GEq (.bool ((G8 c (a, b)) == 0)), GEq (.bool ((G8 c (a, b)) == 0)), GEq (.int .i64 h), GEq (pt a2 2), GEq (.int .i64 j), GEq (.bool (decide (h < j))), GEq (.bool (decide (h < j))), E6] [15] [sG [] [] S w0 [Qv g4 79 #[(.int .i64 q5), (.int .i64 q6), (.int .i64 q7), (.int .i64 q8), (.slice a3 (List.length (List.map stT a1)) a4), (.map (some f))], Zs f c, Qv q 29 #[(pt g4 0)], Qv s 9 #[(.string ⟨List.toArray a⟩)], Qv u 9 #[(.string ⟨List.toArray b⟩)], Qv a0 2 #[(.int .i64 h)], Qv z 4 #[(.bool a7)], Qv a2 48 #[(.string ⟨List.toArray a5⟩), (.string ⟨List.toArray a6⟩), (.int .i64 j)]], sG [15] [undef] S w0 [Qv g4 79 #[(.int .i64 q5), (.int .i64 q6), (.int .i64 q7), (.int .i64 q8), (.slice a3 (List.length (List.map stT a1)) a4), (.map (some f))], Zs f c, Qv q 29 #[(pt g4 0)], Qv s 9 #[(.string ⟨List.toArray a⟩)], Qv u 9 #[(.string ⟨List.toArray b⟩)], Qv a0 2 #[(.int .i64 h)], Qv z 4 #[(.bool (decide (h < j)))], Qv a2 48 #[(.string ⟨List.toArray a5⟩), (.string ⟨List.toArray a6⟩), (.int .i64 j)]]] 16 1 ⟨trivial, SP.drew b1⟩ ?_ ?_
   iterate 16 refine And.intro ?_ ?_
   exact trivial
   ·refine oL 0 ?_
    ·rintro ρ' w' hs hah ⟨d7, b5⟩
     refine kM (kc (kS hs 1 (pt q 0)) k0) fun hkn => ?_
     refine sL 29 1 q 0 2 (pt g4 0) 7 b5 rfl ?_
     exact eK hkn
   ·exact oV (hC (hA 0 7) (h0)) (pt g4 0)
   ·exact oV (hC (hA 1 8) (h0)) (pt g4 5)
   ·refine oL 0 ?_
    ·rintro ρ' w' hs hah ⟨d8, b6⟩
     refine kM (kc (kA hah 2 9) k0) fun hkn => ?_
     refine sL 77 9 g4 5 0 (.map (some f)) 10 b6 rfl ?_
     exact eK hkn
   ·refine oL 0 ?_
    ·rintro ρ' w' hs hah ⟨d9, b7⟩
     refine kM (kc (kS hs 2 (pt s 0)) k0) fun hkn => ?_
     refine sL 9 2 s 0 3 (.string ⟨List.toArray a⟩) 11 b7 rfl ?_
     exact eK hkn
   ·refine oL 0 ?_
    ·rintro ρ' w' hs hah ⟨e0, b8⟩
     refine kM (kc (kS hs 3 (pt u 0)) k0) fun hkn => ?_
     refine sL 9 3 u 0 4 (.string ⟨List.toArray b⟩) 12 b8 rfl ?_
     exact eK hkn
   ·exact oV (hC (hA 4 11) (hC (hA 5 12) (h0))) (.agg (Qc Qs ([a, b] : List (List UInt8))).toArray)
   ·refine oL 0 ?_
    ·rintro ρ' w' hs hah ⟨e1, b9⟩
     refine kM (kc (kA hah 3 10) (kc (kA hah 6 13) k0)) fun hkn => ?_
     refine Cu (T := 77) (kt := 83) (et := 3) (m := f) (L := c) (k := (a, b)) (x := (.tmp 10)) (ix := (.tmp 13)) (dst := (some 14)) (o := 7) K rfl K K K B0 (fun _ => rfl) (SP.get b9 (i := 1) rfl) (Kz a8).1 (Kz a8).2 ?_
     exact eK hkn
   ·exact oV (hC (hA 7 14) (h0)) (.bool ((G8 c (a, b)) == 0))
   ·exact oV (hC (hA 8 15) (h0)) (.bool ((G8 c (a, b)) == 0))
   ·refine oL 0 ?_
    ·rintro ρ' w' hs hah ⟨e2, c0⟩
     have e4 : ρ' 4 = (pt a0 0) := (hs 4 K).trans K
     have b0 := hah 9 16 K
     refine kN [(4, (pt a0 0)), (16, (.bool true))] ⟨e4, (Eq.trans b0 (congrArg Value.bool p)), trivial⟩ fun hkn => ?_
     refine sL 2 4 a0 0 5 (.int .i64 h) 17 c0 rfl ?_
     exact eK hkn
   ·exact oV (hC (hS 6 (pt a2 0)) (hC (hB 9 16 p) (h0))) (pt a2 2)
   ·refine oL 0 ?_
    ·rintro ρ' w' hs hah ⟨e3, c1⟩
     have c2 := hah 11 18 K
     have b0 := hah 9 16 K
     refine kN [(18, (pt a2 2)), (16, (.bool true))] ⟨c2, (Eq.trans b0 (congrArg Value.bool p)), trivial⟩ fun hkn => ?_
     refine sL 2 18 a2 2 7 (.int .i64 j) 19 c1 rfl ?_
     exact eK hkn
   ·exact oV (hC (hA 10 17) (hC (hA 12 19) (hC (hB 9 16 p) (h0)))) (.bool (decide (h < j)))
   ·exact oV (hC (hB 9 16 p) (hC (hA 13 20) (h0))) (.bool (decide (h < j)))
   ·refine oH 0 1 ?_
    ·rintro ρ' w' hs hah ⟨e5, c3⟩
     refine kM (kc (kS hs 5 (pt z 0)) (kc (kA hah 14 21) k0)) fun hkn => ?_
     refine Qk.store (t := 4) (x := (.tmp 5)) (y := (.tmp 21)) (g := z) (off := 0) (i := 6) (v := (.bool (decide (h < j)))) (cs' := #[(.bool (decide (h < j)))]) (d := none) (k := 15) K rfl K K c3 rfl K ?_
     intro e6 c4
     refine ⟨_, Qa hkn, trivial, ?_⟩
     exact (And.intro (And.intro rfl (trivial)) (c4))
   ·rintro ρ' w' hs hf ⟨⟨e7, -⟩, b2⟩
    refine Q4 [] trivial ?_
    obtain ⟨e8, c5⟩ : ∃ x, w' = x := ⟨_, rfl⟩
    rw [c5] at b2 ⊢
    exact ⟨(decide (h < j)), trivial, SP.sel b2 [0, 1, 2, 3, 4, 5, 6] rfl rfl, H⟩
  ·have H := cf H p
   refine aG [GEq (pt g4 0), GEq (pt g4 0), GEq (pt g4 5), GEq (.map (some f)), GEq (.string ⟨List.toArray a⟩), GEq (.string ⟨List.toArray b⟩), GEq (.agg (Qc Qs ([a, b] : List (List UInt8))).toArray), GEq (.int .i64 (G8 c (a, b))), GEq (.bool ((G8 c (a, b)) == 0)), GEq (.bool ((G8 c (a, b)) == 0)), GEq undef, GEq undef, GEq undef, GEq undef, GEq (.bool false), E6] [15] [sG [] [] S w0 [Qv g4 79 #[(.int .i64 q5), (.int .i64 q6), (.int .i64 q7), (.int .i64 q8), (.slice a3 (List.length (List.map stT a1)) a4), (.map (some f))], Zs f c, Qv q 29 #[(pt g4 0)], Qv s 9 #[(.string ⟨List.toArray a⟩)], Qv u 9 #[(.string ⟨List.toArray b⟩)], Qv a0 2 #[(.int .i64 h)], Qv z 4 #[(.bool a7)], Qv a2 48 #[(.string ⟨List.toArray a5⟩), (.string ⟨List.toArray a6⟩), (.int .i64 j)]], sG [15] [undef] S w0 [Qv g4 79 #[(.int .i64 q5), (.int .i64 q6), (.int .i64 q7), (.int .i64 q8), (.slice a3 (List.length (List.map stT a1)) a4), (.map (some f))], Zs f c, Qv q 29 #[(pt g4 0)], Qv s 9 #[(.string ⟨List.toArray a⟩)], Qv u 9 #[(.string ⟨List.toArray b⟩)], Qv a0 2 #[(.int .i64 h)], Qv z 4 #[(.bool false)], Qv a2 48 #[(.string ⟨List.toArray a5⟩), (.string ⟨List.toArray a6⟩), (.int .i64 j)]]] 16 1 ⟨trivial, SP.drew b1⟩ ?_ ?_
   iterate 16 refine And.intro ?_ ?_
   exact trivial
   ·refine oL 0 ?_
    ·rintro ρ' w' hs hah ⟨e9, c6⟩
     refine kM (kc (kS hs 1 (pt q 0)) k0) fun hkn => ?_
     refine sL 29 1 q 0 2 (pt g4 0) 7 c6 rfl ?_
     exact eK hkn
   ·exact oV (hC (hA 0 7) (h0)) (pt g4 0)
   ·exact oV (hC (hA 1 8) (h0)) (pt g4 5)
   ·refine oL 0 ?_
    ·rintro ρ' w' hs hah ⟨f0, c7⟩
     refine kM (kc (kA hah 2 9) k0) fun hkn => ?_
     refine sL 77 9 g4 5 0 (.map (some f)) 10 c7 rfl ?_
     exact eK hkn
   ·refine oL 0 ?_
    ·rintro ρ' w' hs hah ⟨f1, c8⟩
     refine kM (kc (kS hs 2 (pt s 0)) k0) fun hkn => ?_
     refine sL 9 2 s 0 3 (.string ⟨List.toArray a⟩) 11 c8 rfl ?_
     exact eK hkn
   ·refine oL 0 ?_
    ·rintro ρ' w' hs hah ⟨f2, c9⟩
     refine kM (kc (kS hs 3 (pt u 0)) k0) fun hkn => ?_
     refine sL 9 3 u 0 4 (.string ⟨List.toArray b⟩) 12 c9 rfl ?_
     exact eK hkn
   ·exact oV (hC (hA 4 11) (hC (hA 5 12) (h0))) (.agg (Qc Qs ([a, b] : List (List UInt8))).toArray)
   ·refine oL 0 ?_
    ·rintro ρ' w' hs hah ⟨f3, d0⟩
     refine kM (kc (kA hah 3 10) (kc (kA hah 6 13) k0)) fun hkn => ?_
     refine Cu (T := 77) (kt := 83) (et := 3) (m := f) (L := c) (k := (a, b)) (x := (.tmp 10)) (ix := (.tmp 13)) (dst := (some 14)) (o := 7) K rfl K K K B0 (fun _ => rfl) (SP.get d0 (i := 1) rfl) (Kz a8).1 (Kz a8).2 ?_
     exact eK hkn
   ·exact oV (hC (hA 7 14) (h0)) (.bool ((G8 c (a, b)) == 0))
   ·exact oV (hC (hA 8 15) (h0)) (.bool ((G8 c (a, b)) == 0))
   ·exact oW (hC (hB 9 16 p) (h0)) 17
   ·exact oW (hC (hB 9 16 p) (h0)) 18
   ·exact oW (hC (hB 9 16 p) (h0)) 19
   ·exact oW (hC (hB 9 16 p) (h0)) 20
   ·exact oV (hC (hB 9 16 p) (hC (hA 13 20) (h0))) (.bool false)
   ·refine oH 0 1 ?_
    ·rintro ρ' w' hs hah ⟨f4, d1⟩
     refine kM (kc (kS hs 5 (pt z 0)) (kc (kA hah 14 21) k0)) fun hkn => ?_
     refine Qk.store (t := 4) (x := (.tmp 5)) (y := (.tmp 21)) (g := z) (off := 0) (i := 6) (v := (.bool false)) (cs' := #[(.bool false)]) (d := none) (k := 15) K rfl K K d1 rfl K ?_
     intro f5 d2
     refine ⟨_, Qa hkn, trivial, ?_⟩
     exact (And.intro (And.intro rfl (trivial)) (d2))
   ·rintro ρ' w' hs hf ⟨⟨f6, -⟩, b3⟩
    refine Q4 [] trivial ?_
    obtain ⟨f7, d3⟩ : ∃ x, w' = x := ⟨_, rfl⟩
    rw [d3] at b3 ⊢
    exact ⟨false, trivial, SP.sel b3 [0, 1, 2, 3, 4, 5, 6] rfl rfl, H⟩
 ·rintro ρ f8 ⟨a9, hk, d4, H⟩
  unfold Y8 at H
  first | refine At.known [] hk ?_ | rw [← Qz (l := []) hk]
  refine ⟨(.tuple #[]), K, ?_⟩
  obtain rfl := Qh H
  exact ⟨rfl, SP.sel d4 [0,1,2,3,4,5,6] rfl rfl⟩
def Nd (c : (List UInt8)) (a : (List UInt8)) (d : Int) (q5 : (List UInt8)) (q7 : (List UInt8)) (q9 : (List UInt8)) (e : (List UInt8)) : Option ((List UInt8)) :=
  ((chk (Nat.ble (List.length a) 281474976710656)).bind fun _ => ((Bw a ([q5, q7, q9] : List (List UInt8))).bind fun b => (some (b))))
set_option maxRecDepth 100000 in
set_option maxHeartbeats 4000000 in
theorem D1 {S : List Nat} (g4 : Nat) (g6 : Nat) (g8 : Nat) (b : Nat) (c : (List UInt8)) (a : (List UInt8)) (f : Int) (q5 : (List UInt8)) (q7 : (List UInt8)) (q9 : (List UInt8)) (j : (List UInt8)) (w0 : World) (hO : SP S w0 w0 [Qv g4 9 #[(.string ⟨List.toArray q5⟩)], Qv g6 9 #[(.string ⟨List.toArray q7⟩)], Qv g8 9 #[(.string ⟨List.toArray q9⟩)], Qv b 9 #[(.string ⟨List.toArray j⟩)]])  (r : ((List UInt8))) (H : Nd c a f q5 q7 q9 j = some r) :
  Calls Tryz.prog 50 #[(.agg #[(.string ⟨List.toArray c⟩), (.string ⟨List.toArray a⟩), (.int .i64 f)]), (pt g4 0), (pt g6 0), (pt g8 0), (pt b 0)] w0 (fun e w' => e = .returned (.tuple #[]) ∧ SP S w0 w' [Qv g4 9 #[(.string ⟨List.toArray q5⟩)], Qv g6 9 #[(.string ⟨List.toArray q7⟩)], Qv g8 9 #[(.string ⟨List.toArray q9⟩)], Qv b 9 #[(.string ⟨List.toArray r⟩)]]) := by
 unfold Nd at H
 refine Qu (n := 14) Tryz.func50 K K K ?_
 have a0 := hO
 refine aQ ?_
 refine aR ?_
 refine iS 1 ?_
 refine V6 (t := 48) (x := (.tmp 0)) (v := (.agg #[(.string ⟨List.toArray c⟩), (.string ⟨List.toArray a⟩), (.int .i64 f)])) (d := (some 5)) (k := 0) K rfl K a0 ?_
 intro m a8 q
 refine iF ?_
 refine aR ?_
 refine iR 1 1 [(6, (pt m 1))] ?_
 refine iS 2 ?_
 refine sL 9 6 m 1 4 (.string ⟨List.toArray a⟩) 7 q rfl ?_
 obtain ⟨a1, H⟩ := V0 H
 refine iS 3 ?_
 refine Dn (S' := 9) (T := 52) (E := 5) (x := (.tmp 7)) (l := a) (d := (some 8)) (k := 2) K rfl K K K K (Do a1) q ?_
 intro s u a2 w _
 have h : SP S w0 a2 [Qv g4 9 #[(.string ⟨List.toArray q5⟩)], Qv g6 9 #[(.string ⟨List.toArray q7⟩)], Qv g8 9 #[(.string ⟨List.toArray q9⟩)], Qv b 9 #[(.string ⟨List.toArray j⟩)], Qv m 48 #[(.string ⟨List.toArray c⟩), (.string ⟨List.toArray a⟩), (.int .i64 f)], rdE eU8 (some ⟨s, 0, none⟩) u a] := w
 clear w
 refine iS 4 ?_
 refine sL 9 1 g4 0 0 (.string ⟨List.toArray q5⟩) 9 h rfl ?_
 refine iS 5 ?_
 refine sL 9 2 g6 0 1 (.string ⟨List.toArray q7⟩) 10 h rfl ?_
 refine iS 6 ?_
 refine sL 9 3 g8 0 2 (.string ⟨List.toArray q9⟩) 11 h rfl ?_
 refine iS 7 ?_
 refine V9 (e := Qs) (T := 53) (E := 9) (len := 3) (parts := #[(0, (.tmp 9)), (1, (.tmp 10)), (2, (.tmp 11))]) (cs := #[(.string ⟨List.toArray q5⟩), (.string ⟨List.toArray q7⟩), (.string ⟨List.toArray q9⟩)]) ([q5, q7, q9] : List (List UInt8)) (d := (some 12)) (k := 6) K rfl (fun _ => K) h rfl rfl rfl rfl ?_
 intro a3 a4 o
 obtain ⟨p, a5, H⟩ := Qe H
 refine iS 8 ?_
 refine cF 51 #[(.tmp 8), (.tmp 12)] #[52, 53] 13 Tryz.call51 (Ft (some ⟨s, 0, none⟩) u (some ⟨a3, 0, none⟩) (List.length ([q5, q7, q9] : List (List UInt8))) a ([q5, q7, q9] : List (List UInt8)) a4 (I6 (SP.get o (i := 5) rfl)) (Vq (SP.get o (i := 6) rfl)) p a5) ?_
 rintro e a9 ⟨rfl, z⟩
 refine ⟨_, rfl, ?_⟩
 have a6 := SP.call o z
 clear z
 refine iS 9 ?_
 refine Qk.store (t := 9) (x := (.tmp 4)) (y := (.tmp 13)) (g := b) (off := 0) (i := 3) (v := (.string ⟨List.toArray p⟩)) (cs' := #[(.string ⟨List.toArray p⟩)]) (d := none) (k := 8) K rfl K K a6 rfl K ?_
 intro b0 a7
 refine iF ?_
 refine ⟨(.tuple #[]), K, ?_⟩
 obtain rfl := Qh H
 exact ⟨rfl, SP.sel a7 [0,1,2,3] rfl rfl⟩
def V8 (a : Int) (b : Int) (c : Int) (d : Int) (e : N5) (f : Bool) : Option (Int × Int × Int × Int × N5 × Bool) :=
  (some (a, b, c, d, e, f))
def Xh (q2 : Int) (q3 : Int) (q4 : Int) (q5 : Int) (q6 : (List Qi)) (d : N5) (f : (List UInt8)) (g : (List UInt8)) (h : (List UInt8)) (i : (List UInt8)) (e : Bool) : Option (Int × Int × Int × Int × N5 × Bool) :=
  ((Nv q2 q3 q4 q5 q6 f).bind fun b => ((U8 b.1 b.2.1 b.2.2.1 b.2.2.2.1 b.2.2.2.2.1 g).bind fun c => (cond c.2.2.2 ((Ur c.1 c.2.1 c.2.2.1 h i q2 q3 q4 q5 q6 d e).bind fun a => (V8 a.1 a.2.1 a.2.2.1 a.2.2.2.1 a.2.2.2.2.1 a.2.2.2.2.2)) (V8 q2 q3 q4 q5 d e))))
set_option maxRecDepth 100000 in
set_option maxHeartbeats 4000000 in
theorem Gj {S : List Nat} (g1 : Nat) (A7 : Option Addr) (c8 : Nat) (j : Nat) (p : Nat) (q : Nat) (s : Nat) (u : Nat) (q2 : Int) (q3 : Int) (q4 : Int) (q5 : Int) (m : (List Vl)) (a7 : N5) (a8 : (List UInt8)) (a9 : (List UInt8)) (a4 : (List UInt8)) (a5 : (List UInt8)) (b0 : Bool) (w0 : World) (hO : SP S w0 w0 [Qv g1 79 #[(.int .i64 q2), (.int .i64 q3), (.int .i64 q4), (.int .i64 q5), (.slice A7 (List.length (List.map stT m)) c8), (.map (some j))], Zs j a7, Qv p 9 #[(.string ⟨List.toArray a4⟩)], Qv q 9 #[(.string ⟨List.toArray a5⟩)], Qv s 29 #[(pt g1 0)], Qv u 4 #[(.bool b0)]]) (c3 : ∀ w, Mod S w0 w → (dDS Ua Eh).ok w (A7, c8, m)) (r : (Int × Int × Int × Int × N5 × Bool)) (H : Xh q2 q3 q4 q5 (List.map stT m) a7 a8 a9 a4 a5 b0 = some r) :
  Calls Tryz.prog 45 #[(pt g1 0), (.string ⟨List.toArray a8⟩), (.string ⟨List.toArray a9⟩), (.func (.func 46) #[] #[(pt p 0), (pt q 0), (pt s 0), (pt u 0)])] w0 (fun e w' => e = .returned (.tuple #[]) ∧ SP S w0 w' [Qv g1 79 #[(.int .i64 r.1), (.int .i64 r.2.1), (.int .i64 r.2.2.1), (.int .i64 r.2.2.2.1), (.slice A7 (List.length (List.map stT m)) c8), (.map (some j))], Zs j r.2.2.2.2.1, Qv p 9 #[(.string ⟨List.toArray a4⟩)], Qv q 9 #[(.string ⟨List.toArray a5⟩)], Qv s 29 #[(pt g1 0)], Qv u 4 #[(.bool r.2.2.2.2.2)]]) := by
 unfold Xh at H
 refine Qu (n := 31) Tryz.func45 K K K ?_
 have b2 := hO
 refine aQ ?_
 refine aR ?_
 refine iR 3 3 [(13, (pt g1 0)), (14, (pt g1 0)), (15, (pt g1 0))] ?_
 refine iS 4 ?_
 refine sL 24 15 g1 0 0 (.agg #[(.int .i64 q2), (.int .i64 q3), (.int .i64 q4), (.int .i64 q5), (.slice A7 (List.length (List.map stT m)) c8)]) 16 b2 rfl ?_
 refine iR 1 5 [(17, (.string ⟨List.toArray a8⟩))] ?_
 obtain ⟨a, c7, H⟩ := Qe H
 refine iS 6 ?_
 refine cF 67 #[(.tmp 16), (.tmp 17)] #[24, 9] 18 Tryz.call67 (Ro (R := fun w => Mod S w0 w) A7 c8 q2 q3 q4 q5 m a8 w0 (fun w hb => Fx b2 hb) c3 a c7) ?_
 rintro e e1 ⟨a0, a1, a2, a3, rfl, c9, d0, c4⟩
 refine ⟨_, rfl, ?_⟩
 have d1 := SP.call b2 c4
 clear c4
 refine iR 3 9 [(12, (.tuple #[(.agg #[(.string ⟨List.toArray a.1⟩), (.int .i64 a.2.1), (.int .i64 a.2.2.1), (.slice a0 (List.length a.2.2.2.1) a1), (.slice a2 (List.length a.2.2.2.2.1) a3)]), (.bool a.2.2.2.2.2)])), (19, (.agg #[(.string ⟨List.toArray a.1⟩), (.int .i64 a.2.1), (.int .i64 a.2.2.1), (.slice a0 (List.length a.2.2.2.1) a1), (.slice a2 (List.length a.2.2.2.2.1) a3)])), (20, (.bool a.2.2.2.2.2))] ?_
 refine iS 10 ?_
 refine Qk.alloc (t := 44) (z := (.agg #[(.string ⟨List.toArray ([] : List UInt8)⟩), (.int .i64 0), (.int .i64 0), (.slice none (List.length ([] : List (Int × Int))) 0), (.slice none (List.length ([] : List ((List UInt8) × (List UInt8) × Int))) 0)])) (d := (some 8)) (k := 9) K rfl K d1 ?_
 intro b3 e2 d2
 refine iS 11 ?_
 refine Qk.store (t := 44) (x := (.tmp 8)) (y := (.tmp 19)) (g := b3) (off := 0) (i := 6) (v := (.agg #[(.string ⟨List.toArray a.1⟩), (.int .i64 a.2.1), (.int .i64 a.2.2.1), (.slice a0 (List.length a.2.2.2.1) a1), (.slice a2 (List.length a.2.2.2.2.1) a3)])) (cs' := #[(.string ⟨List.toArray a.1⟩), (.int .i64 a.2.1), (.int .i64 a.2.2.1), (.slice a0 (List.length a.2.2.2.1) a1), (.slice a2 (List.length a.2.2.2.2.1) a3)]) (d := none) (k := 10) K rfl K K d2 rfl K ?_
 intro b4 b1
 refine iR 1 12 [(9, (.bool a.2.2.2.2.2))] ?_
 refine iF ?_
 refine aQ ?_
 refine aR ?_
 refine iS 1 ?_
 refine sL 44 8 b3 0 6 (.agg #[(.string ⟨List.toArray a.1⟩), (.int .i64 a.2.1), (.int .i64 a.2.2.1), (.slice a0 (List.length a.2.2.2.1) a1), (.slice a2 (List.length a.2.2.2.2.1) a3)]) 22 b1 rfl ?_
 refine iR 1 2 [(23, (.string ⟨List.toArray a9⟩))] ?_
 obtain ⟨c, d3, H⟩ := Qe H
 refine iS 3 ?_
 refine cF 68 #[(.tmp 22), (.tmp 23)] #[44, 9] 24 Tryz.call68 (G9 a0 a1 a2 a3 a.1 a.2.1 a.2.2.1 a.2.2.2.1 a.2.2.2.2.1 a9 b4 (c9 b4 (SP.mod b1)) (d0 b4 (SP.mod b1)) c d3) ?_
 rintro e e3 ⟨rfl, c5⟩
 refine ⟨_, rfl, ?_⟩
 have d4 := SP.call b1 c5
 clear c5
 refine iR 3 6 [(21, (.tuple #[(.agg #[(.string ⟨List.toArray c.1⟩), (.string ⟨List.toArray c.2.1⟩), (.int .i64 c.2.2.1)]), (.bool c.2.2.2)])), (25, (.agg #[(.string ⟨List.toArray c.1⟩), (.string ⟨List.toArray c.2.1⟩), (.int .i64 c.2.2.1)])), (26, (.bool c.2.2.2))] ?_
 refine iS 7 ?_
 refine Qk.alloc (t := 48) (z := (.agg #[(.string ⟨List.toArray ([] : List UInt8)⟩), (.string ⟨List.toArray ([] : List UInt8)⟩), (.int .i64 0)])) (d := (some 10)) (k := 6) K rfl K d4 ?_
 intro b5 e4 d5
 refine iS 8 ?_
 refine Qk.store (t := 48) (x := (.tmp 10)) (y := (.tmp 25)) (g := b5) (off := 0) (i := 7) (v := (.agg #[(.string ⟨List.toArray c.1⟩), (.string ⟨List.toArray c.2.1⟩), (.int .i64 c.2.2.1)])) (cs' := #[(.string ⟨List.toArray c.1⟩), (.string ⟨List.toArray c.2.1⟩), (.int .i64 c.2.2.1)]) (d := none) (k := 7) K rfl K K d5 rfl K ?_
 intro d6 a6
 refine iR 1 9 [(11, (.bool c.2.2.2))] ?_
 refine iF ?_
 refine aQ ?_
 refine aR ?_
 refine iR 1 1 [(27, (.bool c.2.2.2))] ?_
 refine iF ?_
 refine At.join (fun ρ w => ∃ (b6 : Int) (b7 : Int) (b8 : Int) (b9 : Int) (c0 : N5) (c1 : Bool), V3 ρ [] ∧ SP S w0 w [Qv g1 79 #[(.int .i64 b6), (.int .i64 b7), (.int .i64 b8), (.int .i64 b9), (.slice A7 (List.length (List.map stT m)) c8), (.map (some j))], Zs j c0, Qv p 9 #[(.string ⟨List.toArray a4⟩)], Qv q 9 #[(.string ⟨List.toArray a5⟩)], Qv s 29 #[(pt g1 0)], Qv u 4 #[(.bool c1)]] ∧ V8 b6 b7 b8 b9 c0 c1 = some r) ?_ ?_
 ·refine Zk K (o := (.tmp 27)) K (b := c.2.2.2) K (fun c2 => ?_) (fun c2 => ?_)
  ·have H := ct H c2
   refine aR ?_
   refine iR 1 1 [(28, (.func (.func 46) #[] #[(pt p 0), (pt q 0), (pt s 0), (pt u 0)]))] ?_
   refine iS 2 ?_
   refine sL 48 10 b5 0 7 (.agg #[(.string ⟨List.toArray c.1⟩), (.string ⟨List.toArray c.2.1⟩), (.int .i64 c.2.2.1)]) 29 a6 rfl ?_
   obtain ⟨h, d7, H⟩ := Qe H
   refine iS 3 ?_
   refine Ud (f := 46) (fo := (.tmp 28)) (xs := #[(.tmp 29)]) (tys := #[48]) (first := #[]) (captured := #[(pt p 0), (pt q 0), (pt s 0), (pt u 0)]) (d := (some 30)) (k := 2) K rfl K K Tryz.call46 (Dj p q g1 A7 c8 j s u c.1 c.2.1 c.2.2.1 a4 a5 q2 q3 q4 q5 m a7 b0 d6 (Y3 a6 [2, 3, 0, 1, 4, 5] rfl rfl) (fun w hm => c3 w (SP.through a6 (l := [2, 3, 0, 1, 4, 5]) rfl hm)) h d7) ?_
   rintro e d8 ⟨rfl, c6⟩
   refine ⟨_, rfl, ?_⟩
   have d9 : SP S w0 d8 [Qv b3 44 #[(.string ⟨List.toArray a.1⟩), (.int .i64 a.2.1), (.int .i64 a.2.2.1), (.slice a0 (List.length a.2.2.2.1) a1), (.slice a2 (List.length a.2.2.2.2.1) a3)], Qv b5 48 #[(.string ⟨List.toArray c.1⟩), (.string ⟨List.toArray c.2.1⟩), (.int .i64 c.2.2.1)], Qv p 9 #[(.string ⟨List.toArray a4⟩)], Qv q 9 #[(.string ⟨List.toArray a5⟩)], Qv g1 79 #[(.int .i64 h.1), (.int .i64 h.2.1), (.int .i64 h.2.2.1), (.int .i64 h.2.2.2.1), (.slice A7 (List.length (List.map stT m)) c8), (.map (some j))], Zs j h.2.2.2.2.1, Qv s 29 #[(pt g1 0)], Qv u 4 #[(.bool h.2.2.2.2.2)]] := Za a6 [2, 3, 0, 1, 4, 5] [6, 7] rfl rfl c6 rfl
   clear c6
   refine iF ?_
   exact ⟨h.1, h.2.1, h.2.2.1, h.2.2.2.1, h.2.2.2.2.1, h.2.2.2.2.2, trivial, SP.sel d9 [4, 5, 2, 3, 6, 7] rfl rfl, H⟩
  ·have H := cf H c2
   refine At.skip K ?_
   exact ⟨q2, q3, q4, q5, a7, b0, trivial, SP.sel a6 [0, 1, 2, 3, 4, 5] rfl rfl, H⟩
 ·rintro ρ e5 ⟨b6, b7, b8, b9, c0, c1, hk, e0, H⟩
  unfold V8 at H
  first | refine At.known [] hk ?_ | rw [← Qz (l := []) hk]
  refine ⟨(.tuple #[]), K, ?_⟩
  obtain rfl := Qh H
  exact ⟨rfl, SP.sel e0 [0,1,2,3,4,5] rfl rfl⟩
def Zl (a : Bool) : Option (Bool) :=
  (some (a))
def Xw (q2 : Int) (q3 : Int) (q4 : Int) (q5 : Int) (q6 : (List Qi)) (d : N5) (e : (List UInt8)) (f : (List UInt8)) (g : (List UInt8)) (h : (List UInt8)) (i : Int) (c : Bool) : Option (Bool) :=
  ((Nv q2 q3 q4 q5 q6 e).bind fun a => ((U8 a.1 a.2.1 a.2.2.1 a.2.2.2.1 a.2.2.2.2.1 f).bind fun b => (cond b.2.2.2 ((Nc b.1 b.2.1 b.2.2.1 q2 q3 q4 q5 q6 d g h i c).bind fun j => (Zl j)) (Zl c))))
set_option maxRecDepth 100000 in
set_option maxHeartbeats 4000000 in
theorem Gs {S : List Nat} (g1 : Nat) (A7 : Option Addr) (c8 : Nat) (h : Nat) (m : Nat) (p : Nat) (q : Nat) (s : Nat) (u : Nat) (q2 : Int) (q3 : Int) (q4 : Int) (q5 : Int) (j : (List Vl)) (a4 : N5) (a9 : (List UInt8)) (b0 : (List UInt8)) (a5 : (List UInt8)) (a6 : (List UInt8)) (a7 : Int) (b1 : Bool) (w0 : World) (hO : SP S w0 w0 [Qv g1 79 #[(.int .i64 q2), (.int .i64 q3), (.int .i64 q4), (.int .i64 q5), (.slice A7 (List.length (List.map stT j)) c8), (.map (some h))], Zs h a4, Qv m 29 #[(pt g1 0)], Qv p 9 #[(.string ⟨List.toArray a5⟩)], Qv q 9 #[(.string ⟨List.toArray a6⟩)], Qv s 2 #[(.int .i64 a7)], Qv u 4 #[(.bool b1)]]) (c0 : ∀ w, Mod S w0 w → (dDS Ua Eh).ok w (A7, c8, j)) (r : (Bool)) (H : Xw q2 q3 q4 q5 (List.map stT j) a4 a9 b0 a5 a6 a7 b1 = some r) :
  Calls Tryz.prog 45 #[(pt g1 0), (.string ⟨List.toArray a9⟩), (.string ⟨List.toArray b0⟩), (.func (.func 49) #[] #[(pt m 0), (pt p 0), (pt q 0), (pt s 0), (pt u 0)])] w0 (fun e w' => e = .returned (.tuple #[]) ∧ SP S w0 w' [Qv g1 79 #[(.int .i64 q2), (.int .i64 q3), (.int .i64 q4), (.int .i64 q5), (.slice A7 (List.length (List.map stT j)) c8), (.map (some h))], Zs h a4, Qv m 29 #[(pt g1 0)], Qv p 9 #[(.string ⟨List.toArray a5⟩)], Qv q 9 #[(.string ⟨List.toArray a6⟩)], Qv s 2 #[(.int .i64 a7)], Qv u 4 #[(.bool r)]]) := by
 unfold Xw at H
 refine Qu (n := 31) Tryz.func45 K K K ?_
 have b3 := hO
 refine aQ ?_
 refine aR ?_
 refine iR 3 3 [(13, (pt g1 0)), (14, (pt g1 0)), (15, (pt g1 0))] ?_
 refine iS 4 ?_
 refine sL 24 15 g1 0 0 (.agg #[(.int .i64 q2), (.int .i64 q3), (.int .i64 q4), (.int .i64 q5), (.slice A7 (List.length (List.map stT j)) c8)]) 16 b3 rfl ?_
 refine iR 1 5 [(17, (.string ⟨List.toArray a9⟩))] ?_
 obtain ⟨a, c4, H⟩ := Qe H
 refine iS 6 ?_
 refine cF 67 #[(.tmp 16), (.tmp 17)] #[24, 9] 18 Tryz.call67 (Ro (R := fun w => Mod S w0 w) A7 c8 q2 q3 q4 q5 j a9 w0 (fun w hb => Fx b3 hb) c0 a c4) ?_
 rintro e d8 ⟨a0, a1, a2, a3, rfl, c5, c6, c1⟩
 refine ⟨_, rfl, ?_⟩
 have c7 := SP.call b3 c1
 clear c1
 refine iR 3 9 [(12, (.tuple #[(.agg #[(.string ⟨List.toArray a.1⟩), (.int .i64 a.2.1), (.int .i64 a.2.2.1), (.slice a0 (List.length a.2.2.2.1) a1), (.slice a2 (List.length a.2.2.2.2.1) a3)]), (.bool a.2.2.2.2.2)])), (19, (.agg #[(.string ⟨List.toArray a.1⟩), (.int .i64 a.2.1), (.int .i64 a.2.2.1), (.slice a0 (List.length a.2.2.2.1) a1), (.slice a2 (List.length a.2.2.2.2.1) a3)])), (20, (.bool a.2.2.2.2.2))] ?_
 refine iS 10 ?_
 refine Qk.alloc (t := 44) (z := (.agg #[(.string ⟨List.toArray ([] : List UInt8)⟩), (.int .i64 0), (.int .i64 0), (.slice none (List.length ([] : List (Int × Int))) 0), (.slice none (List.length ([] : List ((List UInt8) × (List UInt8) × Int))) 0)])) (d := (some 8)) (k := 9) K rfl K c7 ?_
 intro b4 d9 c9
 refine iS 11 ?_
 refine Qk.store (t := 44) (x := (.tmp 8)) (y := (.tmp 19)) (g := b4) (off := 0) (i := 7) (v := (.agg #[(.string ⟨List.toArray a.1⟩), (.int .i64 a.2.1), (.int .i64 a.2.2.1), (.slice a0 (List.length a.2.2.2.1) a1), (.slice a2 (List.length a.2.2.2.2.1) a3)])) (cs' := #[(.string ⟨List.toArray a.1⟩), (.int .i64 a.2.1), (.int .i64 a.2.2.1), (.slice a0 (List.length a.2.2.2.1) a1), (.slice a2 (List.length a.2.2.2.2.1) a3)]) (d := none) (k := 10) K rfl K K c9 rfl K ?_
 intro b5 b2
 refine iR 1 12 [(9, (.bool a.2.2.2.2.2))] ?_
 refine iF ?_
 refine aQ ?_
 refine aR ?_
 refine iS 1 ?_
 refine sL 44 8 b4 0 7 (.agg #[(.string ⟨List.toArray a.1⟩), (.int .i64 a.2.1), (.int .i64 a.2.2.1), (.slice a0 (List.length a.2.2.2.1) a1), (.slice a2 (List.length a.2.2.2.2.1) a3)]) 22 b2 rfl ?_
 refine iR 1 2 [(23, (.string ⟨List.toArray b0⟩))] ?_
 obtain ⟨c, d0, H⟩ := Qe H
 refine iS 3 ?_
 refine cF 68 #[(.tmp 22), (.tmp 23)] #[44, 9] 24 Tryz.call68 (G9 a0 a1 a2 a3 a.1 a.2.1 a.2.2.1 a.2.2.2.1 a.2.2.2.2.1 b0 b5 (c5 b5 (SP.mod b2)) (c6 b5 (SP.mod b2)) c d0) ?_
 rintro e e0 ⟨rfl, c2⟩
 refine ⟨_, rfl, ?_⟩
 have d1 := SP.call b2 c2
 clear c2
 refine iR 3 6 [(21, (.tuple #[(.agg #[(.string ⟨List.toArray c.1⟩), (.string ⟨List.toArray c.2.1⟩), (.int .i64 c.2.2.1)]), (.bool c.2.2.2)])), (25, (.agg #[(.string ⟨List.toArray c.1⟩), (.string ⟨List.toArray c.2.1⟩), (.int .i64 c.2.2.1)])), (26, (.bool c.2.2.2))] ?_
 refine iS 7 ?_
 refine Qk.alloc (t := 48) (z := (.agg #[(.string ⟨List.toArray ([] : List UInt8)⟩), (.string ⟨List.toArray ([] : List UInt8)⟩), (.int .i64 0)])) (d := (some 10)) (k := 6) K rfl K d1 ?_
 intro b6 e1 d2
 refine iS 8 ?_
 refine Qk.store (t := 48) (x := (.tmp 10)) (y := (.tmp 25)) (g := b6) (off := 0) (i := 8) (v := (.agg #[(.string ⟨List.toArray c.1⟩), (.string ⟨List.toArray c.2.1⟩), (.int .i64 c.2.2.1)])) (cs' := #[(.string ⟨List.toArray c.1⟩), (.string ⟨List.toArray c.2.1⟩), (.int .i64 c.2.2.1)]) (d := none) (k := 7) K rfl K K d2 rfl K ?_
 intro d3 a8
 refine iR 1 9 [(11, (.bool c.2.2.2))] ?_
 refine iF ?_
 refine aQ ?_
 refine aR ?_
 refine iR 1 1 [(27, (.bool c.2.2.2))] ?_
 refine iF ?_
 refine At.join (fun ρ w => ∃ (b7 : Bool), V3 ρ [] ∧ SP S w0 w [Qv g1 79 #[(.int .i64 q2), (.int .i64 q3), (.int .i64 q4), (.int .i64 q5), (.slice A7 (List.length (List.map stT j)) c8), (.map (some h))], Zs h a4, Qv m 29 #[(pt g1 0)], Qv p 9 #[(.string ⟨List.toArray a5⟩)], Qv q 9 #[(.string ⟨List.toArray a6⟩)], Qv s 2 #[(.int .i64 a7)], Qv u 4 #[(.bool b7)]] ∧ Zl b7 = some r) ?_ ?_
 ·refine Zk K (o := (.tmp 27)) K (b := c.2.2.2) K (fun b8 => ?_) (fun b8 => ?_)
  ·have H := ct H b8
   refine aR ?_
   refine iR 1 1 [(28, (.func (.func 49) #[] #[(pt m 0), (pt p 0), (pt q 0), (pt s 0), (pt u 0)]))] ?_
   refine iS 2 ?_
   refine sL 48 10 b6 0 8 (.agg #[(.string ⟨List.toArray c.1⟩), (.string ⟨List.toArray c.2.1⟩), (.int .i64 c.2.2.1)]) 29 a8 rfl ?_
   obtain ⟨b9, d4, H⟩ := Qe H
   refine iS 3 ?_
   refine Ud (f := 49) (fo := (.tmp 28)) (xs := #[(.tmp 29)]) (tys := #[48]) (first := #[]) (captured := #[(pt m 0), (pt p 0), (pt q 0), (pt s 0), (pt u 0)]) (d := (some 30)) (k := 2) K rfl K K Tryz.call49 (D0 g1 A7 c8 h m p q s u c.1 c.2.1 c.2.2.1 q2 q3 q4 q5 j a4 a5 a6 a7 b1 d3 (Y3 a8 [0, 1, 2, 3, 4, 5, 6] rfl rfl) (fun w hm => c0 w (SP.through a8 (l := [0, 1, 2, 3, 4, 5, 6]) rfl hm)) b9 d4) ?_
   rintro e d5 ⟨rfl, c3⟩
   refine ⟨_, rfl, ?_⟩
   have d6 : SP S w0 d5 [Qv b4 44 #[(.string ⟨List.toArray a.1⟩), (.int .i64 a.2.1), (.int .i64 a.2.2.1), (.slice a0 (List.length a.2.2.2.1) a1), (.slice a2 (List.length a.2.2.2.2.1) a3)], Qv b6 48 #[(.string ⟨List.toArray c.1⟩), (.string ⟨List.toArray c.2.1⟩), (.int .i64 c.2.2.1)], Qv g1 79 #[(.int .i64 q2), (.int .i64 q3), (.int .i64 q4), (.int .i64 q5), (.slice A7 (List.length (List.map stT j)) c8), (.map (some h))], Zs h a4, Qv m 29 #[(pt g1 0)], Qv p 9 #[(.string ⟨List.toArray a5⟩)], Qv q 9 #[(.string ⟨List.toArray a6⟩)], Qv s 2 #[(.int .i64 a7)], Qv u 4 #[(.bool b9)]] := Za a8 [0, 1, 2, 3, 4, 5, 6] [7, 8] rfl rfl c3 rfl
   clear c3
   refine iF ?_
   exact ⟨b9, trivial, SP.sel d6 [2, 3, 4, 5, 6, 7, 8] rfl rfl, H⟩
  ·have H := cf H b8
   refine At.skip K ?_
   exact ⟨b1, trivial, SP.sel a8 [0, 1, 2, 3, 4, 5, 6] rfl rfl, H⟩
 ·rintro ρ e2 ⟨b7, hk, d7, H⟩
  unfold Zl at H
  first | refine At.known [] hk ?_ | rw [← Qz (l := []) hk]
  refine ⟨(.tuple #[]), K, ?_⟩
  obtain rfl := Qh H
  exact ⟨rfl, SP.sel d7 [0,1,2,3,4,5,6] rfl rfl⟩
def Zm (a : (List UInt8)) : Option ((List UInt8)) :=
  (some (a))
def Xx (q2 : Int) (q3 : Int) (q4 : Int) (q5 : Int) (q6 : (List Qi)) (j : N5) (d : (List UInt8)) (e : (List UInt8)) (f : (List UInt8)) (g : (List UInt8)) (h : (List UInt8)) (c : (List UInt8)) : Option ((List UInt8)) :=
  ((Nv q2 q3 q4 q5 q6 d).bind fun a => ((U8 a.1 a.2.1 a.2.2.1 a.2.2.2.1 a.2.2.2.2.1 e).bind fun b => (cond b.2.2.2 ((Nd b.1 b.2.1 b.2.2.1 f g h c).bind fun i => (Zm i)) (Zm c))))
set_option maxRecDepth 100000 in
set_option maxHeartbeats 4000000 in
theorem Gt {S : List Nat} (g1 : Nat) (A7 : Option Addr) (c8 : Nat) (h : Nat) (j : Nat) (m : Nat) (p : Nat) (q : Nat) (q2 : Int) (q3 : Int) (q4 : Int) (q5 : Int) (s : (List Vl)) (a6 : N5) (a7 : (List UInt8)) (a8 : (List UInt8)) (a3 : (List UInt8)) (a4 : (List UInt8)) (a5 : (List UInt8)) (a9 : (List UInt8)) (w0 : World) (hO : SP S w0 w0 [Qv g1 79 #[(.int .i64 q2), (.int .i64 q3), (.int .i64 q4), (.int .i64 q5), (.slice A7 (List.length (List.map stT s)) c8), (.map (some h))], Zs h a6, Qv j 9 #[(.string ⟨List.toArray a3⟩)], Qv m 9 #[(.string ⟨List.toArray a4⟩)], Qv p 9 #[(.string ⟨List.toArray a5⟩)], Qv q 9 #[(.string ⟨List.toArray a9⟩)]]) (c2 : ∀ w, Mod S w0 w → (dDS Ua Eh).ok w (A7, c8, s)) (r : ((List UInt8))) (H : Xx q2 q3 q4 q5 (List.map stT s) a6 a7 a8 a3 a4 a5 a9 = some r) :
  Calls Tryz.prog 45 #[(pt g1 0), (.string ⟨List.toArray a7⟩), (.string ⟨List.toArray a8⟩), (.func (.func 50) #[] #[(pt j 0), (pt m 0), (pt p 0), (pt q 0)])] w0 (fun e w' => e = .returned (.tuple #[]) ∧ SP S w0 w' [Qv g1 79 #[(.int .i64 q2), (.int .i64 q3), (.int .i64 q4), (.int .i64 q5), (.slice A7 (List.length (List.map stT s)) c8), (.map (some h))], Zs h a6, Qv j 9 #[(.string ⟨List.toArray a3⟩)], Qv m 9 #[(.string ⟨List.toArray a4⟩)], Qv p 9 #[(.string ⟨List.toArray a5⟩)], Qv q 9 #[(.string ⟨List.toArray r⟩)]]) := by
 unfold Xx at H
 refine Qu (n := 31) Tryz.func45 K K K ?_
 have b2 := hO
 refine aQ ?_
 refine aR ?_
 refine iR 3 3 [(13, (pt g1 0)), (14, (pt g1 0)), (15, (pt g1 0))] ?_
 refine iS 4 ?_
 refine sL 24 15 g1 0 0 (.agg #[(.int .i64 q2), (.int .i64 q3), (.int .i64 q4), (.int .i64 q5), (.slice A7 (List.length (List.map stT s)) c8)]) 16 b2 rfl ?_
 refine iR 1 5 [(17, (.string ⟨List.toArray a7⟩))] ?_
 obtain ⟨a, c3, H⟩ := Qe H
 refine iS 6 ?_
 refine cF 67 #[(.tmp 16), (.tmp 17)] #[24, 9] 18 Tryz.call67 (Ro (R := fun w => Mod S w0 w) A7 c8 q2 q3 q4 q5 s a7 w0 (fun w hb => Fx b2 hb) c2 a c3) ?_
 rintro e d7 ⟨u, a0, a1, a2, rfl, c4, c5, b9⟩
 refine ⟨_, rfl, ?_⟩
 have c6 := SP.call b2 b9
 clear b9
 refine iR 3 9 [(12, (.tuple #[(.agg #[(.string ⟨List.toArray a.1⟩), (.int .i64 a.2.1), (.int .i64 a.2.2.1), (.slice u (List.length a.2.2.2.1) a0), (.slice a1 (List.length a.2.2.2.2.1) a2)]), (.bool a.2.2.2.2.2)])), (19, (.agg #[(.string ⟨List.toArray a.1⟩), (.int .i64 a.2.1), (.int .i64 a.2.2.1), (.slice u (List.length a.2.2.2.1) a0), (.slice a1 (List.length a.2.2.2.2.1) a2)])), (20, (.bool a.2.2.2.2.2))] ?_
 refine iS 10 ?_
 refine Qk.alloc (t := 44) (z := (.agg #[(.string ⟨List.toArray ([] : List UInt8)⟩), (.int .i64 0), (.int .i64 0), (.slice none (List.length ([] : List (Int × Int))) 0), (.slice none (List.length ([] : List ((List UInt8) × (List UInt8) × Int))) 0)])) (d := (some 8)) (k := 9) K rfl K c6 ?_
 intro b3 d8 c7
 refine iS 11 ?_
 refine Qk.store (t := 44) (x := (.tmp 8)) (y := (.tmp 19)) (g := b3) (off := 0) (i := 6) (v := (.agg #[(.string ⟨List.toArray a.1⟩), (.int .i64 a.2.1), (.int .i64 a.2.2.1), (.slice u (List.length a.2.2.2.1) a0), (.slice a1 (List.length a.2.2.2.2.1) a2)])) (cs' := #[(.string ⟨List.toArray a.1⟩), (.int .i64 a.2.1), (.int .i64 a.2.2.1), (.slice u (List.length a.2.2.2.1) a0), (.slice a1 (List.length a.2.2.2.2.1) a2)]) (d := none) (k := 10) K rfl K K c7 rfl K ?_
 intro b4 b0
 refine iR 1 12 [(9, (.bool a.2.2.2.2.2))] ?_
 refine iF ?_
 refine aQ ?_
 refine aR ?_
 refine iS 1 ?_
 refine sL 44 8 b3 0 6 (.agg #[(.string ⟨List.toArray a.1⟩), (.int .i64 a.2.1), (.int .i64 a.2.2.1), (.slice u (List.length a.2.2.2.1) a0), (.slice a1 (List.length a.2.2.2.2.1) a2)]) 22 b0 rfl ?_
 refine iR 1 2 [(23, (.string ⟨List.toArray a8⟩))] ?_
 obtain ⟨c, c9, H⟩ := Qe H
 refine iS 3 ?_
 refine cF 68 #[(.tmp 22), (.tmp 23)] #[44, 9] 24 Tryz.call68 (G9 u a0 a1 a2 a.1 a.2.1 a.2.2.1 a.2.2.2.1 a.2.2.2.2.1 a8 b4 (c4 b4 (SP.mod b0)) (c5 b4 (SP.mod b0)) c c9) ?_
 rintro e d9 ⟨rfl, c0⟩
 refine ⟨_, rfl, ?_⟩
 have d0 := SP.call b0 c0
 clear c0
 refine iR 3 6 [(21, (.tuple #[(.agg #[(.string ⟨List.toArray c.1⟩), (.string ⟨List.toArray c.2.1⟩), (.int .i64 c.2.2.1)]), (.bool c.2.2.2)])), (25, (.agg #[(.string ⟨List.toArray c.1⟩), (.string ⟨List.toArray c.2.1⟩), (.int .i64 c.2.2.1)])), (26, (.bool c.2.2.2))] ?_
 refine iS 7 ?_
 refine Qk.alloc (t := 48) (z := (.agg #[(.string ⟨List.toArray ([] : List UInt8)⟩), (.string ⟨List.toArray ([] : List UInt8)⟩), (.int .i64 0)])) (d := (some 10)) (k := 6) K rfl K d0 ?_
 intro b5 e0 d1
 refine iS 8 ?_
 refine Qk.store (t := 48) (x := (.tmp 10)) (y := (.tmp 25)) (g := b5) (off := 0) (i := 7) (v := (.agg #[(.string ⟨List.toArray c.1⟩), (.string ⟨List.toArray c.2.1⟩), (.int .i64 c.2.2.1)])) (cs' := #[(.string ⟨List.toArray c.1⟩), (.string ⟨List.toArray c.2.1⟩), (.int .i64 c.2.2.1)]) (d := none) (k := 7) K rfl K K d1 rfl K ?_
 intro d2 b1
 refine iR 1 9 [(11, (.bool c.2.2.2))] ?_
 refine iF ?_
 refine aQ ?_
 refine aR ?_
 refine iR 1 1 [(27, (.bool c.2.2.2))] ?_
 refine iF ?_
 refine At.join (fun ρ w => ∃ (b6 : (List UInt8)), V3 ρ [] ∧ SP S w0 w [Qv g1 79 #[(.int .i64 q2), (.int .i64 q3), (.int .i64 q4), (.int .i64 q5), (.slice A7 (List.length (List.map stT s)) c8), (.map (some h))], Zs h a6, Qv j 9 #[(.string ⟨List.toArray a3⟩)], Qv m 9 #[(.string ⟨List.toArray a4⟩)], Qv p 9 #[(.string ⟨List.toArray a5⟩)], Qv q 9 #[(.string ⟨List.toArray b6⟩)]] ∧ Zm b6 = some r) ?_ ?_
 ·refine Zk K (o := (.tmp 27)) K (b := c.2.2.2) K (fun b7 => ?_) (fun b7 => ?_)
  ·have H := ct H b7
   refine aR ?_
   refine iR 1 1 [(28, (.func (.func 50) #[] #[(pt j 0), (pt m 0), (pt p 0), (pt q 0)]))] ?_
   refine iS 2 ?_
   refine sL 48 10 b5 0 7 (.agg #[(.string ⟨List.toArray c.1⟩), (.string ⟨List.toArray c.2.1⟩), (.int .i64 c.2.2.1)]) 29 b1 rfl ?_
   obtain ⟨b8, d3, H⟩ := Qe H
   refine iS 3 ?_
   refine Ud (f := 50) (fo := (.tmp 28)) (xs := #[(.tmp 29)]) (tys := #[48]) (first := #[]) (captured := #[(pt j 0), (pt m 0), (pt p 0), (pt q 0)]) (d := (some 30)) (k := 2) K rfl K K Tryz.call50 (D1 j m p q c.1 c.2.1 c.2.2.1 a3 a4 a5 a9 d2 (Y3 b1 [2, 3, 4, 5] rfl rfl) b8 d3) ?_
   rintro e d4 ⟨rfl, c1⟩
   refine ⟨_, rfl, ?_⟩
   have d5 : SP S w0 d4 [Qv g1 79 #[(.int .i64 q2), (.int .i64 q3), (.int .i64 q4), (.int .i64 q5), (.slice A7 (List.length (List.map stT s)) c8), (.map (some h))], Zs h a6, Qv b3 44 #[(.string ⟨List.toArray a.1⟩), (.int .i64 a.2.1), (.int .i64 a.2.2.1), (.slice u (List.length a.2.2.2.1) a0), (.slice a1 (List.length a.2.2.2.2.1) a2)], Qv b5 48 #[(.string ⟨List.toArray c.1⟩), (.string ⟨List.toArray c.2.1⟩), (.int .i64 c.2.2.1)], Qv j 9 #[(.string ⟨List.toArray a3⟩)], Qv m 9 #[(.string ⟨List.toArray a4⟩)], Qv p 9 #[(.string ⟨List.toArray a5⟩)], Qv q 9 #[(.string ⟨List.toArray b8⟩)]] := Za b1 [2, 3, 4, 5] [0, 1, 6, 7] rfl rfl c1 rfl
   clear c1
   refine iF ?_
   exact ⟨b8, trivial, SP.sel d5 [0, 1, 4, 5, 6, 7] rfl rfl, H⟩
  ·have H := cf H b7
   refine At.skip K ?_
   exact ⟨a9, trivial, SP.sel b1 [0, 1, 2, 3, 4, 5] rfl rfl, H⟩
 ·rintro ρ e1 ⟨b6, hk, d6, H⟩
  unfold Zm at H
  first | refine At.known [] hk ?_ | rw [← Qz (l := []) hk]
  refine ⟨(.tuple #[]), K, ?_⟩
  obtain rfl := Qh H
  exact ⟨rfl, SP.sel d6 [0,1,2,3,4,5] rfl rfl⟩
def Yh (q2 : Int) (q3 : Int) (q4 : Int) (q5 : Int) (q6 : (List Qi)) (d : N5) (b : (List UInt8)) (c : (List UInt8)) : Option (Bool × Int × Int × Int × Int × N5) :=
  ((Xh q2 q3 q4 q5 q6 d b c b c false).bind fun a => (some (a.2.2.2.2.2, a.1, a.2.1, a.2.2.1, a.2.2.2.1, a.2.2.2.2.1)))
set_option maxRecDepth 100000 in
set_option maxHeartbeats 4000000 in
theorem U9 {S : List Nat} (g1 : Nat) (A7 : Option Addr) (c8 : Nat) (b : Nat) (q2 : Int) (q3 : Int) (q4 : Int) (q5 : Int) (h : (List Vl)) (s : N5) (c : (List UInt8)) (f : (List UInt8)) (w0 : World) (hO : SP S w0 w0 [Qv g1 79 #[(.int .i64 q2), (.int .i64 q3), (.int .i64 q4), (.int .i64 q5), (.slice A7 (List.length (List.map stT h)) c8), (.map (some b))], Zs b s]) (a1 : ∀ w, Mod S w0 w → (dDS Ua Eh).ok w (A7, c8, h)) (r : (Bool × Int × Int × Int × Int × N5)) (H : Yh q2 q3 q4 q5 (List.map stT h) s c f = some r) :
  Calls Tryz.prog 20 #[(pt g1 0), (.string ⟨List.toArray c⟩), (.string ⟨List.toArray f⟩)] w0 (fun e w' => e = .returned (.bool r.1) ∧ SP S w0 w' [Qv g1 79 #[(.int .i64 r.2.1), (.int .i64 r.2.2.1), (.int .i64 r.2.2.2.1), (.int .i64 r.2.2.2.2.1), (.slice A7 (List.length (List.map stT h)) c8), (.map (some b))], Zs b r.2.2.2.2.2]) := by
 unfold Yh at H
 refine Qu (n := 14) Tryz.func20 K K K ?_
 have a2 := hO
 refine aQ ?_
 refine aR ?_
 refine iS 1 ?_
 refine V6 (t := 29) (x := (.tmp 0)) (v := (pt g1 0)) (d := (some 3)) (k := 0) K rfl K a2 ?_
 intro o b0 a3
 refine iS 2 ?_
 refine V6 (t := 9) (x := (.tmp 1)) (v := (.string ⟨List.toArray c⟩)) (d := (some 4)) (k := 1) K rfl K a3 ?_
 intro p b1 a4
 refine iS 3 ?_
 refine V6 (t := 9) (x := (.tmp 2)) (v := (.string ⟨List.toArray f⟩)) (d := (some 5)) (k := 2) K rfl K a4 ?_
 intro q b2 a5
 refine iR 1 4 [(6, (.bool false))] ?_
 refine iF ?_
 refine aQ ?_
 refine aR ?_
 refine iS 1 ?_
 refine Qk.alloc (t := 4) (z := (.bool false)) (d := (some 7)) (k := 0) K rfl K a5 ?_
 intro m b3 a6
 refine iS 2 ?_
 refine Qk.store (t := 4) (x := (.tmp 7)) (y := (.const (.bool false))) (g := m) (off := 0) (i := 5) (v := (.bool false)) (cs' := #[(.bool false)]) (d := none) (k := 1) K rfl K K a6 rfl K ?_
 intro a7 j
 refine iF ?_
 refine aQ ?_
 refine aR ?_
 refine iS 1 ?_
 refine sL 29 3 o 0 2 (pt g1 0) 8 j rfl ?_
 refine iS 2 ?_
 refine sL 9 4 p 0 3 (.string ⟨List.toArray c⟩) 9 j rfl ?_
 refine iS 3 ?_
 refine sL 9 5 q 0 4 (.string ⟨List.toArray f⟩) 10 j rfl ?_
 refine iR 1 4 [(11, (.func (.func 46) #[] #[(pt p 0), (pt q 0), (pt o 0), (pt m 0)]))] ?_
 obtain ⟨a, a8, H⟩ := Qe H
 refine iS 5 ?_
 refine cF 45 #[(.tmp 8), (.tmp 9), (.tmp 10), (.tmp 11)] #[29, 9, 9, 84] 12 Tryz.call45 (Gj g1 A7 c8 b p q o m q2 q3 q4 q5 h s c f c f false a7 (Y3 j [0, 1, 3, 4, 2, 5] rfl rfl) (fun w hm => a1 w (SP.through j (l := [0, 1, 3, 4, 2, 5]) rfl hm)) a a8) ?_
 rintro e a9 ⟨rfl, u⟩
 refine ⟨_, rfl, ?_⟩
 have a0 : SP S w0 a9 [Qv g1 79 #[(.int .i64 a.1), (.int .i64 a.2.1), (.int .i64 a.2.2.1), (.int .i64 a.2.2.2.1), (.slice A7 (List.length (List.map stT h)) c8), (.map (some b))], Zs b a.2.2.2.2.1, Qv p 9 #[(.string ⟨List.toArray c⟩)], Qv q 9 #[(.string ⟨List.toArray f⟩)], Qv o 29 #[(pt g1 0)], Qv m 4 #[(.bool a.2.2.2.2.2)]] := Za j [0, 1, 3, 4, 2, 5] [] rfl rfl u rfl
 clear u
 refine iF ?_
 refine aQ ?_
 refine aR ?_
 refine iS 1 ?_
 refine sL 4 7 m 0 5 (.bool a.2.2.2.2.2) 13 a0 rfl ?_
 refine iR 1 2 [(6, (.bool a.2.2.2.2.2))] ?_
 refine iF ?_
 refine At.ret K ?_
 refine ⟨(.bool a.2.2.2.2.2), K, ?_⟩
 obtain rfl := Qh H
 exact ⟨rfl, SP.sel a0 [0,1] rfl rfl⟩
def Yj (q2 : Int) (q3 : Int) (q4 : Int) (q5 : Int) (q6 : (List Qi)) (c : N5) (a : (List UInt8)) (b : (List UInt8)) (d : Int) : Option (Bool) :=
  ((Xw q2 q3 q4 q5 q6 c a b a b d false).bind fun e => (some (e)))
set_option maxRecDepth 100000 in
set_option maxHeartbeats 4000000 in
theorem Yc {S : List Nat} (g1 : Nat) (A7 : Option Addr) (c8 : Nat) (a : Nat) (q2 : Int) (q3 : Int) (q4 : Int) (q5 : Int) (f : (List Vl)) (j : N5) (b : (List UInt8)) (c : (List UInt8)) (m : Int) (w0 : World) (hO : SP S w0 w0 [Qv g1 79 #[(.int .i64 q2), (.int .i64 q3), (.int .i64 q4), (.int .i64 q5), (.slice A7 (List.length (List.map stT f)) c8), (.map (some a))], Zs a j]) (a3 : ∀ w, Mod S w0 w → (dDS Ua Eh).ok w (A7, c8, f)) (r : (Bool)) (H : Yj q2 q3 q4 q5 (List.map stT f) j b c m = some r) :
  Calls Tryz.prog 22 #[(pt g1 0), (.string ⟨List.toArray b⟩), (.string ⟨List.toArray c⟩), (.int .i64 m)] w0 (fun e w' => e = .returned (.bool r) ∧ SP S w0 w' [Qv g1 79 #[(.int .i64 q2), (.int .i64 q3), (.int .i64 q4), (.int .i64 q5), (.slice A7 (List.length (List.map stT f)) c8), (.map (some a))], Zs a j]) := by
 unfold Yj at H
 refine Qu (n := 16) Tryz.func22 K K K ?_
 have a4 := hO
 refine aQ ?_
 refine aR ?_
 refine iS 1 ?_
 refine V6 (t := 29) (x := (.tmp 0)) (v := (pt g1 0)) (d := (some 4)) (k := 0) K rfl K a4 ?_
 intro q b3 a5
 refine iS 2 ?_
 refine V6 (t := 9) (x := (.tmp 1)) (v := (.string ⟨List.toArray b⟩)) (d := (some 5)) (k := 1) K rfl K a5 ?_
 intro s b4 a6
 refine iS 3 ?_
 refine V6 (t := 9) (x := (.tmp 2)) (v := (.string ⟨List.toArray c⟩)) (d := (some 6)) (k := 2) K rfl K a6 ?_
 intro u b5 a7
 refine iS 4 ?_
 refine V6 (t := 2) (x := (.tmp 3)) (v := (.int .i64 m)) (d := (some 7)) (k := 3) K rfl K a7 ?_
 intro a0 b6 a8
 refine iR 1 5 [(8, (.bool false))] ?_
 refine iF ?_
 refine aQ ?_
 refine aR ?_
 refine iS 1 ?_
 refine Qk.alloc (t := 4) (z := (.bool false)) (d := (some 9)) (k := 0) K rfl K a8 ?_
 intro o b7 a9
 refine iS 2 ?_
 refine Qk.store (t := 4) (x := (.tmp 9)) (y := (.const (.bool false))) (g := o) (off := 0) (i := 6) (v := (.bool false)) (cs' := #[(.bool false)]) (d := none) (k := 1) K rfl K K a9 rfl K ?_
 intro b0 h
 refine iF ?_
 refine aQ ?_
 refine aR ?_
 refine iS 1 ?_
 refine sL 29 4 q 0 2 (pt g1 0) 10 h rfl ?_
 refine iS 2 ?_
 refine sL 9 5 s 0 3 (.string ⟨List.toArray b⟩) 11 h rfl ?_
 refine iS 3 ?_
 refine sL 9 6 u 0 4 (.string ⟨List.toArray c⟩) 12 h rfl ?_
 refine iR 1 4 [(13, (.func (.func 49) #[] #[(pt q 0), (pt s 0), (pt u 0), (pt a0 0), (pt o 0)]))] ?_
 obtain ⟨p, b1, H⟩ := Qe H
 refine iS 5 ?_
 refine cF 45 #[(.tmp 10), (.tmp 11), (.tmp 12), (.tmp 13)] #[29, 9, 9, 84] 14 Tryz.call45 (Gs g1 A7 c8 a q s u a0 o q2 q3 q4 q5 f j b c b c m false b0 (Y3 h [0, 1, 2, 3, 4, 5, 6] rfl rfl) (fun w hm => a3 w (SP.through h (l := [0, 1, 2, 3, 4, 5, 6]) rfl hm)) p b1) ?_
 rintro e b2 ⟨rfl, a1⟩
 refine ⟨_, rfl, ?_⟩
 have a2 : SP S w0 b2 [Qv g1 79 #[(.int .i64 q2), (.int .i64 q3), (.int .i64 q4), (.int .i64 q5), (.slice A7 (List.length (List.map stT f)) c8), (.map (some a))], Zs a j, Qv q 29 #[(pt g1 0)], Qv s 9 #[(.string ⟨List.toArray b⟩)], Qv u 9 #[(.string ⟨List.toArray c⟩)], Qv a0 2 #[(.int .i64 m)], Qv o 4 #[(.bool p)]] := Za h [0, 1, 2, 3, 4, 5, 6] [] rfl rfl a1 rfl
 clear a1
 refine iF ?_
 refine aQ ?_
 refine aR ?_
 refine iS 1 ?_
 refine sL 4 9 o 0 6 (.bool p) 15 a2 rfl ?_
 refine iR 1 2 [(8, (.bool p))] ?_
 refine iF ?_
 refine At.ret K ?_
 refine ⟨(.bool p), K, ?_⟩
 obtain rfl := Qh H
 exact ⟨rfl, SP.sel a2 [0,1] rfl rfl⟩
def Yk (q2 : Int) (q3 : Int) (q4 : Int) (q5 : Int) (q6 : (List Qi)) (c : N5) (a : (List UInt8)) (b : (List UInt8)) (d : (List UInt8)) : Option ((List UInt8)) :=
  ((Xx q2 q3 q4 q5 q6 c a b a b d ([] : List UInt8)).bind fun e => (some (e)))
set_option maxRecDepth 100000 in
set_option maxHeartbeats 4000000 in
theorem Y9 {S : List Nat} (g1 : Nat) (A7 : Option Addr) (c8 : Nat) (a : Nat) (q2 : Int) (q3 : Int) (q4 : Int) (q5 : Int) (f : (List Vl)) (h : N5) (b : (List UInt8)) (c : (List UInt8)) (j : (List UInt8)) (w0 : World) (hO : SP S w0 w0 [Qv g1 79 #[(.int .i64 q2), (.int .i64 q3), (.int .i64 q4), (.int .i64 q5), (.slice A7 (List.length (List.map stT f)) c8), (.map (some a))], Zs a h]) (a2 : ∀ w, Mod S w0 w → (dDS Ua Eh).ok w (A7, c8, f)) (r : ((List UInt8))) (H : Yk q2 q3 q4 q5 (List.map stT f) h b c j = some r) :
  Calls Tryz.prog 24 #[(pt g1 0), (.string ⟨List.toArray b⟩), (.string ⟨List.toArray c⟩), (.string ⟨List.toArray j⟩)] w0 (fun e w' => e = .returned (.string ⟨List.toArray r⟩) ∧ SP S w0 w' [Qv g1 79 #[(.int .i64 q2), (.int .i64 q3), (.int .i64 q4), (.int .i64 q5), (.slice A7 (List.length (List.map stT f)) c8), (.map (some a))], Zs a h]) := by
 unfold Yk at H
 refine Qu (n := 16) Tryz.func24 K K K ?_
 have a3 := hO
 refine aQ ?_
 refine aR ?_
 refine iS 1 ?_
 refine V6 (t := 9) (x := (.tmp 1)) (v := (.string ⟨List.toArray b⟩)) (d := (some 5)) (k := 0) K rfl K a3 ?_
 intro q b1 a4
 refine iS 2 ?_
 refine V6 (t := 9) (x := (.tmp 2)) (v := (.string ⟨List.toArray c⟩)) (d := (some 6)) (k := 1) K rfl K a4 ?_
 intro s b2 a5
 refine iS 3 ?_
 refine V6 (t := 9) (x := (.tmp 3)) (v := (.string ⟨List.toArray j⟩)) (d := (some 7)) (k := 2) K rfl K a5 ?_
 intro u b3 a6
 refine iR 1 4 [(8, (.string ⟨List.toArray ([] : List UInt8)⟩))] ?_
 refine iF ?_
 refine aQ ?_
 refine aR ?_
 refine iS 1 ?_
 refine Qk.alloc (t := 9) (z := (.string ⟨List.toArray ([] : List UInt8)⟩)) (d := (some 9)) (k := 0) K rfl K a6 ?_
 intro m b4 a7
 refine iS 2 ?_
 refine Qk.store (t := 9) (x := (.tmp 9)) (y := (.const (.string ⟨List.toArray ([] : List UInt8)⟩))) (g := m) (off := 0) (i := 5) (v := (.string ⟨List.toArray ([] : List UInt8)⟩)) (cs' := #[(.string ⟨List.toArray ([] : List UInt8)⟩)]) (d := none) (k := 1) K rfl K K a7 rfl K ?_
 intro a8 o
 refine iF ?_
 refine aQ ?_
 refine aR ?_
 refine iR 1 1 [(10, (pt g1 0))] ?_
 refine iS 2 ?_
 refine sL 9 5 q 0 2 (.string ⟨List.toArray b⟩) 11 o rfl ?_
 refine iS 3 ?_
 refine sL 9 6 s 0 3 (.string ⟨List.toArray c⟩) 12 o rfl ?_
 refine iR 1 4 [(13, (.func (.func 50) #[] #[(pt q 0), (pt s 0), (pt u 0), (pt m 0)]))] ?_
 obtain ⟨p, a9, H⟩ := Qe H
 refine iS 5 ?_
 refine cF 45 #[(.tmp 10), (.tmp 11), (.tmp 12), (.tmp 13)] #[29, 9, 9, 84] 14 Tryz.call45 (Gt g1 A7 c8 a q s u m q2 q3 q4 q5 f h b c b c j ([] : List UInt8) a8 (Y3 o [0, 1, 2, 3, 4, 5] rfl rfl) (fun w hm => a2 w (SP.through o (l := [0, 1, 2, 3, 4, 5]) rfl hm)) p a9) ?_
 rintro e b0 ⟨rfl, a0⟩
 refine ⟨_, rfl, ?_⟩
 have a1 : SP S w0 b0 [Qv g1 79 #[(.int .i64 q2), (.int .i64 q3), (.int .i64 q4), (.int .i64 q5), (.slice A7 (List.length (List.map stT f)) c8), (.map (some a))], Zs a h, Qv q 9 #[(.string ⟨List.toArray b⟩)], Qv s 9 #[(.string ⟨List.toArray c⟩)], Qv u 9 #[(.string ⟨List.toArray j⟩)], Qv m 9 #[(.string ⟨List.toArray p⟩)]] := Za o [0, 1, 2, 3, 4, 5] [] rfl rfl a0 rfl
 clear a0
 refine iF ?_
 refine aQ ?_
 refine aR ?_
 refine iS 1 ?_
 refine sL 9 9 m 0 5 (.string ⟨List.toArray p⟩) 15 a1 rfl ?_
 refine iR 1 2 [(8, (.string ⟨List.toArray p⟩))] ?_
 refine iF ?_
 refine At.ret K ?_
 refine ⟨(.string ⟨List.toArray p⟩), K, ?_⟩
 obtain rfl := Qh H
 exact ⟨rfl, SP.sel a1 [0,1] rfl rfl⟩
def Jf (a : Bool) : Option (Int) :=
  (cond a (some (101)) (some (0)))
def Xd (q2 : Int) (q3 : Int) (q4 : Int) (q5 : Int) (q6 : (List Qi)) (b : N5) (c : (List UInt8)) (d : (List UInt8)) (f : (List UInt8)) (e : (List UInt8)) (g : Int) : Option (Int) :=
  ((Yj q2 q3 q4 q5 q6 b c d g).bind fun h => (cond (!h) (some (3)) ((Yk q2 q3 q4 q5 q6 b c d f).bind fun a => (cond (a == ([] : List UInt8)) (Jf true) ((chk (Nat.ble (List.length a) 281474976710656)).bind fun _ => ((chk (Nat.ble (List.length e) 281474976710656)).bind fun _ => ((Bf a e).bind fun i => (Jf (!i)))))))))
set_option maxRecDepth 100000 in
set_option maxHeartbeats 4000000 in
theorem Y1 {S : List Nat} (g1 : Nat) (A7 : Option Addr) (c8 : Nat) (c : Nat) (q2 : Int) (q3 : Int) (q4 : Int) (q5 : Int) (g : (List Vl)) (h : N5) (j : (List UInt8)) (m : (List UInt8)) (s : (List UInt8)) (p : (List UInt8)) (u : Int) (w0 : World) (hO : SP S w0 w0 [Qv g1 79 #[(.int .i64 q2), (.int .i64 q3), (.int .i64 q4), (.int .i64 q5), (.slice A7 (List.length (List.map stT g)) c8), (.map (some c))], Zs c h]) (a8 : ∀ w, Mod S w0 w → (dDS Ua Eh).ok w (A7, c8, g)) (r : (Int)) (H : Xd q2 q3 q4 q5 (List.map stT g) h j m s p u = some r) :
  Calls Tryz.prog 26 #[(pt g1 0), (.string ⟨List.toArray j⟩), (.string ⟨List.toArray m⟩), (.string ⟨List.toArray s⟩), (.string ⟨List.toArray p⟩), (.int .i64 u)] w0 (fun e w' => e = .returned (.int .i64 r) ∧ SP S w0 w' [Qv g1 79 #[(.int .i64 q2), (.int .i64 q3), (.int .i64 q4), (.int .i64 q5), (.slice A7 (List.length (List.map stT g)) c8), (.map (some c))], Zs c h]) := by
 unfold Xd at H
 refine Qu (n := 35) Tryz.func26 K K K ?_
 have a0 := hO
 refine aQ ?_
 refine aR ?_
 refine iR 1 1 [(12, (.int .i64 0))] ?_
 refine iF ?_
 refine aQ ?_
 refine aQ ?_
 refine aR ?_
 refine iR 4 4 [(14, (pt g1 0)), (15, (.string ⟨List.toArray j⟩)), (16, (.string ⟨List.toArray m⟩)), (17, (.int .i64 u))] ?_
 obtain ⟨a1, c0, H⟩ := Qe H
 refine iS 5 ?_
 refine cF 22 #[(.tmp 14), (.tmp 15), (.tmp 16), (.tmp 17)] #[29, 9, 9, 2] 18 Tryz.call22 (Yc g1 A7 c8 c q2 q3 q4 q5 g h j m u w0 (Y3 a0 [0, 1] rfl rfl) (fun w hm => a8 w (SP.through a0 (l := [0, 1]) rfl hm)) a1 c0) ?_
 rintro e a9 ⟨rfl, b0⟩
 refine ⟨_, rfl, ?_⟩
 have v : SP S w0 a9 [Qv g1 79 #[(.int .i64 q2), (.int .i64 q3), (.int .i64 q4), (.int .i64 q5), (.slice A7 (List.length (List.map stT g)) c8), (.map (some c))], Zs c h] := Za a0 [0, 1] [] rfl rfl b0 rfl
 clear b0
 refine iR 1 6 [(19, (.bool (!a1)))] ?_
 refine iF ?_
 refine Zk K (o := (.tmp 19)) K (b := (!a1)) K (fun a2 => ?_) (fun a2 => ?_)
 ·have H := ct H a2
  refine aQ ?_
  refine aR ?_
  refine iR 1 1 [(12, (.int .i64 3))] ?_
  refine iF ?_
  refine At.ret K ?_
  refine ⟨(.int .i64 3), K, ?_⟩
  obtain rfl := Qh H
  exact ⟨rfl, SP.sel v [0,1] rfl rfl⟩
 ·have H := cf H a2
  refine At.skip K ?_
  refine aQ ?_
  refine aQ ?_
  refine aR ?_
  refine iR 4 4 [(20, (pt g1 0)), (21, (.string ⟨List.toArray j⟩)), (22, (.string ⟨List.toArray m⟩)), (23, (.string ⟨List.toArray s⟩))] ?_
  obtain ⟨f, c1, H⟩ := Qe H
  refine iS 5 ?_
  refine cF 24 #[(.tmp 20), (.tmp 21), (.tmp 22), (.tmp 23)] #[29, 9, 9, 9] 24 Tryz.call24 (Y9 g1 A7 c8 c q2 q3 q4 q5 g h j m s a9 (Y3 v [0, 1] rfl rfl) (fun w hm => a8 w (SP.through v (l := [0, 1]) rfl hm)) f c1) ?_
  rintro e c2 ⟨rfl, b1⟩
  refine ⟨_, rfl, ?_⟩
  have b2 : SP S w0 c2 [Qv g1 79 #[(.int .i64 q2), (.int .i64 q3), (.int .i64 q4), (.int .i64 q5), (.slice A7 (List.length (List.map stT g)) c8), (.map (some c))], Zs c h] := Za v [0, 1] [] rfl rfl b1 rfl
  clear b1
  refine iR 1 6 [(13, (.string ⟨List.toArray f⟩))] ?_
  refine iF ?_
  refine aQ ?_
  refine At.join (fun ρ w => ∃ (q : Bool), V3 ρ [(34, (.bool q))] ∧ SP S w0 w [Qv g1 79 #[(.int .i64 q2), (.int .i64 q3), (.int .i64 q4), (.int .i64 q5), (.slice A7 (List.length (List.map stT g)) c8), (.map (some c))], Zs c h] ∧ Jf q = some r) ?_ ?_
  ·refine aR ?_
   refine iR 1 1 [(25, (.string ⟨List.toArray f⟩))] ?_
   refine iS 2 ?_
   refine Vt (op := .eql) (T := 9) (T' := 9) (x := (.tmp 25)) (y := (.const (.string ⟨List.toArray ([] : List UInt8)⟩))) (a := f) (b := ([] : List UInt8)) (r := (.bool (f == ([] : List UInt8)))) (d := (some 26)) (k := 1) K rfl K K rfl ?_
   refine iR 1 3 [(27, (.bool (f == ([] : List UInt8))))] ?_
   refine In.guard (t := 27) (b := (f == ([] : List UInt8))) K (fun a3 => ?_) (fun a3 => ?_)
   ·have H := ct H a3
    refine iR 7 10 [(28, undef), (29, undef), (30, undef), (31, undef), (32, undef), (33, undef), (34, (.bool true))] ?_
    refine iF ?_
    exact ⟨true, ⟨K, trivial⟩, SP.sel b2 [0, 1] rfl rfl, H⟩
   ·have H := cf H a3
    refine iR 1 4 [(28, (.string ⟨List.toArray f⟩))] ?_
    obtain ⟨c3, H⟩ := V0 H
    refine iS 5 ?_
    refine Dn (S' := 9) (T := 52) (E := 5) (x := (.tmp 28)) (l := f) (d := (some 29)) (k := 4) K rfl K K K K (Do c3) b2 ?_
    intro a4 a5 c4 b3 _
    have c5 : SP S w0 c4 [Qv g1 79 #[(.int .i64 q2), (.int .i64 q3), (.int .i64 q4), (.int .i64 q5), (.slice A7 (List.length (List.map stT g)) c8), (.map (some c))], Zs c h, rdE eU8 (some ⟨a4, 0, none⟩) a5 f] := b3
    clear b3
    refine iR 1 6 [(30, (.string ⟨List.toArray p⟩))] ?_
    obtain ⟨c6, H⟩ := V0 H
    refine iS 7 ?_
    refine Dn (S' := 9) (T := 52) (E := 5) (x := (.tmp 30)) (l := p) (d := (some 31)) (k := 6) K rfl K K K K (Do c6) c5 ?_
    intro b4 b5 b6 b7 _
    have a6 : SP S w0 b6 [Qv g1 79 #[(.int .i64 q2), (.int .i64 q3), (.int .i64 q4), (.int .i64 q5), (.slice A7 (List.length (List.map stT g)) c8), (.map (some c))], Zs c h, rdE eU8 (some ⟨a4, 0, none⟩) a5 f, rdE eU8 (some ⟨b4, 0, none⟩) b5 p] := b7
    clear b7
    obtain ⟨z, c7, H⟩ := Qe H
    refine iS 8 ?_
    refine cF 52 #[(.tmp 29), (.tmp 31)] #[52, 52] 32 Tryz.call52 (Ho (some ⟨a4, 0, none⟩) a5 (some ⟨b4, 0, none⟩) b5 f p b6 (I6 (SP.get a6 (i := 2) rfl)) (I6 (SP.get a6 (i := 3) rfl)) z c7) ?_
    rintro e d0 ⟨rfl, b8⟩
    refine ⟨_, rfl, ?_⟩
    have c9 := SP.call a6 b8
    clear b8
    refine iR 2 10 [(33, (.bool (!z))), (34, (.bool (!z)))] ?_
    refine iF ?_
    exact ⟨(!z), ⟨K, trivial⟩, SP.sel c9 [0, 1] rfl rfl, H⟩
  ·rintro ρ d1 ⟨q, hk, b9, H⟩
   unfold Jf at H
   first | refine At.known [(34, (.bool q))] hk ?_ | rw [← Qz (l := [(34, (.bool q))]) hk]
   refine Zk K (o := (.tmp 34)) K (b := q) K (fun a7 => ?_) (fun a7 => ?_)
   ·have H := ct H a7
    refine aQ ?_
    refine aR ?_
    refine iR 1 1 [(12, (.int .i64 101))] ?_
    refine iF ?_
    refine At.ret K ?_
    refine ⟨(.int .i64 101), K, ?_⟩
    obtain rfl := Qh H
    exact ⟨rfl, SP.sel b9 [0,1] rfl rfl⟩
   ·have H := cf H a7
    refine At.skip K ?_
    refine aQ ?_
    refine aR ?_
    refine iR 1 1 [(12, (.int .i64 0))] ?_
    refine iF ?_
    refine At.ret K ?_
    refine ⟨(.int .i64 0), K, ?_⟩
    obtain rfl := Qh H
    exact ⟨rfl, SP.sel b9 [0,1] rfl rfl⟩
end Go.Proofs.YtmgfanhcdfobhaaGreatDoor
namespace Go.Proofs.YtmgfanhcdfobhaaGreatDoor
open Go.RowKit
def Uk (a : Int) (b : Int) (c : Int) (d : Int) (e : (List Qi)) : Option (Option (Int × Int × Int × Int × (List (List UInt8)))) :=
  ((Um a b c d e).bind fun f => (cond (!f) (some none) (some (some (a, b, c, d, ([] : List (List UInt8)))))))
set_option maxRecDepth 100000 in
set_option maxHeartbeats 4000000 in
theorem Us (A6 : Option Addr) (c7 : Nat) (a : Int) (c : Int) (f : Int) (g : Int) (d9 : (List Vl)) (w0 : World) (y : (dDS Ua Eh).ok w0 (A6, c7, d9)) (r : (Option (Int × Int × Int × Int × (List (List UInt8))))) (H : Uk a c f g (List.map stT d9) = some r) :
  Calls Tryz.prog 19 #[(.agg #[(.int .i64 a), (.int .i64 c), (.int .i64 f), (.int .i64 g), (.slice A6 (List.length (List.map stT d9)) c7)])] w0 (fun e w' => match r with | none => e = .returned (.pointer none) ∧ SP [] w0 w' [] | some o => ∃ (q : Nat) (s : Option Addr) (u : Nat), e = .returned (pt q 0) ∧ SP [] w0 w' [Qv q 81 #[(.int .i64 o.1), (.int .i64 o.2.1), (.int .i64 o.2.2.1), (.int .i64 o.2.2.2.1), (.slice A6 (List.length (List.map stT d9)) c7), (.slice s (List.length o.2.2.2.2) u)], Xi 9 Qs s u o.2.2.2.2]) := by
 unfold Uk at H
 refine Qu (n := 9) Tryz.func19 K K K ?_
 have z := Q1 [] w0
 refine aQ ?_
 refine aR ?_
 refine iS 1 ?_
 refine V6 (t := 24) (x := (.tmp 0)) (v := (.agg #[(.int .i64 a), (.int .i64 c), (.int .i64 f), (.int .i64 g), (.slice A6 (List.length (List.map stT d9)) c7)])) (d := (some 1)) (k := 0) K rfl K z ?_
 intro i a0 j
 refine iR 1 2 [(2, (.pointer none))] ?_
 refine iF ?_
 refine aQ ?_
 refine aQ ?_
 refine aR ?_
 refine iS 1 ?_
 refine sL 24 1 i 0 0 (.agg #[(.int .i64 a), (.int .i64 c), (.int .i64 f), (.int .i64 g), (.slice A6 (List.length (List.map stT d9)) c7)]) 3 j rfl ?_
 obtain ⟨l, a1, H⟩ := Qe H
 refine iS 2 ?_
 refine cF 44 #[(.tmp 3)] #[24] 4 Tryz.call44 (D8 A6 c7 a c f g d9 a0 (Dp.sp y j) l a1) ?_
 rintro e a5 ⟨rfl, w⟩
 refine ⟨_, rfl, ?_⟩
 have m := SP.call j w
 clear w
 refine iR 1 3 [(5, (.bool (!l)))] ?_
 refine iF ?_
 refine Zk K (o := (.tmp 5)) K (b := (!l)) K (fun p => ?_) (fun p => ?_)
 ·have H := ct H p
  refine aQ ?_
  refine aR ?_
  refine iR 1 1 [(2, (.pointer none))] ?_
  refine iF ?_
  refine At.ret K ?_
  refine ⟨(.pointer none), K, ?_⟩
  obtain rfl := Qh H
  exact ⟨rfl, SP.sel m [] rfl rfl⟩
 ·have H := cf H p
  refine At.skip K ?_
  refine aQ ?_
  refine aR ?_
  refine iS 1 ?_
  refine sL 24 1 i 0 0 (.agg #[(.int .i64 a), (.int .i64 c), (.int .i64 f), (.int .i64 g), (.slice A6 (List.length (List.map stT d9)) c7)]) 6 m rfl ?_
  refine iR 1 2 [(7, (.agg #[(.int .i64 a), (.int .i64 c), (.int .i64 f), (.int .i64 g), (.slice A6 (List.length (List.map stT d9)) c7), (.slice none (List.length ([] : List (List UInt8))) 0)]))] ?_
  refine iS 3 ?_
  refine V6 (t := 81) (x := (.tmp 7)) (v := (.agg #[(.int .i64 a), (.int .i64 c), (.int .i64 f), (.int .i64 g), (.slice A6 (List.length (List.map stT d9)) c7), (.slice none (List.length ([] : List (List UInt8))) 0)])) (d := (some 8)) (k := 2) K rfl K m ?_
  intro h a2 a3
  refine iR 1 4 [(2, (pt h 0))] ?_
  refine iF ?_
  refine At.ret K ?_
  have a4 : SP [] w0 a2 [Qv i 24 #[(.int .i64 a), (.int .i64 c), (.int .i64 f), (.int .i64 g), (.slice A6 (List.length (List.map stT d9)) c7)], Qv h 81 #[(.int .i64 a), (.int .i64 c), (.int .i64 f), (.int .i64 g), (.slice A6 (List.length (List.map stT d9)) c7), (.slice none (List.length ([] : List (List UInt8))) 0)], Xi 9 Qs none 0 ([] : List (List UInt8))] := Dd a3 9 Qs
  refine ⟨(pt h 0), K, ?_⟩
  obtain rfl := Qh H
  exact ⟨h, none, 0, rfl, SP.sel a4 [1,2] rfl rfl⟩
def Z5 (q2 : Int) (q3 : Int) (q4 : Int) (q5 : Int) (q6 : (List Qi)) (e : (List (List UInt8))) (c : (List UInt8)) (d : (List UInt8)) : Option ((List UInt8) × (List UInt8) × Int × Bool) :=
  ((Ga q2 q3 q4 q5 q6 c).bind fun a => ((Np a.1 a.2.1 a.2.2.1 a.2.2.2.1 a.2.2.2.2.1 d).bind fun b => (some (b.1, b.2.1, b.2.2.1, b.2.2.2))))
set_option maxRecDepth 100000 in
set_option maxHeartbeats 4000000 in
theorem J6 {S : List Nat} (g1 : Nat) (A7 : Option Addr) (c8 : Nat) (u : Option Addr) (a0 : Nat) (q2 : Int) (q3 : Int) (q4 : Int) (q5 : Int) (f : (List Vl)) (o : (List (List UInt8))) (p : (List UInt8)) (q : (List UInt8)) (w0 : World) (hO : SP S w0 w0 [Qv g1 81 #[(.int .i64 q2), (.int .i64 q3), (.int .i64 q4), (.int .i64 q5), (.slice A7 (List.length (List.map stT f)) c8), (.slice u (List.length o) a0)], Xi 9 Qs u a0 o]) (b0 : ∀ w, Mod S w0 w → (dDS Ua Eh).ok w (A7, c8, f)) (r : ((List UInt8) × (List UInt8) × Int × Bool)) (H : Z5 q2 q3 q4 q5 (List.map stT f) o p q = some r) :
  Calls Tryz.prog 47 #[(pt g1 0), (.string ⟨List.toArray p⟩), (.string ⟨List.toArray q⟩)] w0 (fun e w' => ∃ (a3 : Option Addr) (a4 : Nat), e = .returned (.tuple #[(.agg #[(.string ⟨List.toArray r.1⟩), (.string ⟨List.toArray r.2.1⟩), (.int .i64 r.2.2.1)]), (.bool r.2.2.2)]) ∧ SP S w0 w' [Qv g1 81 #[(.int .i64 q2), (.int .i64 q3), (.int .i64 q4), (.int .i64 q5), (.slice A7 (List.length (List.map stT f)) c8), (.slice a3 (List.length o) a4)], Xi 9 Qs a3 a4 o]) := by
 unfold Z5 at H
 refine Qu (n := 24) Tryz.func47 K K K ?_
 have b1 := hO
 refine aQ ?_
 refine aR ?_
 refine iS 1 ?_
 refine Qk.alloc (t := 48) (z := (.agg #[(.string ⟨List.toArray ([] : List UInt8)⟩), (.string ⟨List.toArray ([] : List UInt8)⟩), (.int .i64 0)])) (d := (some 6)) (k := 0) K rfl K b1 ?_
 intro a5 b2 a1
 refine iR 1 2 [(7, (.bool false))] ?_
 refine iF ?_
 refine aQ ?_
 refine aR ?_
 refine iR 3 3 [(11, (pt g1 0)), (12, (pt g1 0)), (13, (pt g1 0))] ?_
 refine iS 4 ?_
 refine sL 24 13 g1 0 0 (.agg #[(.int .i64 q2), (.int .i64 q3), (.int .i64 q4), (.int .i64 q5), (.slice A7 (List.length (List.map stT f)) c8)]) 14 a1 rfl ?_
 refine iR 1 5 [(15, (.string ⟨List.toArray p⟩))] ?_
 obtain ⟨b, b3, H⟩ := Qe H
 refine iS 6 ?_
 refine cF 28 #[(.tmp 14), (.tmp 15)] #[24, 9] 16 Tryz.call28 (Bq (R := fun w => Mod S w0 w) A7 c8 q2 q3 q4 q5 f p b2 (fun w hb => Fx a1 hb) b0 b b3) ?_
 rintro e c0 ⟨h, j, l, m, rfl, b4, b5, a6⟩
 refine ⟨_, rfl, ?_⟩
 have b6 := SP.call a1 a6
 clear a6
 refine iR 3 9 [(10, (.tuple #[(.agg #[(.string ⟨List.toArray b.1⟩), (.int .i64 b.2.1), (.int .i64 b.2.2.1), (.slice h (List.length b.2.2.2.1) j), (.slice l (List.length b.2.2.2.2.1) m)]), (.bool b.2.2.2.2.2)])), (17, (.agg #[(.string ⟨List.toArray b.1⟩), (.int .i64 b.2.1), (.int .i64 b.2.2.1), (.slice h (List.length b.2.2.2.1) j), (.slice l (List.length b.2.2.2.2.1) m)])), (18, (.bool b.2.2.2.2.2))] ?_
 refine iS 10 ?_
 refine Qk.alloc (t := 44) (z := (.agg #[(.string ⟨List.toArray ([] : List UInt8)⟩), (.int .i64 0), (.int .i64 0), (.slice none (List.length ([] : List (Int × Int))) 0), (.slice none (List.length ([] : List ((List UInt8) × (List UInt8) × Int))) 0)])) (d := (some 8)) (k := 9) K rfl K b6 ?_
 intro a7 c1 b7
 refine iS 11 ?_
 refine Qk.store (t := 44) (x := (.tmp 8)) (y := (.tmp 17)) (g := a7) (off := 0) (i := 3) (v := (.agg #[(.string ⟨List.toArray b.1⟩), (.int .i64 b.2.1), (.int .i64 b.2.2.1), (.slice h (List.length b.2.2.2.1) j), (.slice l (List.length b.2.2.2.2.1) m)])) (cs' := #[(.string ⟨List.toArray b.1⟩), (.int .i64 b.2.1), (.int .i64 b.2.2.1), (.slice h (List.length b.2.2.2.1) j), (.slice l (List.length b.2.2.2.2.1) m)]) (d := none) (k := 10) K rfl K K b7 rfl K ?_
 intro a2 s
 refine iR 1 12 [(9, (.bool b.2.2.2.2.2))] ?_
 refine iF ?_
 refine aQ ?_
 refine aR ?_
 refine iS 1 ?_
 refine sL 44 8 a7 0 3 (.agg #[(.string ⟨List.toArray b.1⟩), (.int .i64 b.2.1), (.int .i64 b.2.2.1), (.slice h (List.length b.2.2.2.1) j), (.slice l (List.length b.2.2.2.2.1) m)]) 19 s rfl ?_
 refine iR 1 2 [(20, (.string ⟨List.toArray q⟩))] ?_
 obtain ⟨c, b8, H⟩ := Qe H
 refine iS 3 ?_
 refine cF 29 #[(.tmp 19), (.tmp 20)] #[44, 9] 21 Tryz.call29 (D9 h j l m b.1 b.2.1 b.2.2.1 b.2.2.2.1 b.2.2.2.2.1 q a2 (b4 a2 (SP.mod s)) (b5 a2 (SP.mod s)) c b8) ?_
 rintro e c2 ⟨rfl, a8⟩
 refine ⟨_, rfl, ?_⟩
 have b9 := SP.call s a8
 clear a8
 refine iR 2 5 [(22, (.agg #[(.string ⟨List.toArray c.1⟩), (.string ⟨List.toArray c.2.1⟩), (.int .i64 c.2.2.1)])), (23, (.bool c.2.2.2))] ?_
 refine iS 6 ?_
 refine Qk.store (t := 48) (x := (.tmp 6)) (y := (.tmp 22)) (g := a5) (off := 0) (i := 2) (v := (.agg #[(.string ⟨List.toArray c.1⟩), (.string ⟨List.toArray c.2.1⟩), (.int .i64 c.2.2.1)])) (cs' := #[(.string ⟨List.toArray c.1⟩), (.string ⟨List.toArray c.2.1⟩), (.int .i64 c.2.2.1)]) (d := none) (k := 5) K rfl K K b9 rfl K ?_
 intro c3 a9
 refine iR 1 7 [(7, (.bool c.2.2.2))] ?_
 refine iF ?_
 refine At.ret K ?_
 refine ⟨(.tuple #[(.agg #[(.string ⟨List.toArray c.1⟩), (.string ⟨List.toArray c.2.1⟩), (.int .i64 c.2.2.1)]), (.bool c.2.2.2)]), Ig K (Dz (a := 6) (t := 48) (g := a5) (off := 0) K (SP.get a9 (i := 2) rfl) K) (En (t := 7) K), ?_⟩
 obtain rfl := Qh H
 exact ⟨u, a0, rfl, SP.sel a9 [0,1] rfl rfl⟩
def Z8 (a : Int → Option (Bool)) (b : Int) (c : Bool) : Option (Bool) :=
  (cond c (some (true)) (a (IntKind.wrap .i64 (b + 2))))
def Vz (c : Int → Option (Bool)) (b : (List (List UInt8))) (d : (List UInt8)) (e : (List UInt8)) (a : Int) : Option (Bool) :=
  (cond (decide ((IntKind.wrap .i64 (a + 1)) < ((List.length b : Nat) : Int))) ((idx b a).bind fun f => (cond (f == d) ((idx b (IntKind.wrap .i64 (a + 1))).bind fun g => (Z8 c a (g == e))) (Z8 c a false))) (some (false)))
def Vm (a : (List (List UInt8))) (b : (List UInt8)) (c : (List UInt8)) : Nat → Int → Option (Bool)
  | 0, _ => none
  | f + 1, d => Vz  (Vm a b c f) a b c d
def X6 (q2 : Int) (q3 : Int) (q4 : Int) (q5 : Int) (q6 : (List Qi)) (a : (List (List UInt8))) (b : (List UInt8)) (c : (List UInt8)) : Option (Bool) :=
  (Vm a b c Zj 0)
set_option maxRecDepth 100000 in
set_option maxHeartbeats 4000000 in
theorem Na {S : List Nat} (g1 : Nat) (A7 : Option Addr) (c8 : Nat) (p : Option Addr) (q : Nat) (q2 : Int) (q3 : Int) (q4 : Int) (q5 : Int) (u : (List Vl)) (g : (List (List UInt8))) (h : (List UInt8)) (m : (List UInt8)) (w0 : World) (hO : SP S w0 w0 [Qv g1 81 #[(.int .i64 q2), (.int .i64 q3), (.int .i64 q4), (.int .i64 q5), (.slice A7 (List.length (List.map stT u)) c8), (.slice p (List.length g) q)], Xi 9 Qs p q g]) (c0 : ∀ w, Mod S w0 w → (dDS Ua Eh).ok w (A7, c8, u)) (r : (Bool)) (H : X6 q2 q3 q4 q5 (List.map stT u) g h m = some r) :
  Calls Tryz.prog 48 #[(pt g1 0), (.string ⟨List.toArray h⟩), (.string ⟨List.toArray m⟩)] w0 (fun e w' => ∃ (a4 : Option Addr) (a5 : Nat), e = .returned (.bool r) ∧ SP S w0 w' [Qv g1 81 #[(.int .i64 q2), (.int .i64 q3), (.int .i64 q4), (.int .i64 q5), (.slice A7 (List.length (List.map stT u)) c8), (.slice a4 (List.length g) a5)], Xi 9 Qs a4 a5 g]) := by
 unfold X6 at H
 refine Qu (n := 39) Tryz.func48 K K K ?_
 have b1 := hO
 refine aQ ?_
 refine aR ?_
 refine iR 1 1 [(6, (.bool false))] ?_
 refine iF ?_
 refine aQ ?_
 refine aQ ?_
 refine aR ?_
 refine iR 1 1 [(7, (.int .i64 0))] ?_
 refine iF ?_
 refine Z1 K (id := 0) K ?_
 refine Nf K (fun f3 ρ w => ∃ (f : Int), V3 ρ [(0, (pt g1 0)), (1, (.string ⟨List.toArray h⟩)), (2, (.string ⟨List.toArray m⟩)), (7, (.int .i64 f))] ∧ SP S w0 w [Xi 9 Qs p q g, Qv g1 81 #[(.int .i64 q2), (.int .i64 q3), (.int .i64 q4), (.int .i64 q5), (.slice A7 (List.length (List.map stT u)) c8), (.slice p (List.length g) q)]] ∧ Vm g h m f3 f = some r) (by rintro ρ w ⟨f, hk, hs, H⟩; cases H) ?_ Zj ?_
 ·rintro f3 ρ c1 ⟨f, hk, s, H⟩
  refine At.known [(0, (pt g1 0)), (1, (.string ⟨List.toArray h⟩)), (2, (.string ⟨List.toArray m⟩)), (7, (.int .i64 f))] hk ?_
  replace H := (show Vz (Vm g h m f3) g h m f = some r from H)
  unfold Vz at H
  refine aQ ?_
  refine aQ ?_
  refine aR ?_
  refine iR 5 5 [(8, (.int .i64 f)), (9, (.int .i64 (IntKind.wrap .i64 (f + 1)))), (10, (pt g1 0)), (11, (pt g1 0)), (12, (pt g1 5))] ?_
  refine iS 6 ?_
  refine sL 53 12 g1 5 1 (.slice p (List.length g) q) 13 s rfl ?_
  refine iR 2 8 [(14, (.int .i64 ((List.length g : Nat) : Int))), (15, (.bool (decide ((IntKind.wrap .i64 (f + 1)) < ((List.length g : Nat) : Int)))))] ?_
  refine iF ?_
  refine Zk K (o := (.tmp 15)) K (b := (decide ((IntKind.wrap .i64 (f + 1)) < ((List.length g : Nat) : Int)))) K (fun a1 => ?_) (fun a1 => ?_)
  ·have H := ct H a1
   refine At.skip K ?_
   refine aQ ?_
   refine Z1 K (id := 1) K ?_
   refine aQ ?_
   refine At.join (fun ρ w => ∃ (v : Bool), V3 ρ [(0, (pt g1 0)), (1, (.string ⟨List.toArray h⟩)), (2, (.string ⟨List.toArray m⟩)), (7, (.int .i64 f)), (38, (.bool v))] ∧ SP S w0 w [Xi 9 Qs p q g, Qv g1 81 #[(.int .i64 q2), (.int .i64 q3), (.int .i64 q4), (.int .i64 q5), (.slice A7 (List.length (List.map stT u)) c8), (.slice p (List.length g) q)]] ∧ Z8 (Vm g h m f3) f v = some r) ?_ ?_
   ·refine aR ?_
    refine iR 3 3 [(18, (pt g1 0)), (19, (pt g1 0)), (20, (pt g1 5))] ?_
    refine iS 4 ?_
    refine sL 53 20 g1 5 1 (.slice p (List.length g) q) 21 s rfl ?_
    refine iR 1 5 [(22, (.int .i64 f))] ?_
    obtain ⟨z, a6, a7, b2, H⟩ := Qn H
    refine iS 6 ?_
    refine Ve (e := Qs) (l := g) (A := p) (c := q) (T := 53) (E := 9) (x := (.tmp 21)) (ix := (.tmp 22)) (ki := .i64) (iz := f) (d := (some 23)) (k := 5) K rfl K K K K (Vq (SP.get s (i := 0) rfl)) a6 a7 ?_
    intro b3 b4 b5 c2 hc271
    refine iS 7 ?_
    refine sC 9 23 b3 (b4 + Int.toNat f * Qs.sz) (.string ⟨List.toArray z⟩) 24 (Qj (e := Qs) (Qg (Vq (SP.get s (i := 0) rfl)) b5 a6 a7) b2 (j := 0) rfl) ?_
    refine iR 1 8 [(25, (.string ⟨List.toArray h⟩))] ?_
    refine iS 9 ?_
    refine Vt (op := .eql) (T := 9) (T' := 9) (x := (.tmp 24)) (y := (.tmp 25)) (a := z) (b := h) (r := (.bool (z == h))) (d := (some 26)) (k := 8) K rfl K K rfl ?_
    refine iR 1 10 [(27, (.bool (z == h)))] ?_
    refine In.guard (t := 27) (b := (z == h)) K (fun a2 => ?_) (fun a2 => ?_)
    ·have H := ct H a2
     refine iR 3 13 [(28, (pt g1 0)), (29, (pt g1 0)), (30, (pt g1 5))] ?_
     refine iS 14 ?_
     refine sL 53 30 g1 5 1 (.slice p (List.length g) q) 31 s rfl ?_
     refine iR 2 16 [(32, (.int .i64 f)), (33, (.int .i64 (IntKind.wrap .i64 (f + 1))))] ?_
     obtain ⟨a0, a8, a9, b6, H⟩ := Qn H
     refine iS 17 ?_
     refine Ve (e := Qs) (l := g) (A := p) (c := q) (T := 53) (E := 9) (x := (.tmp 31)) (ix := (.tmp 33)) (ki := .i64) (iz := (IntKind.wrap .i64 (f + 1))) (d := (some 34)) (k := 16) K rfl K K K K (Vq (SP.get s (i := 0) rfl)) a8 a9 ?_
     intro b7 b8 b9 c3 hc281
     refine iS 18 ?_
     refine sC 9 34 b7 (b8 + Int.toNat (IntKind.wrap .i64 (f + 1)) * Qs.sz) (.string ⟨List.toArray a0⟩) 35 (Qj (e := Qs) (Qg (Vq (SP.get s (i := 0) rfl)) b9 a8 a9) b6 (j := 0) rfl) ?_
     refine iR 1 19 [(36, (.string ⟨List.toArray m⟩))] ?_
     refine iS 20 ?_
     refine Vt (op := .eql) (T := 9) (T' := 9) (x := (.tmp 35)) (y := (.tmp 36)) (a := a0) (b := m) (r := (.bool (a0 == m))) (d := (some 37)) (k := 19) K rfl K K rfl ?_
     refine iR 1 21 [(38, (.bool (a0 == m)))] ?_
     refine iF ?_
     exact ⟨(a0 == m), ⟨K, K, K, K, K, trivial⟩, SP.sel s [0, 1] rfl rfl, H⟩
    ·have H := cf H a2
     refine iR 11 21 [(28, undef), (29, undef), (30, undef), (31, undef), (32, undef), (33, undef), (34, undef), (35, undef), (36, undef), (37, undef), (38, (.bool false))] ?_
     refine iF ?_
     exact ⟨false, ⟨K, K, K, K, K, trivial⟩, SP.sel s [0, 1] rfl rfl, H⟩
   ·rintro ρ c4 ⟨v, hk, b0, H⟩
    unfold Z8 at H
    first | refine At.known [(0, (pt g1 0)), (1, (.string ⟨List.toArray h⟩)), (2, (.string ⟨List.toArray m⟩)), (7, (.int .i64 f)), (38, (.bool v))] hk ?_ | rw [← Qz (l := [(0, (pt g1 0)), (1, (.string ⟨List.toArray h⟩)), (2, (.string ⟨List.toArray m⟩)), (7, (.int .i64 f)), (38, (.bool v))]) hk]
    refine Zk K (o := (.tmp 38)) K (b := v) K (fun a3 => ?_) (fun a3 => ?_)
    ·have H := ct H a3
     refine aQ ?_
     refine aR ?_
     refine iR 1 1 [(6, (.bool true))] ?_
     refine iF ?_
     refine At.ret K ?_
     refine ⟨(.bool true), K, ?_⟩
     obtain rfl := Qh H
     exact ⟨p, q, rfl, SP.sel b0 [1,0] rfl rfl⟩
    ·have H := cf H a3
     refine At.skip K ?_
     refine aR ?_
     refine iR 3 3 [(16, (.int .i64 f)), (17, (.int .i64 (IntKind.wrap .i64 (f + 2)))), (7, (.int .i64 (IntKind.wrap .i64 (f + 2))))] ?_
     refine iF ?_
     exact ⟨(IntKind.wrap .i64 (f + 2)), ⟨K, K, K, K, trivial⟩, SP.sel b0 [0, 1] rfl rfl, H⟩
  ·have H := cf H a1
   refine At.exit K (id := 0) K ?_
   refine aQ ?_
   refine aR ?_
   refine iR 1 1 [(6, (.bool false))] ?_
   refine iF ?_
   refine At.ret K ?_
   refine ⟨(.bool false), K, ?_⟩
   obtain rfl := Qh H
   exact ⟨p, q, rfl, SP.sel s [1,0] rfl rfl⟩
 ·exact ⟨0, ⟨K, K, K, K, trivial⟩, SP.sel b1 [1, 0] rfl rfl, H⟩
def Xf (q2 : Int) (q3 : Int) (q4 : Int) (q5 : Int) (b : (List UInt8)) (c : (List UInt8)) (a : (List (List UInt8))) (d : Bool) : Option (Bool × Int × Int × Int × Int × (List (List UInt8))) :=
  (cond d (some (false, q2, q3, q4, q5, a)) ((app a ([b, c] : List (List UInt8))).bind fun e => (some (true, q2, q3, q4, q5, e))))
def Ye (q2 : Int) (q3 : Int) (q4 : Int) (q5 : Int) (q6 : (List Qi)) (a : (List (List UInt8))) (b : (List UInt8)) (c : (List UInt8)) : Option (Bool × Int × Int × Int × Int × (List (List UInt8))) :=
  ((Z5 q2 q3 q4 q5 q6 a b c).bind fun d => (cond (!d.2.2.2) (Xf q2 q3 q4 q5 b c a true) ((X6 q2 q3 q4 q5 q6 a b c).bind fun e => (Xf q2 q3 q4 q5 b c a e))))
set_option maxRecDepth 100000 in
set_option maxHeartbeats 4000000 in
theorem Rv {S : List Nat} (g1 : Nat) (A7 : Option Addr) (c8 : Nat) (a5 : Option Addr) (a6 : Nat) (q2 : Int) (q3 : Int) (q4 : Int) (q5 : Int) (p : (List Vl)) (j : (List (List UInt8))) (f : (List UInt8)) (h : (List UInt8)) (w0 : World) (hO : SP S w0 w0 [Qv g1 81 #[(.int .i64 q2), (.int .i64 q3), (.int .i64 q4), (.int .i64 q5), (.slice A7 (List.length (List.map stT p)) c8), (.slice a5 (List.length j) a6)], Xi 9 Qs a5 a6 j]) (b6 : ∀ w, Mod S w0 w → (dDS Ua Eh).ok w (A7, c8, p)) (r : (Bool × Int × Int × Int × Int × (List (List UInt8)))) (H : Ye q2 q3 q4 q5 (List.map stT p) j f h = some r) :
  Calls Tryz.prog 21 #[(pt g1 0), (.string ⟨List.toArray f⟩), (.string ⟨List.toArray h⟩)] w0 (fun e w' => ∃ (b7 : Option Addr) (b8 : Nat), e = .returned (.bool r.1) ∧ SP S w0 w' [Qv g1 81 #[(.int .i64 r.2.1), (.int .i64 r.2.2.1), (.int .i64 r.2.2.2.1), (.int .i64 r.2.2.2.2.1), (.slice A7 (List.length (List.map stT p)) c8), (.slice b7 (List.length r.2.2.2.2.2) b8)], Xi 9 Qs b7 b8 r.2.2.2.2.2]) := by
 unfold Ye at H
 refine Qu (n := 35) Tryz.func21 K K K ?_
 have a7 := hO
 refine aQ ?_
 refine aR ?_
 refine iR 1 1 [(6, (.bool false))] ?_
 refine iF ?_
 refine aQ ?_
 refine aR ?_
 refine iR 3 3 [(10, (pt g1 0)), (11, (.string ⟨List.toArray f⟩)), (12, (.string ⟨List.toArray h⟩))] ?_
 obtain ⟨a, c4, H⟩ := Qe H
 refine iS 4 ?_
 refine cF 47 #[(.tmp 10), (.tmp 11), (.tmp 12)] #[31, 9, 9] 13 Tryz.call47 (J6 g1 A7 c8 a5 a6 q2 q3 q4 q5 p j f h w0 (Y3 a7 [0, 1] rfl rfl) (fun w hm => b6 w (SP.through a7 (l := [0, 1]) rfl hm)) a c4) ?_
 rintro e c5 ⟨a2, a3, rfl, b9⟩
 refine ⟨_, rfl, ?_⟩
 have c6 : SP S w0 c5 [Qv g1 81 #[(.int .i64 q2), (.int .i64 q3), (.int .i64 q4), (.int .i64 q5), (.slice A7 (List.length (List.map stT p)) c8), (.slice a2 (List.length j) a3)], Xi 9 Qs a2 a3 j] := Za a7 [0, 1] [] rfl rfl b9 rfl
 clear b9
 refine iR 3 7 [(9, (.tuple #[(.agg #[(.string ⟨List.toArray a.1⟩), (.string ⟨List.toArray a.2.1⟩), (.int .i64 a.2.2.1)]), (.bool a.2.2.2)])), (14, (.agg #[(.string ⟨List.toArray a.1⟩), (.string ⟨List.toArray a.2.1⟩), (.int .i64 a.2.2.1)])), (15, (.bool a.2.2.2))] ?_
 refine iS 8 ?_
 refine Qk.alloc (t := 48) (z := (.agg #[(.string ⟨List.toArray ([] : List UInt8)⟩), (.string ⟨List.toArray ([] : List UInt8)⟩), (.int .i64 0)])) (d := (some 7)) (k := 7) K rfl K c6 ?_
 intro c0 d6 c7
 refine iS 9 ?_
 refine Qk.store (t := 48) (x := (.tmp 7)) (y := (.tmp 14)) (g := c0) (off := 0) (i := 2) (v := (.agg #[(.string ⟨List.toArray a.1⟩), (.string ⟨List.toArray a.2.1⟩), (.int .i64 a.2.2.1)])) (cs' := #[(.string ⟨List.toArray a.1⟩), (.string ⟨List.toArray a.2.1⟩), (.int .i64 a.2.2.1)]) (d := none) (k := 8) K rfl K K c7 rfl K ?_
 intro c9 a4
 refine iR 1 10 [(8, (.bool a.2.2.2))] ?_
 refine iF ?_
 refine aQ ?_
 refine aQ ?_
 refine At.join (fun ρ w => ∃ (q : (List (List UInt8))) (u : Bool) (a0 : Option Addr) (a1 : Nat), V3 ρ [(0, (pt g1 0)), (1, (.string ⟨List.toArray f⟩)), (2, (.string ⟨List.toArray h⟩)), (23, (.bool u))] ∧ SP S w0 w [Xi 9 Qs a0 a1 q, Qv g1 81 #[(.int .i64 q2), (.int .i64 q3), (.int .i64 q4), (.int .i64 q5), (.slice A7 (List.length (List.map stT p)) c8), (.slice a0 (List.length q) a1)]] ∧ Xf q2 q3 q4 q5 f h q u = some r) ?_ ?_
 ·refine aR ?_
  refine iR 3 3 [(16, (.bool a.2.2.2)), (17, (.bool (!a.2.2.2))), (18, (.bool (!a.2.2.2)))] ?_
  refine In.guard (t := 18) (b := (!a.2.2.2)) K (fun a8 => ?_) (fun a8 => ?_)
  ·have H := ct H a8
   refine iR 5 8 [(19, undef), (20, undef), (21, undef), (22, undef), (23, (.bool true))] ?_
   refine iF ?_
   exact ⟨j, true, a2, a3, ⟨K, K, K, K, trivial⟩, SP.sel a4 [1, 0] rfl rfl, H⟩
  ·have H := cf H a8
   refine iR 3 6 [(19, (pt g1 0)), (20, (.string ⟨List.toArray f⟩)), (21, (.string ⟨List.toArray h⟩))] ?_
   obtain ⟨a9, d0, H⟩ := Qe H
   refine iS 7 ?_
   refine cF 48 #[(.tmp 19), (.tmp 20), (.tmp 21)] #[31, 9, 9] 22 Tryz.call48 (Na g1 A7 c8 a2 a3 q2 q3 q4 q5 p j f h c9 (Y3 a4 [0, 1] rfl rfl) (fun w hm => b6 w (SP.through a4 (l := [0, 1]) rfl hm)) a9 d0) ?_
   rintro e d1 ⟨b0, b1, rfl, c1⟩
   refine ⟨_, rfl, ?_⟩
   have d2 : SP S w0 d1 [Qv c0 48 #[(.string ⟨List.toArray a.1⟩), (.string ⟨List.toArray a.2.1⟩), (.int .i64 a.2.2.1)], Qv g1 81 #[(.int .i64 q2), (.int .i64 q3), (.int .i64 q4), (.int .i64 q5), (.slice A7 (List.length (List.map stT p)) c8), (.slice b0 (List.length j) b1)], Xi 9 Qs b0 b1 j] := Za a4 [0, 1] [2] rfl rfl c1 rfl
   clear c1
   refine iR 1 8 [(23, (.bool a9))] ?_
   refine iF ?_
   exact ⟨j, a9, b0, b1, ⟨K, K, K, K, trivial⟩, SP.sel d2 [2, 1] rfl rfl, H⟩
 ·rintro ρ d7 ⟨q, u, a0, a1, hk, b2, H⟩
  unfold Xf at H
  first | refine At.known [(0, (pt g1 0)), (1, (.string ⟨List.toArray f⟩)), (2, (.string ⟨List.toArray h⟩)), (23, (.bool u))] hk ?_ | rw [← Qz (l := [(0, (pt g1 0)), (1, (.string ⟨List.toArray f⟩)), (2, (.string ⟨List.toArray h⟩)), (23, (.bool u))]) hk]
  refine Zk K (o := (.tmp 23)) K (b := u) K (fun b3 => ?_) (fun b3 => ?_)
  ·have H := ct H b3
   refine aQ ?_
   refine aR ?_
   refine iR 1 1 [(6, (.bool false))] ?_
   refine iF ?_
   refine At.ret K ?_
   refine ⟨(.bool false), K, ?_⟩
   obtain rfl := Qh H
   exact ⟨a0, a1, rfl, SP.sel b2 [1,0] rfl rfl⟩
  ·have H := cf H b3
   refine At.skip K ?_
   refine aQ ?_
   refine aR ?_
   refine iR 4 4 [(24, (pt g1 0)), (25, (pt g1 0)), (26, (pt g1 0)), (27, (pt g1 5))] ?_
   refine iS 5 ?_
   refine sL 53 27 g1 5 1 (.slice a0 (List.length q) a1) 28 b2 rfl ?_
   refine iR 2 7 [(29, (.string ⟨List.toArray f⟩)), (30, (.string ⟨List.toArray h⟩))] ?_
   refine iS 8 ?_
   refine V9 (e := Qs) (T := 53) (E := 9) (len := 2) (parts := #[(0, (.tmp 29)), (1, (.tmp 30))]) (cs := #[(.string ⟨List.toArray f⟩), (.string ⟨List.toArray h⟩)]) ([f, h] : List (List UInt8)) (d := (some 31)) (k := 7) K rfl (fun _ => K) b2 rfl rfl rfl rfl ?_
   intro d3 d8 c2
   obtain ⟨hl107, H⟩ := J9 H
   obtain ⟨c3, hyl108⟩ : ∃ y, q ++ ([f, h] : List (List UInt8)) = y := ⟨_, rfl⟩
   rw [hyl108] at H
   refine iS 9 ?_
   refine Qk.append (e := Qs) (l := q) (m := ([f, h] : List (List UInt8))) (A := a0) (c := a1) (T := 53) (TX := 53) (E := 9) (b := 16) (s := (.tmp 28)) (x := (.tmp 31)) (i := 0) (vx := (.slice (some ⟨d3, 0, none⟩) (List.length ([f, h] : List (List UInt8))) (List.length ([f, h] : List (List UInt8))))) (d := (some 32)) (k := 8) K rfl K K K K rfl c2 rfl (G6 (E := 9) K (Vq (SP.get c2 (i := 2) rfl))) hl107 ?_
   rw [hyl108]
   intro b4 b5 d9 d4
   refine iR 2 11 [(33, (pt g1 0)), (34, (pt g1 5))] ?_
   refine iS 12 ?_
   refine Qk.store (t := 53) (x := (.tmp 34)) (y := (.tmp 32)) (g := g1) (off := 5) (i := 1) (v := (.slice b4 (List.length c3) b5)) (cs' := #[(.int .i64 q2), (.int .i64 q3), (.int .i64 q4), (.int .i64 q5), (.slice A7 (List.length (List.map stT p)) c8), (.slice b4 (List.length c3) b5)]) (d := none) (k := 11) K rfl K K d4 rfl K ?_
   intro e0 d5
   refine iF ?_
   refine aQ ?_
   refine aR ?_
   refine iR 1 1 [(6, (.bool true))] ?_
   refine iF ?_
   refine At.ret K ?_
   refine ⟨(.bool true), K, ?_⟩
   obtain rfl := Qh H
   exact ⟨b4, b5, rfl, SP.sel d5 [1,0] rfl rfl⟩
def Z6 (q2 : Int) (q3 : Int) (q4 : Int) (q5 : Int) (a : (List (List UInt8))) (b : Bool) : Option (Bool × Int × Int × Int × Int × (List (List UInt8))) :=
  (some (b, q2, q3, q4, q5, a))
def Xu (q2 : Int) (q3 : Int) (q4 : Int) (q5 : Int) (q6 : (List Qi)) (a : (List (List UInt8))) (b : (List UInt8)) (c : (List UInt8)) (e : Int) : Option (Bool × Int × Int × Int × Int × (List (List UInt8))) :=
  ((Z5 q2 q3 q4 q5 q6 a b c).bind fun d => (cond d.2.2.2 ((X6 q2 q3 q4 q5 q6 a b c).bind fun f => (cond (!f) (Z6 q2 q3 q4 q5 a (decide (e < d.2.2.1))) (Z6 q2 q3 q4 q5 a false))) (Z6 q2 q3 q4 q5 a false)))
set_option maxRecDepth 100000 in
set_option maxHeartbeats 4000000 in
theorem Yv {S : List Nat} (g1 : Nat) (A7 : Option Addr) (c8 : Nat) (a6 : Option Addr) (a7 : Nat) (q2 : Int) (q3 : Int) (q4 : Int) (q5 : Int) (f : (List Vl)) (c : (List (List UInt8))) (j : (List UInt8)) (m : (List UInt8)) (h : Int) (w0 : World) (hO : SP S w0 w0 [Qv g1 81 #[(.int .i64 q2), (.int .i64 q3), (.int .i64 q4), (.int .i64 q5), (.slice A7 (List.length (List.map stT f)) c8), (.slice a6 (List.length c) a7)], Xi 9 Qs a6 a7 c]) (b2 : ∀ w, Mod S w0 w → (dDS Ua Eh).ok w (A7, c8, f)) (r : (Bool × Int × Int × Int × Int × (List (List UInt8)))) (H : Xu q2 q3 q4 q5 (List.map stT f) c j m h = some r) :
  Calls Tryz.prog 23 #[(pt g1 0), (.string ⟨List.toArray j⟩), (.string ⟨List.toArray m⟩), (.int .i64 h)] w0 (fun e w' => ∃ (b3 : Option Addr) (b4 : Nat), e = .returned (.bool r.1) ∧ SP S w0 w' [Qv g1 81 #[(.int .i64 r.2.1), (.int .i64 r.2.2.1), (.int .i64 r.2.2.2.1), (.int .i64 r.2.2.2.2.1), (.slice A7 (List.length (List.map stT f)) c8), (.slice b3 (List.length r.2.2.2.2.2) b4)], Xi 9 Qs b3 b4 r.2.2.2.2.2]) := by
 unfold Xu at H
 refine Qu (n := 32) Tryz.func23 K K K ?_
 have a8 := hO
 refine aQ ?_
 refine aR ?_
 refine iR 1 1 [(8, (.bool false))] ?_
 refine iF ?_
 refine aQ ?_
 refine aR ?_
 refine iR 3 3 [(12, (pt g1 0)), (13, (.string ⟨List.toArray j⟩)), (14, (.string ⟨List.toArray m⟩))] ?_
 obtain ⟨a, b7, H⟩ := Qe H
 refine iS 4 ?_
 refine cF 47 #[(.tmp 12), (.tmp 13), (.tmp 14)] #[31, 9, 9] 15 Tryz.call47 (J6 g1 A7 c8 a6 a7 q2 q3 q4 q5 f c j m w0 (Y3 a8 [0, 1] rfl rfl) (fun w hm => b2 w (SP.through a8 (l := [0, 1]) rfl hm)) a b7) ?_
 rintro e b8 ⟨q, s, rfl, b5⟩
 refine ⟨_, rfl, ?_⟩
 have b9 : SP S w0 b8 [Qv g1 81 #[(.int .i64 q2), (.int .i64 q3), (.int .i64 q4), (.int .i64 q5), (.slice A7 (List.length (List.map stT f)) c8), (.slice q (List.length c) s)], Xi 9 Qs q s c] := Za a8 [0, 1] [] rfl rfl b5 rfl
 clear b5
 refine iR 3 7 [(11, (.tuple #[(.agg #[(.string ⟨List.toArray a.1⟩), (.string ⟨List.toArray a.2.1⟩), (.int .i64 a.2.2.1)]), (.bool a.2.2.2)])), (16, (.agg #[(.string ⟨List.toArray a.1⟩), (.string ⟨List.toArray a.2.1⟩), (.int .i64 a.2.2.1)])), (17, (.bool a.2.2.2))] ?_
 refine iS 8 ?_
 refine Qk.alloc (t := 48) (z := (.agg #[(.string ⟨List.toArray ([] : List UInt8)⟩), (.string ⟨List.toArray ([] : List UInt8)⟩), (.int .i64 0)])) (d := (some 9)) (k := 7) K rfl K b9 ?_
 intro u c5 c0
 refine iS 9 ?_
 refine Qk.store (t := 48) (x := (.tmp 9)) (y := (.tmp 16)) (g := u) (off := 0) (i := 2) (v := (.agg #[(.string ⟨List.toArray a.1⟩), (.string ⟨List.toArray a.2.1⟩), (.int .i64 a.2.2.1)])) (cs' := #[(.string ⟨List.toArray a.1⟩), (.string ⟨List.toArray a.2.1⟩), (.int .i64 a.2.2.1)]) (d := none) (k := 8) K rfl K K c0 rfl K ?_
 intro c1 a0
 refine iR 1 10 [(10, (.bool a.2.2.2))] ?_
 refine iF ?_
 refine aQ ?_
 refine At.join (fun ρ w => ∃ (a1 : (List (List UInt8))) (o : Bool) (a2 : Option Addr) (a3 : Nat), V3 ρ [(8, (.bool o))] ∧ SP S w0 w [Xi 9 Qs a2 a3 a1, Qv g1 81 #[(.int .i64 q2), (.int .i64 q3), (.int .i64 q4), (.int .i64 q5), (.slice A7 (List.length (List.map stT f)) c8), (.slice a2 (List.length a1) a3)]] ∧ Z6 q2 q3 q4 q5 a1 o = some r) ?_ ?_
 ·refine aR ?_
  refine iR 2 2 [(18, (.bool a.2.2.2)), (19, (.bool a.2.2.2))] ?_
  refine In.guard (t := 19) (b := a.2.2.2) K (fun a9 => ?_) (fun a9 => ?_)
  ·have H := ct H a9
   refine iR 3 5 [(20, (pt g1 0)), (21, (.string ⟨List.toArray j⟩)), (22, (.string ⟨List.toArray m⟩))] ?_
   obtain ⟨p, c2, H⟩ := Qe H
   refine iS 6 ?_
   refine cF 48 #[(.tmp 20), (.tmp 21), (.tmp 22)] #[31, 9, 9] 23 Tryz.call48 (Na g1 A7 c8 q s q2 q3 q4 q5 f c j m c1 (Y3 a0 [0, 1] rfl rfl) (fun w hm => b2 w (SP.through a0 (l := [0, 1]) rfl hm)) p c2) ?_
   rintro e c3 ⟨a4, a5, rfl, b6⟩
   refine ⟨_, rfl, ?_⟩
   have b0 : SP S w0 c3 [Qv u 48 #[(.string ⟨List.toArray a.1⟩), (.string ⟨List.toArray a.2.1⟩), (.int .i64 a.2.2.1)], Qv g1 81 #[(.int .i64 q2), (.int .i64 q3), (.int .i64 q4), (.int .i64 q5), (.slice A7 (List.length (List.map stT f)) c8), (.slice a4 (List.length c) a5)], Xi 9 Qs a4 a5 c] := Za a0 [0, 1] [2] rfl rfl b6 rfl
   clear b6
   refine iR 3 9 [(24, (.bool (!p))), (25, (.bool (!p))), (26, (.bool (!p)))] ?_
   refine In.guard (t := 26) (b := (!p)) K (fun b1 => ?_) (fun b1 => ?_)
   ·have H := ct H b1
    refine iR 2 11 [(27, (.int .i64 h)), (28, (pt u 2))] ?_
    refine iS 12 ?_
    refine sL 2 28 u 2 0 (.int .i64 a.2.2.1) 29 b0 rfl ?_
    refine iR 3 15 [(30, (.bool (decide (h < a.2.2.1)))), (31, (.bool (decide (h < a.2.2.1)))), (8, (.bool (decide (h < a.2.2.1))))] ?_
    refine iF ?_
    exact ⟨c, (decide (h < a.2.2.1)), a4, a5, ⟨K, trivial⟩, SP.sel b0 [2, 1] rfl rfl, H⟩
   ·have H := cf H b1
    refine iR 6 15 [(27, undef), (28, undef), (29, undef), (30, undef), (31, (.bool false)), (8, (.bool false))] ?_
    refine iF ?_
    exact ⟨c, false, a4, a5, ⟨K, trivial⟩, SP.sel b0 [2, 1] rfl rfl, H⟩
  ·have H := cf H a9
   refine iR 13 15 [(20, undef), (21, undef), (22, undef), (23, undef), (24, undef), (25, (.bool false)), (26, (.bool false)), (27, undef), (28, undef), (29, undef), (30, undef), (31, (.bool false)), (8, (.bool false))] ?_
   refine iF ?_
   exact ⟨c, false, q, s, ⟨K, trivial⟩, SP.sel a0 [1, 0] rfl rfl, H⟩
 ·rintro ρ c6 ⟨a1, o, a2, a3, hk, c4, H⟩
  unfold Z6 at H
  first | refine At.known [(8, (.bool o))] hk ?_ | rw [← Qz (l := [(8, (.bool o))]) hk]
  refine At.ret K ?_
  refine ⟨(.bool o), K, ?_⟩
  obtain rfl := Qh H
  exact ⟨a2, a3, rfl, SP.sel c4 [1,0] rfl rfl⟩
def Xv (q2 : Int) (q3 : Int) (q4 : Int) (q5 : Int) (q6 : (List Qi)) (d : (List (List UInt8))) (b : (List UInt8)) (c : (List UInt8)) (e : (List UInt8)) : Option ((List UInt8)) :=
  ((Z5 q2 q3 q4 q5 q6 d b c).bind fun a => (cond (!a.2.2.2) (some (([] : List UInt8))) ((chk (Nat.ble (List.length a.2.1) 281474976710656)).bind fun _ => ((Uq a.2.1 ([b, c, e] : List (List UInt8))).bind fun f => (some (f))))))
set_option maxRecDepth 100000 in
set_option maxHeartbeats 4000000 in
theorem J7 {S : List Nat} (g1 : Nat) (A7 : Option Addr) (c8 : Nat) (u : Option Addr) (a0 : Nat) (q2 : Int) (q3 : Int) (q4 : Int) (q5 : Int) (j : (List Vl)) (c : (List (List UInt8))) (f : (List UInt8)) (h : (List UInt8)) (m : (List UInt8)) (w0 : World) (hO : SP S w0 w0 [Qv g1 81 #[(.int .i64 q2), (.int .i64 q3), (.int .i64 q4), (.int .i64 q5), (.slice A7 (List.length (List.map stT j)) c8), (.slice u (List.length c) a0)], Xi 9 Qs u a0 c]) (b3 : ∀ w, Mod S w0 w → (dDS Ua Eh).ok w (A7, c8, j)) (r : ((List UInt8))) (H : Xv q2 q3 q4 q5 (List.map stT j) c f h m = some r) :
  Calls Tryz.prog 25 #[(pt g1 0), (.string ⟨List.toArray f⟩), (.string ⟨List.toArray h⟩), (.string ⟨List.toArray m⟩)] w0 (fun e w' => ∃ (a6 : Option Addr) (a7 : Nat), e = .returned (.string ⟨List.toArray r⟩) ∧ SP S w0 w' [Qv g1 81 #[(.int .i64 q2), (.int .i64 q3), (.int .i64 q4), (.int .i64 q5), (.slice A7 (List.length (List.map stT j)) c8), (.slice a6 (List.length c) a7)], Xi 9 Qs a6 a7 c]) := by
 unfold Xv at H
 refine Qu (n := 28) Tryz.func25 K K K ?_
 have a1 := hO
 refine aQ ?_
 refine aR ?_
 refine iR 1 1 [(8, (.string ⟨List.toArray ([] : List UInt8)⟩))] ?_
 refine iF ?_
 refine aQ ?_
 refine aR ?_
 refine iR 3 3 [(12, (pt g1 0)), (13, (.string ⟨List.toArray f⟩)), (14, (.string ⟨List.toArray h⟩))] ?_
 obtain ⟨a, b4, H⟩ := Qe H
 refine iS 4 ?_
 refine cF 47 #[(.tmp 12), (.tmp 13), (.tmp 14)] #[31, 9, 9] 15 Tryz.call47 (J6 g1 A7 c8 u a0 q2 q3 q4 q5 j c f h w0 (Y3 a1 [0, 1] rfl rfl) (fun w hm => b3 w (SP.through a1 (l := [0, 1]) rfl hm)) a b4) ?_
 rintro e b5 ⟨p, q, rfl, a8⟩
 refine ⟨_, rfl, ?_⟩
 have b6 : SP S w0 b5 [Qv g1 81 #[(.int .i64 q2), (.int .i64 q3), (.int .i64 q4), (.int .i64 q5), (.slice A7 (List.length (List.map stT j)) c8), (.slice p (List.length c) q)], Xi 9 Qs p q c] := Za a1 [0, 1] [] rfl rfl a8 rfl
 clear a8
 refine iR 3 7 [(11, (.tuple #[(.agg #[(.string ⟨List.toArray a.1⟩), (.string ⟨List.toArray a.2.1⟩), (.int .i64 a.2.2.1)]), (.bool a.2.2.2)])), (16, (.agg #[(.string ⟨List.toArray a.1⟩), (.string ⟨List.toArray a.2.1⟩), (.int .i64 a.2.2.1)])), (17, (.bool a.2.2.2))] ?_
 refine iS 8 ?_
 refine Qk.alloc (t := 48) (z := (.agg #[(.string ⟨List.toArray ([] : List UInt8)⟩), (.string ⟨List.toArray ([] : List UInt8)⟩), (.int .i64 0)])) (d := (some 9)) (k := 7) K rfl K b6 ?_
 intro s c5 b7
 refine iS 9 ?_
 refine Qk.store (t := 48) (x := (.tmp 9)) (y := (.tmp 16)) (g := s) (off := 0) (i := 2) (v := (.agg #[(.string ⟨List.toArray a.1⟩), (.string ⟨List.toArray a.2.1⟩), (.int .i64 a.2.2.1)])) (cs' := #[(.string ⟨List.toArray a.1⟩), (.string ⟨List.toArray a.2.1⟩), (.int .i64 a.2.2.1)]) (d := none) (k := 8) K rfl K K b7 rfl K ?_
 intro c6 a2
 refine iR 1 10 [(10, (.bool a.2.2.2))] ?_
 refine iF ?_
 refine aQ ?_
 refine aQ ?_
 refine aR ?_
 refine iR 2 2 [(18, (.bool a.2.2.2)), (19, (.bool (!a.2.2.2)))] ?_
 refine iF ?_
 refine Zk K (o := (.tmp 19)) K (b := (!a.2.2.2)) K (fun a3 => ?_) (fun a3 => ?_)
 ·have H := ct H a3
  refine aQ ?_
  refine aR ?_
  refine iR 1 1 [(8, (.string ⟨List.toArray ([] : List UInt8)⟩))] ?_
  refine iF ?_
  refine At.ret K ?_
  refine ⟨(.string ⟨List.toArray ([] : List UInt8)⟩), K, ?_⟩
  obtain rfl := Qh H
  exact ⟨p, q, rfl, SP.sel a2 [0,1] rfl rfl⟩
 ·have H := cf H a3
  refine At.skip K ?_
  refine aQ ?_
  refine aR ?_
  refine iR 1 1 [(20, (pt s 1))] ?_
  refine iS 2 ?_
  refine sL 9 20 s 1 2 (.string ⟨List.toArray a.2.1⟩) 21 a2 rfl ?_
  obtain ⟨b8, H⟩ := V0 H
  refine iS 3 ?_
  refine Dn (S' := 9) (T := 52) (E := 5) (x := (.tmp 21)) (l := a.2.1) (d := (some 22)) (k := 2) K rfl K K K K (Do b8) a2 ?_
  intro a9 b0 b9 b1 _
  have c0 : SP S w0 b9 [Qv g1 81 #[(.int .i64 q2), (.int .i64 q3), (.int .i64 q4), (.int .i64 q5), (.slice A7 (List.length (List.map stT j)) c8), (.slice p (List.length c) q)], Xi 9 Qs p q c, Qv s 48 #[(.string ⟨List.toArray a.1⟩), (.string ⟨List.toArray a.2.1⟩), (.int .i64 a.2.2.1)], rdE eU8 (some ⟨a9, 0, none⟩) b0 a.2.1] := b1
  clear b1
  refine iR 3 6 [(23, (.string ⟨List.toArray f⟩)), (24, (.string ⟨List.toArray h⟩)), (25, (.string ⟨List.toArray m⟩))] ?_
  refine iS 7 ?_
  refine V9 (e := Qs) (T := 53) (E := 9) (len := 3) (parts := #[(0, (.tmp 23)), (1, (.tmp 24)), (2, (.tmp 25))]) (cs := #[(.string ⟨List.toArray f⟩), (.string ⟨List.toArray h⟩), (.string ⟨List.toArray m⟩)]) ([f, h, m] : List (List UInt8)) (d := (some 26)) (k := 6) K rfl (fun _ => K) c0 rfl rfl rfl rfl ?_
  intro c1 c2 a4
  obtain ⟨a5, c3, H⟩ := Qe H
  refine iS 8 ?_
  refine cF 30 #[(.tmp 22), (.tmp 26)] #[52, 53] 27 Tryz.call30 (Rg (some ⟨a9, 0, none⟩) b0 (some ⟨c1, 0, none⟩) (List.length ([f, h, m] : List (List UInt8))) a.2.1 ([f, h, m] : List (List UInt8)) c2 (I6 (SP.get a4 (i := 3) rfl)) (Vq (SP.get a4 (i := 4) rfl)) a5 c3) ?_
  rintro e c7 ⟨rfl, b2⟩
  refine ⟨_, rfl, ?_⟩
  have c4 := SP.call a4 b2
  clear b2
  refine iR 1 9 [(8, (.string ⟨List.toArray a5⟩))] ?_
  refine iF ?_
  refine At.ret K ?_
  refine ⟨(.string ⟨List.toArray a5⟩), K, ?_⟩
  obtain rfl := Qh H
  exact ⟨p, q, rfl, SP.sel c4 [0,1] rfl rfl⟩
def Xt (a : (Bool × Int × Int × Int × Int × (List (List UInt8)))) (b : Bool) : Option (Int × Int × Int × Int × Int × (List (List UInt8))) :=
  (cond b (some (101, a.2.1, a.2.2.1, a.2.2.2.1, a.2.2.2.2.1, a.2.2.2.2.2)) (some (0, a.2.1, a.2.2.1, a.2.2.2.1, a.2.2.2.2.1, a.2.2.2.2.2)))
def Yt (q2 : Int) (q3 : Int) (q4 : Int) (q5 : Int) (q6 : (List Qi)) (e : (List (List UInt8))) (b : (List UInt8)) (c : (List UInt8)) (f : (List UInt8)) (g : (List UInt8)) (h : Int) : Option (Int × Int × Int × Int × Int × (List (List UInt8))) :=
  ((Xu q2 q3 q4 q5 q6 e b c h).bind fun a => (cond (!a.1) (some (3, a.2.1, a.2.2.1, a.2.2.2.1, a.2.2.2.2.1, a.2.2.2.2.2)) ((Xv a.2.1 a.2.2.1 a.2.2.2.1 a.2.2.2.2.1 q6 a.2.2.2.2.2 b c f).bind fun d => (cond (d == ([] : List UInt8)) (Xt a true) (Xt a (!(g == d)))))))
set_option maxRecDepth 100000 in
set_option maxHeartbeats 4000000 in
theorem R6 {S : List Nat} (g1 : Nat) (A7 : Option Addr) (c8 : Nat) (a2 : Option Addr) (a3 : Nat) (q2 : Int) (q3 : Int) (q4 : Int) (q5 : Int) (g : (List Vl)) (s : (List (List UInt8))) (i : (List UInt8)) (j : (List UInt8)) (u : (List UInt8)) (h : (List UInt8)) (v : Int) (w0 : World) (hO : SP S w0 w0 [Qv g1 81 #[(.int .i64 q2), (.int .i64 q3), (.int .i64 q4), (.int .i64 q5), (.slice A7 (List.length (List.map stT g)) c8), (.slice a2 (List.length s) a3)], Xi 9 Qs a2 a3 s]) (a8 : ∀ w, Mod S w0 w → (dDS Ua Eh).ok w (A7, c8, g)) (r : (Int × Int × Int × Int × Int × (List (List UInt8)))) (H : Yt q2 q3 q4 q5 (List.map stT g) s i j u h v = some r) :
  Calls Tryz.prog 27 #[(pt g1 0), (.string ⟨List.toArray i⟩), (.string ⟨List.toArray j⟩), (.string ⟨List.toArray u⟩), (.string ⟨List.toArray h⟩), (.int .i64 v)] w0 (fun e w' => ∃ (a9 : Option Addr) (b0 : Nat), e = .returned (.int .i64 r.1) ∧ SP S w0 w' [Qv g1 81 #[(.int .i64 r.2.1), (.int .i64 r.2.2.1), (.int .i64 r.2.2.2.1), (.int .i64 r.2.2.2.2.1), (.slice A7 (List.length (List.map stT g)) c8), (.slice a9 (List.length r.2.2.2.2.2) b0)], Xi 9 Qs a9 b0 r.2.2.2.2.2]) := by
 unfold Yt at H
 refine Qu (n := 32) Tryz.func27 K K K ?_
 have a4 := hO
 refine aQ ?_
 refine aR ?_
 refine iR 1 1 [(12, (.int .i64 0))] ?_
 refine iF ?_
 refine aQ ?_
 refine aQ ?_
 refine aR ?_
 refine iR 4 4 [(14, (pt g1 0)), (15, (.string ⟨List.toArray i⟩)), (16, (.string ⟨List.toArray j⟩)), (17, (.int .i64 v))] ?_
 obtain ⟨c, b6, H⟩ := Qe H
 refine iS 5 ?_
 refine cF 23 #[(.tmp 14), (.tmp 15), (.tmp 16), (.tmp 17)] #[31, 9, 9, 2] 18 Tryz.call23 (Yv g1 A7 c8 a2 a3 q2 q3 q4 q5 g s i j v w0 (Y3 a4 [0, 1] rfl rfl) (fun w hm => a8 w (SP.through a4 (l := [0, 1]) rfl hm)) c b6) ?_
 rintro e b1 ⟨z, a0, rfl, b2⟩
 refine ⟨_, rfl, ?_⟩
 have a1 : SP S w0 b1 [Qv g1 81 #[(.int .i64 c.2.1), (.int .i64 c.2.2.1), (.int .i64 c.2.2.2.1), (.int .i64 c.2.2.2.2.1), (.slice A7 (List.length (List.map stT g)) c8), (.slice z (List.length c.2.2.2.2.2) a0)], Xi 9 Qs z a0 c.2.2.2.2.2] := Za a4 [0, 1] [] rfl rfl b2 rfl
 clear b2
 refine iR 1 6 [(19, (.bool (!c.1)))] ?_
 refine iF ?_
 refine Zk K (o := (.tmp 19)) K (b := (!c.1)) K (fun a5 => ?_) (fun a5 => ?_)
 ·have H := ct H a5
  refine aQ ?_
  refine aR ?_
  refine iR 1 1 [(12, (.int .i64 3))] ?_
  refine iF ?_
  refine At.ret K ?_
  refine ⟨(.int .i64 3), K, ?_⟩
  obtain rfl := Qh H
  exact ⟨z, a0, rfl, SP.sel a1 [0,1] rfl rfl⟩
 ·have H := cf H a5
  refine At.skip K ?_
  refine aQ ?_
  refine aR ?_
  refine iR 4 4 [(20, (pt g1 0)), (21, (.string ⟨List.toArray i⟩)), (22, (.string ⟨List.toArray j⟩)), (23, (.string ⟨List.toArray u⟩))] ?_
  obtain ⟨f, b7, H⟩ := Qe H
  refine iS 5 ?_
  refine cF 25 #[(.tmp 20), (.tmp 21), (.tmp 22), (.tmp 23)] #[31, 9, 9, 9] 24 Tryz.call25 (J7 g1 A7 c8 z a0 c.2.1 c.2.2.1 c.2.2.2.1 c.2.2.2.2.1 g c.2.2.2.2.2 i j u b1 (Y3 a1 [0, 1] rfl rfl) (fun w hm => a8 w (SP.through a1 (l := [0, 1]) rfl hm)) f b7) ?_
  rintro e b8 ⟨m, p, rfl, b3⟩
  refine ⟨_, rfl, ?_⟩
  have b4 : SP S w0 b8 [Qv g1 81 #[(.int .i64 c.2.1), (.int .i64 c.2.2.1), (.int .i64 c.2.2.2.1), (.int .i64 c.2.2.2.2.1), (.slice A7 (List.length (List.map stT g)) c8), (.slice m (List.length c.2.2.2.2.2) p)], Xi 9 Qs m p c.2.2.2.2.2] := Za a1 [0, 1] [] rfl rfl b3 rfl
  clear b3
  refine iR 1 6 [(13, (.string ⟨List.toArray f⟩))] ?_
  refine iF ?_
  refine aQ ?_
  refine aQ ?_
  refine At.join (fun ρ w => ∃ (q : Bool), V3 ρ [(31, (.bool q))] ∧ SP S w0 w [Xi 9 Qs m p c.2.2.2.2.2, Qv g1 81 #[(.int .i64 c.2.1), (.int .i64 c.2.2.1), (.int .i64 c.2.2.2.1), (.int .i64 c.2.2.2.2.1), (.slice A7 (List.length (List.map stT g)) c8), (.slice m (List.length c.2.2.2.2.2) p)]] ∧ Xt c q = some r) ?_ ?_
  ·refine aR ?_
   refine iR 1 1 [(25, (.string ⟨List.toArray f⟩))] ?_
   refine iS 2 ?_
   refine Vt (op := .eql) (T := 9) (T' := 9) (x := (.tmp 25)) (y := (.const (.string ⟨List.toArray ([] : List UInt8)⟩))) (a := f) (b := ([] : List UInt8)) (r := (.bool (f == ([] : List UInt8)))) (d := (some 26)) (k := 1) K rfl K K rfl ?_
   refine iR 1 3 [(27, (.bool (f == ([] : List UInt8))))] ?_
   refine In.guard (t := 27) (b := (f == ([] : List UInt8))) K (fun a6 => ?_) (fun a6 => ?_)
   ·have H := ct H a6
    refine iR 4 7 [(28, undef), (29, undef), (30, undef), (31, (.bool true))] ?_
    refine iF ?_
    exact ⟨true, ⟨K, trivial⟩, SP.sel b4 [1, 0] rfl rfl, H⟩
   ·have H := cf H a6
    refine iR 2 5 [(28, (.string ⟨List.toArray h⟩)), (29, (.string ⟨List.toArray f⟩))] ?_
    refine iS 6 ?_
    refine Vt (op := .neq) (T := 9) (T' := 9) (x := (.tmp 28)) (y := (.tmp 29)) (a := h) (b := f) (r := (.bool (!(h == f)))) (d := (some 30)) (k := 5) K rfl K K rfl ?_
    refine iR 1 7 [(31, (.bool (!(h == f))))] ?_
    refine iF ?_
    exact ⟨(!(h == f)), ⟨K, trivial⟩, SP.sel b4 [1, 0] rfl rfl, H⟩
  ·rintro ρ b9 ⟨q, hk, b5, H⟩
   unfold Xt at H
   first | refine At.known [(31, (.bool q))] hk ?_ | rw [← Qz (l := [(31, (.bool q))]) hk]
   refine Zk K (o := (.tmp 31)) K (b := q) K (fun a7 => ?_) (fun a7 => ?_)
   ·have H := ct H a7
    refine aQ ?_
    refine aR ?_
    refine iR 1 1 [(12, (.int .i64 101))] ?_
    refine iF ?_
    refine At.ret K ?_
    refine ⟨(.int .i64 101), K, ?_⟩
    obtain rfl := Qh H
    exact ⟨m, p, rfl, SP.sel b5 [1,0] rfl rfl⟩
   ·have H := cf H a7
    refine At.skip K ?_
    refine aQ ?_
    refine aR ?_
    refine iR 1 1 [(12, (.int .i64 0))] ?_
    refine iF ?_
    refine At.ret K ?_
    refine ⟨(.int .i64 0), K, ?_⟩
    obtain rfl := Qh H
    exact ⟨m, p, rfl, SP.sel b5 [1,0] rfl rfl⟩
def Yo (b : Int → Option (Bool)) (p1 : (List (Int × (List UInt8) × (List UInt8) × (List UInt8) × (List UInt8) × Int))) (a : Int) (c : Bool) : Option (Bool) :=
  (cond c ((idx p1 a).bind fun d => ((idx p1 a).bind fun e => ((idx p1 a).bind fun f => ((idx p1 a).bind fun g => (cond (decide ((IntKind.wrap .i64 ((IntKind.wrap .i64 ((IntKind.wrap .i64 (((List.length d.2.1 : Nat) : Int) + ((List.length e.2.2.1 : Nat) : Int))) + ((List.length f.2.2.2.1 : Nat) : Int))) + ((List.length g.2.2.2.2.1 : Nat) : Int))) > 2000)) (some (true)) (b (IntKind.wrap .i64 (a + 1)))))))) (some ((decide (((List.length p1 : Nat) : Int) > 100)))))
def Xr (b : Int → Option (Bool)) (p1 : (List (Int × (List UInt8) × (List UInt8) × (List UInt8) × (List UInt8) × Int))) (a : Int) : Option (Bool) :=
  (cond (decide (a < ((List.length p1 : Nat) : Int))) (Yo b p1 a (decide (a < 200))) (Yo b p1 a false))
def Z0 (p1 : (List (Int × (List UInt8) × (List UInt8) × (List UInt8) × (List UInt8) × Int))) : Nat → Int → Option (Bool)
  | 0, _ => none
  | f + 1, a => Xr  (Z0 p1 f) p1 a
def Nz (p1 : (List (Int × (List UInt8) × (List UInt8) × (List UInt8) × (List UInt8) × Int))) : Option (Bool) :=
  (Z0 p1 Zj 0)
set_option maxRecDepth 100000 in
set_option maxHeartbeats 4000000 in
theorem Bg (A2 : Option Addr) (c3 : Nat) (p1 : (List (Int × (List UInt8) × (List UInt8) × (List UInt8) × (List UInt8) × Int))) (w0 : World) (m : RdT (Qf (Qd .i64) (Qf Qs (Qf Qs (Qf Qs (Qf Qs (Qd .i64)))))) w0 A2 c3 p1) (r : (Bool)) (H : Nz p1 = some r) :
  Calls Tryz.prog 17 #[(.slice A2 (List.length p1) c3)] w0 (fun e w' => e = .returned (.bool r) ∧ SP [] w0 w' []) := by
 unfold Nz at H
 refine Qu (n := 45) Tryz.func17 K K K ?_
 have b7 := Q1 [] w0
 refine aQ ?_
 refine aR ?_
 refine iR 1 1 [(2, (.bool false))] ?_
 refine iF ?_
 refine aQ ?_
 refine aQ ?_
 refine aR ?_
 refine iR 1 1 [(3, (.int .i64 0))] ?_
 refine iF ?_
 refine Z1 K (id := 0) K ?_
 refine Nf K (fun f3 ρ w => ∃ (a : Int), V3 ρ [(0, (.slice A2 (List.length p1) c3)), (3, (.int .i64 a))] ∧ SP [] w0 w [] ∧ Z0 p1 f3 a = some r) (by rintro ρ w ⟨a, hk, hs, H⟩; cases H) ?_ Zj ?_
 ·rintro f3 ρ g9 ⟨a, hk, z, H⟩
  refine At.known [(0, (.slice A2 (List.length p1) c3)), (3, (.int .i64 a))] hk ?_
  replace H := (show Xr (Z0 p1 f3) p1 a = some r from H)
  unfold Xr at H
  refine aQ ?_
  refine aQ ?_
  refine At.join (fun ρ w => ∃ (p : Bool), V3 ρ [(0, (.slice A2 (List.length p1) c3)), (3, (.int .i64 a)), (11, (.bool p))] ∧ SP [] w0 w [] ∧ Yo (Z0 p1 f3) p1 a p = some r) ?_ ?_
  ·refine aR ?_
   refine iR 5 5 [(4, (.int .i64 a)), (5, (.slice A2 (List.length p1) c3)), (6, (.int .i64 ((List.length p1 : Nat) : Int))), (7, (.bool (decide (a < ((List.length p1 : Nat) : Int))))), (8, (.bool (decide (a < ((List.length p1 : Nat) : Int)))))] ?_
   refine In.guard (t := 8) (b := (decide (a < ((List.length p1 : Nat) : Int)))) K (fun q => ?_) (fun q => ?_)
   ·have H := ct H q
    refine iR 3 8 [(9, (.int .i64 a)), (10, (.bool (decide (a < 200)))), (11, (.bool (decide (a < 200))))] ?_
    refine iF ?_
    exact ⟨(decide (a < 200)), ⟨K, K, K, trivial⟩, SP.sel z [] rfl rfl, H⟩
   ·have H := cf H q
    refine iR 3 8 [(9, undef), (10, undef), (11, (.bool false))] ?_
    refine iF ?_
    exact ⟨false, ⟨K, K, K, trivial⟩, SP.sel z [] rfl rfl, H⟩
  ·rintro ρ h1 ⟨p, hk, a0, H⟩
   unfold Yo at H
   first | refine At.known [(0, (.slice A2 (List.length p1) c3)), (3, (.int .i64 a)), (11, (.bool p))] hk ?_ | rw [← Qz (l := [(0, (.slice A2 (List.length p1) c3)), (3, (.int .i64 a)), (11, (.bool p))]) hk]
   refine Zk K (o := (.tmp 11)) K (b := p) K (fun s => ?_) (fun s => ?_)
   ·have H := ct H s
    refine At.skip K ?_
    refine aQ ?_
    refine Z1 K (id := 1) K ?_
    refine aQ ?_
    obtain ⟨f, a1, a2, b8, H⟩ := Qn H
    obtain ⟨g, a3, a4, b9, H⟩ := Qn H
    obtain ⟨h, a5, a6, c0, H⟩ := Qn H
    obtain ⟨i, a7, a8, c1, H⟩ := Qn H
    refine aG [GEq (.slice A2 (List.length p1) c3), GEq (.int .i64 a), Vi A2 (Qf (Qd .i64) (Qf Qs (Qf Qs (Qf Qs (Qf Qs (Qd .i64)))))).sz a, GElem A2 (Qf (Qd .i64) (Qf Qs (Qf Qs (Qf Qs (Qf Qs (Qd .i64)))))).sz a 1, GEq (.string ⟨List.toArray f.2.1⟩), GEq (.int .i64 ((List.length f.2.1 : Nat) : Int)), GEq (.slice A2 (List.length p1) c3), GEq (.int .i64 a), Vi A2 (Qf (Qd .i64) (Qf Qs (Qf Qs (Qf Qs (Qf Qs (Qd .i64)))))).sz a, GElem A2 (Qf (Qd .i64) (Qf Qs (Qf Qs (Qf Qs (Qf Qs (Qd .i64)))))).sz a 2, GEq (.string ⟨List.toArray g.2.2.1⟩), GEq (.int .i64 ((List.length g.2.2.1 : Nat) : Int)), GEq (.int .i64 (IntKind.wrap .i64 (((List.length f.2.1 : Nat) : Int) + ((List.length g.2.2.1 : Nat) : Int)))), GEq (.slice A2 (List.length p1) c3), GEq (.int .i64 a), Vi A2 (Qf (Qd .i64) (Qf Qs (Qf Qs (Qf Qs (Qf Qs (Qd .i64)))))).sz a, GElem A2 (Qf (Qd .i64) (Qf Qs (Qf Qs (Qf Qs (Qf Qs (Qd .i64)))))).sz a 3, GEq (.string ⟨List.toArray h.2.2.2.1⟩), GEq (.int .i64 ((List.length h.2.2.2.1 : Nat) : Int)), GEq (.int .i64 (IntKind.wrap .i64 ((IntKind.wrap .i64 (((List.length f.2.1 : Nat) : Int) + ((List.length g.2.2.1 : Nat) : Int))) + ((List.length h.2.2.2.1 : Nat) : Int)))), GEq (.slice A2 (List.length p1) c3), GEq (.int .i64 a), Vi A2 (Qf (Qd .i64) (Qf Qs (Qf Qs (Qf Qs (Qf Qs (Qd .i64)))))).sz a, GElem A2 (Qf (Qd .i64) (Qf Qs (Qf Qs (Qf Qs (Qf Qs (Qd .i64)))))).sz a 4, GEq (.string ⟨List.toArray i.2.2.2.2.1⟩), GEq (.int .i64 ((List.length i.2.2.2.2.1 : Nat) : Int)), GEq (.int .i64 (IntKind.wrap .i64 ((IntKind.wrap .i64 ((IntKind.wrap .i64 (((List.length f.2.1 : Nat) : Int) + ((List.length g.2.2.1 : Nat) : Int))) + ((List.length h.2.2.2.1 : Nat) : Int))) + ((List.length i.2.2.2.2.1 : Nat) : Int)))), GEq (.bool (decide ((IntKind.wrap .i64 ((IntKind.wrap .i64 ((IntKind.wrap .i64 (((List.length f.2.1 : Nat) : Int) + ((List.length g.2.2.1 : Nat) : Int))) + ((List.length h.2.2.2.1 : Nat) : Int))) + ((List.length i.2.2.2.2.1 : Nat) : Int))) > 2000)))] [] (tG [] w0 [] [([], [])]) 28 0 ⟨trivial, SP.drew a0⟩ ?_ ?_
    iterate 28 refine And.intro ?_ ?_
    exact trivial
    ·exact oV (hC (hS 0 (.slice A2 (List.length p1) c3)) (h0)) (.slice A2 (List.length p1) c3)
    ·exact oV (hC (hS 3 (.int .i64 a)) (h0)) (.int .i64 a)
    ·refine oL 0 ?_
     ·rintro ρ' w' hs hah ⟨h2, c2⟩
      refine kM (kc (kA hah 0 14) (kc (kA hah 1 15) k0)) fun hkn => ?_
      refine Ve (e := (Qf (Qd .i64) (Qf Qs (Qf Qs (Qf Qs (Qf Qs (Qd .i64))))))) (l := p1) (A := A2) (c := c3) (T := 25) (E := 34) (x := (.tmp 14)) (ix := (.tmp 15)) (ki := .i64) (iz := a) (d := (some 16)) (k := 2) K rfl K K K K (RdT.sp m c2) a1 a2 ?_
      intro c4 c5 c6 h3 hc282
      exact ⟨rfl, _, Qa hkn, ⟨c4, c5, c6, rfl⟩⟩
    ·refine oL 0 ?_
     ·rintro ρ' w' hs hah ⟨h4, h5⟩
      obtain ⟨a9, b0, c7, c8⟩ := hah 2 16 K
      refine kM (kc c8 k0) fun hkn => ?_
      refine Qk.run (k := 3) (v := (.pointer (some ⟨a9, (b0 + Int.toNat a * (Qf (Qd .i64) (Qf Qs (Qf Qs (Qf Qs (Qf Qs (Qd .i64)))))).sz + 1), none⟩))) K ?_
      exact ⟨rfl, _, Qa hkn, ⟨a9, b0, c7, rfl⟩⟩
    ·refine oL 0 ?_
     ·rintro ρ' w' hs hah ⟨h6, c9⟩
      obtain ⟨d0, d1, d2, d3⟩ := hah 3 17 K
      refine kM (kc d3 k0) fun hkn => ?_
      refine sC 9 17 d0 (d1 + Int.toNat a * (Qf (Qd .i64) (Qf Qs (Qf Qs (Qf Qs (Qf Qs (Qd .i64)))))).sz + 1) (.string ⟨List.toArray f.2.1⟩) 18 (Qj (e := (Qf (Qd .i64) (Qf Qs (Qf Qs (Qf Qs (Qf Qs (Qd .i64))))))) (Qg (RdT.sp m c9) d2 a1 a2) b8 (j := 1) rfl) ?_
      exact eK hkn
    ·exact oV (hC (hA 4 18) (h0)) (.int .i64 ((List.length f.2.1 : Nat) : Int))
    ·exact oV (hC (hS 0 (.slice A2 (List.length p1) c3)) (h0)) (.slice A2 (List.length p1) c3)
    ·exact oV (hC (hS 3 (.int .i64 a)) (h0)) (.int .i64 a)
    ·refine oL 0 ?_
     ·rintro ρ' w' hs hah ⟨h7, d4⟩
      refine kM (kc (kA hah 6 20) (kc (kA hah 7 21) k0)) fun hkn => ?_
      refine Ve (e := (Qf (Qd .i64) (Qf Qs (Qf Qs (Qf Qs (Qf Qs (Qd .i64))))))) (l := p1) (A := A2) (c := c3) (T := 25) (E := 34) (x := (.tmp 20)) (ix := (.tmp 21)) (ki := .i64) (iz := a) (d := (some 22)) (k := 8) K rfl K K K K (RdT.sp m d4) a3 a4 ?_
      intro d5 d6 d7 h8 hc299
      exact ⟨rfl, _, Qa hkn, ⟨d5, d6, d7, rfl⟩⟩
    ·refine oL 0 ?_
     ·rintro ρ' w' hs hah ⟨h9, i0⟩
      obtain ⟨b1, b2, d8, d9⟩ := hah 8 22 K
      refine kM (kc d9 k0) fun hkn => ?_
      refine Qk.run (k := 9) (v := (.pointer (some ⟨b1, (b2 + Int.toNat a * (Qf (Qd .i64) (Qf Qs (Qf Qs (Qf Qs (Qf Qs (Qd .i64)))))).sz + 2), none⟩))) K ?_
      exact ⟨rfl, _, Qa hkn, ⟨b1, b2, d8, rfl⟩⟩
    ·refine oL 0 ?_
     ·rintro ρ' w' hs hah ⟨i1, e0⟩
      obtain ⟨e1, e2, e3, e4⟩ := hah 9 23 K
      refine kM (kc e4 k0) fun hkn => ?_
      refine sC 9 23 e1 (e2 + Int.toNat a * (Qf (Qd .i64) (Qf Qs (Qf Qs (Qf Qs (Qf Qs (Qd .i64)))))).sz + 2) (.string ⟨List.toArray g.2.2.1⟩) 24 (Qj (e := (Qf (Qd .i64) (Qf Qs (Qf Qs (Qf Qs (Qf Qs (Qd .i64))))))) (Qg (RdT.sp m e0) e3 a3 a4) b9 (j := 2) rfl) ?_
      exact eK hkn
    ·exact oV (hC (hA 10 24) (h0)) (.int .i64 ((List.length g.2.2.1 : Nat) : Int))
    ·exact oV (hC (hA 5 19) (hC (hA 11 25) (h0))) (.int .i64 (IntKind.wrap .i64 (((List.length f.2.1 : Nat) : Int) + ((List.length g.2.2.1 : Nat) : Int))))
    ·exact oV (hC (hS 0 (.slice A2 (List.length p1) c3)) (h0)) (.slice A2 (List.length p1) c3)
    ·exact oV (hC (hS 3 (.int .i64 a)) (h0)) (.int .i64 a)
    ·refine oL 0 ?_
     ·rintro ρ' w' hs hah ⟨i2, e5⟩
      refine kM (kc (kA hah 13 27) (kc (kA hah 14 28) k0)) fun hkn => ?_
      refine Ve (e := (Qf (Qd .i64) (Qf Qs (Qf Qs (Qf Qs (Qf Qs (Qd .i64))))))) (l := p1) (A := A2) (c := c3) (T := 25) (E := 34) (x := (.tmp 27)) (ix := (.tmp 28)) (ki := .i64) (iz := a) (d := (some 29)) (k := 15) K rfl K K K K (RdT.sp m e5) a5 a6 ?_
      intro e6 e7 e8 i3 hc316
      exact ⟨rfl, _, Qa hkn, ⟨e6, e7, e8, rfl⟩⟩
    ·refine oL 0 ?_
     ·rintro ρ' w' hs hah ⟨i4, i5⟩
      obtain ⟨b3, b4, e9, f0⟩ := hah 15 29 K
      refine kM (kc f0 k0) fun hkn => ?_
      refine Qk.run (k := 16) (v := (.pointer (some ⟨b3, (b4 + Int.toNat a * (Qf (Qd .i64) (Qf Qs (Qf Qs (Qf Qs (Qf Qs (Qd .i64)))))).sz + 3), none⟩))) K ?_
      exact ⟨rfl, _, Qa hkn, ⟨b3, b4, e9, rfl⟩⟩
    ·refine oL 0 ?_
     ·rintro ρ' w' hs hah ⟨i6, f1⟩
      obtain ⟨f2, f4, f5, f6⟩ := hah 16 30 K
      refine kM (kc f6 k0) fun hkn => ?_
      refine sC 9 30 f2 (f4 + Int.toNat a * (Qf (Qd .i64) (Qf Qs (Qf Qs (Qf Qs (Qf Qs (Qd .i64)))))).sz + 3) (.string ⟨List.toArray h.2.2.2.1⟩) 31 (Qj (e := (Qf (Qd .i64) (Qf Qs (Qf Qs (Qf Qs (Qf Qs (Qd .i64))))))) (Qg (RdT.sp m f1) f5 a5 a6) c0 (j := 3) rfl) ?_
      exact eK hkn
    ·exact oV (hC (hA 17 31) (h0)) (.int .i64 ((List.length h.2.2.2.1 : Nat) : Int))
    ·exact oV (hC (hA 12 26) (hC (hA 18 32) (h0))) (.int .i64 (IntKind.wrap .i64 ((IntKind.wrap .i64 (((List.length f.2.1 : Nat) : Int) + ((List.length g.2.2.1 : Nat) : Int))) + ((List.length h.2.2.2.1 : Nat) : Int))))
    ·exact oV (hC (hS 0 (.slice A2 (List.length p1) c3)) (h0)) (.slice A2 (List.length p1) c3)
    ·exact oV (hC (hS 3 (.int .i64 a)) (h0)) (.int .i64 a)
    ·refine oL 0 ?_
     ·rintro ρ' w' hs hah ⟨i7, f7⟩
      refine kM (kc (kA hah 20 34) (kc (kA hah 21 35) k0)) fun hkn => ?_
      refine Ve (e := (Qf (Qd .i64) (Qf Qs (Qf Qs (Qf Qs (Qf Qs (Qd .i64))))))) (l := p1) (A := A2) (c := c3) (T := 25) (E := 34) (x := (.tmp 34)) (ix := (.tmp 35)) (ki := .i64) (iz := a) (d := (some 36)) (k := 22) K rfl K K K K (RdT.sp m f7) a7 a8 ?_
      intro f8 f9 g0 i8 hc333
      exact ⟨rfl, _, Qa hkn, ⟨f8, f9, g0, rfl⟩⟩
    ·refine oL 0 ?_
     ·rintro ρ' w' hs hah ⟨i9, j0⟩
      obtain ⟨b5, b6, g1, g2⟩ := hah 22 36 K
      refine kM (kc g2 k0) fun hkn => ?_
      refine Qk.run (k := 23) (v := (.pointer (some ⟨b5, (b6 + Int.toNat a * (Qf (Qd .i64) (Qf Qs (Qf Qs (Qf Qs (Qf Qs (Qd .i64)))))).sz + 4), none⟩))) K ?_
      exact ⟨rfl, _, Qa hkn, ⟨b5, b6, g1, rfl⟩⟩
    ·refine oL 0 ?_
     ·rintro ρ' w' hs hah ⟨j1, g3⟩
      obtain ⟨g4, g5, g6, g7⟩ := hah 23 37 K
      refine kM (kc g7 k0) fun hkn => ?_
      refine sC 9 37 g4 (g5 + Int.toNat a * (Qf (Qd .i64) (Qf Qs (Qf Qs (Qf Qs (Qf Qs (Qd .i64)))))).sz + 4) (.string ⟨List.toArray i.2.2.2.2.1⟩) 38 (Qj (e := (Qf (Qd .i64) (Qf Qs (Qf Qs (Qf Qs (Qf Qs (Qd .i64))))))) (Qg (RdT.sp m g3) g6 a7 a8) c1 (j := 4) rfl) ?_
      exact eK hkn
    ·exact oV (hC (hA 24 38) (h0)) (.int .i64 ((List.length i.2.2.2.2.1 : Nat) : Int))
    ·exact oV (hC (hA 19 33) (hC (hA 25 39) (h0))) (.int .i64 (IntKind.wrap .i64 ((IntKind.wrap .i64 ((IntKind.wrap .i64 (((List.length f.2.1 : Nat) : Int) + ((List.length g.2.2.1 : Nat) : Int))) + ((List.length h.2.2.2.1 : Nat) : Int))) + ((List.length i.2.2.2.2.1 : Nat) : Int))))
    ·exact oV (hC (hA 26 40) (h0)) (.bool (decide ((IntKind.wrap .i64 ((IntKind.wrap .i64 ((IntKind.wrap .i64 (((List.length f.2.1 : Nat) : Int) + ((List.length g.2.2.1 : Nat) : Int))) + ((List.length h.2.2.2.1 : Nat) : Int))) + ((List.length i.2.2.2.2.1 : Nat) : Int))) > 2000)))
    ·rintro ρ' w' hs hf ⟨j2, u⟩
     refine Q4 [(0, (.slice A2 (List.length p1) c3)), (3, (.int .i64 a)), (41, (.bool (decide ((IntKind.wrap .i64 ((IntKind.wrap .i64 ((IntKind.wrap .i64 (((List.length f.2.1 : Nat) : Int) + ((List.length g.2.2.1 : Nat) : Int))) + ((List.length h.2.2.2.1 : Nat) : Int))) + ((List.length i.2.2.2.2.1 : Nat) : Int))) > 2000))))] ⟨(hs 0 K).trans K, (hs 3 K).trans K, hf 27 41 K, trivial⟩ ?_
     obtain ⟨j3, g8⟩ : ∃ x, w' = x := ⟨_, rfl⟩
     rw [g8] at u ⊢
     refine Zk K (o := (.tmp 41)) K (b := (decide ((IntKind.wrap .i64 ((IntKind.wrap .i64 ((IntKind.wrap .i64 (((List.length f.2.1 : Nat) : Int) + ((List.length g.2.2.1 : Nat) : Int))) + ((List.length h.2.2.2.1 : Nat) : Int))) + ((List.length i.2.2.2.2.1 : Nat) : Int))) > 2000))) K (fun y => ?_) (fun y => ?_)
     ·have H := ct H y
      refine aQ ?_
      refine aR ?_
      refine iR 1 1 [(2, (.bool true))] ?_
      refine iF ?_
      refine At.ret K ?_
      refine ⟨(.bool true), K, ?_⟩
      obtain rfl := Qh H
      exact ⟨rfl, SP.sel u [] rfl rfl⟩
     ·have H := cf H y
      refine At.skip K ?_
      refine aR ?_
      refine iR 3 3 [(12, (.int .i64 a)), (13, (.int .i64 (IntKind.wrap .i64 (a + 1)))), (3, (.int .i64 (IntKind.wrap .i64 (a + 1))))] ?_
      refine iF ?_
      exact ⟨(IntKind.wrap .i64 (a + 1)), ⟨K, K, trivial⟩, SP.sel u [] rfl rfl, H⟩
   ·have H := cf H s
    refine At.exit K (id := 0) K ?_
    refine aQ ?_
    refine aR ?_
    refine iR 4 4 [(42, (.slice A2 (List.length p1) c3)), (43, (.int .i64 ((List.length p1 : Nat) : Int))), (44, (.bool (decide (((List.length p1 : Nat) : Int) > 100)))), (2, (.bool (decide (((List.length p1 : Nat) : Int) > 100))))] ?_
    refine iF ?_
    refine At.ret K ?_
    refine ⟨(.bool (decide (((List.length p1 : Nat) : Int) > 100))), K, ?_⟩
    obtain rfl := Qh H
    exact ⟨rfl, SP.sel a0 [] rfl rfl⟩
 ·exact ⟨0, ⟨K, K, trivial⟩, SP.sel b7 [] rfl rfl, H⟩
end Go.Proofs.YtmgfanhcdfobhaaGreatDoor
namespace Go.Proofs.YtmgfanhcdfobhaaGreatDoor
theorem L0 {α : Type} {P : α → Bool} {l : List α} {i : Nat} (hi : i < l.length) (hn : (l.take i).any P = false) (hx : P l[i] = true) : l.findIdx? P = some i := by
  rw [List.findIdx?_eq_some_iff_getElem]
  refine ⟨hi, hx, fun j hj => ?_⟩
  rw [List.any_eq_false] at hn
  have := hn l[j] (by rw [List.mem_take_iff_getElem]; exact ⟨j, by omega, rfl⟩)
  simpa using this
theorem L1 {α : Type} {P : α → Bool} {l : List α} (hn : l.any P = false) : l.findIdx? P = none := by
  rw [List.findIdx?_eq_none_iff]
  intro x hx
  rw [List.any_eq_false] at hn
  simpa using hn x hx
theorem L2 {α : Type} {P : α → Bool} {l : List α} {i : Nat} (hi : i < l.length) (hn : (l.take i).any P = false) (hx : P l[i] = false) : (l.take (i + 1)).any P = false := by
  rw [List.take_add_one, List.getElem?_eq_getElem hi, List.any_append, hn]
  simp [hx]
def ixI (o : Option Nat) : Int := match o with | some i => (i : Int) | none => -1
theorem Of (l : List Qi) (P : Qi → Bool) (p : Str → Int → Int → List Ld → List Ex → Option Bool) (hp : ∀ x : Qi, p x.1 x.2.1 x.2.2.1 x.2.2.2.1 x.2.2.2.2 = some (P x)) (hl : l.length ≤ 140737488355328) :
    ∀ (d i f : Nat), d = l.length - i → i ≤ l.length → d < f → (l.take i).any P = false → Qp l p f (i : Int) = some (ixI (l.findIdx? P)) := by
  intro d
  induction d with
  | zero =>
    intro i f hd hi hf hn
    obtain ⟨f, rfl⟩ : ∃ g, f = g + 1 := ⟨f - 1, by omega⟩
    show Qr (Qp l p f) l p (i : Int) = _
    unfold Qr
    rw [List.take_of_length_le (by omega)] at hn
    rw [show decide ((i : Int) < ((l.length : Nat) : Int)) = false from decide_eq_false (by omega), cond_false, L1 hn]
    rfl
  | succ d ih =>
    intro i f hd hi hf hn
    obtain ⟨f, rfl⟩ : ∃ g, f = g + 1 := ⟨f - 1, by omega⟩
    have hlt : i < l.length := by omega
    show Qr (Qp l p f) l p (i : Int) = _
    unfold Qr
    rw [show decide ((i : Int) < ((l.length : Nat) : Int)) = true from decide_eq_true (by omega), cond_true, Jo hlt, Option.bind_some, hp, Option.bind_some]
    cases hx : P l[i] with
    | true => rw [cond_true, L0 hlt hn hx]; rfl
    | false =>
      rw [cond_false, show ((i : Int) + 1) = ((i + 1 : Nat) : Int) by omega, Xj (by omega)]
      exact ih (i + 1) f (by omega) (by omega) (by omega) (L2 hlt hn hx)
theorem Og (l : List Ex) (P : Ex → Bool) (p : Str → Str → Int → Option Bool) (hp : ∀ x : Ex, p x.1 x.2.1 x.2.2 = some (P x)) (hl : l.length ≤ 140737488355328) :
    ∀ (d i f : Nat), d = l.length - i → i ≤ l.length → d < f → (l.take i).any P = false → Qq l p f (i : Int) = some (ixI (l.findIdx? P)) := by
  intro d
  induction d with
  | zero =>
    intro i f hd hi hf hn
    obtain ⟨f, rfl⟩ : ∃ g, f = g + 1 := ⟨f - 1, by omega⟩
    show Qt (Qq l p f) l p (i : Int) = _
    unfold Qt
    rw [List.take_of_length_le (by omega)] at hn
    rw [show decide ((i : Int) < ((l.length : Nat) : Int)) = false from decide_eq_false (by omega), cond_false, L1 hn]
    rfl
  | succ d ih =>
    intro i f hd hi hf hn
    obtain ⟨f, rfl⟩ : ∃ g, f = g + 1 := ⟨f - 1, by omega⟩
    have hlt : i < l.length := by omega
    show Qt (Qq l p f) l p (i : Int) = _
    unfold Qt
    rw [show decide ((i : Int) < ((l.length : Nat) : Int)) = true from decide_eq_true (by omega), cond_true, Jo hlt, Option.bind_some, hp, Option.bind_some]
    cases hx : P l[i] with
    | true => rw [cond_true, L0 hlt hn hx]; rfl
    | false =>
      rw [cond_false, show ((i : Int) + 1) = ((i + 1 : Nat) : Int) by omega, Xj (by omega)]
      exact ih (i + 1) f (by omega) (by omega) (by omega) (L2 hlt hn hx)
theorem pl_lt' {l : List Qi} {nm : Str} {k : Nat} (h : pl l nm = some k) : k < l.length := (List.findIdx?_eq_some_iff_getElem.1 h).1
theorem lFind (w g i e : Int) (l : List Qi) (nm : Str) (hl : l.length ≤ 140737488355328) : Nv w g i e l nm = some (Fc l nm) := by
  have h := Of l (fun x => x.1 == nm) (fun y0 y1 y2 y3 y4 => Gi y0 y1 y2 y3 y4 nm) (fun x => rfl) hl l.length 0 Zj (by omega) (by omega) (by unfold Zj; omega) rfl
  unfold Nv Vh
  rw [show ((0 : Nat) : Int) = 0 from rfl] at h
  rw [h, Option.bind_some]
  unfold Fc
  show _ = some (match pl l nm with | some k => _ | none => _)
  rw [show l.findIdx? (fun x => x.1 == nm) = pl l nm from rfl]
  cases hp : pl l nm with
  | none => rfl
  | some k =>
    have hk := pl_lt' hp
    have hg : l.getD k Im = l[k] := by simp [List.getD, hk]
    rw [show decide (ixI (some k) < 0) = false from decide_eq_false (by show ¬ ((k : Nat) : Int) < 0; omega), cond_false]
    show (idx l ((k : Nat) : Int)).bind _ = _
    rw [Jo hk, Option.bind_some]
    simp only [hg]
def tix (l : List Ex) (nm : Str) : Option Nat := l.findIdx? (fun x => x.1 == nm)
def Oh : Ex := ([], [], 0)
def Oq (l : List Ex) (nm : Str) : Str × Str × Int × Bool := match tix l nm with
  | some k => ((l.getD k Oh).1, (l.getD k Oh).2.1, (l.getD k Oh).2.2, true)
  | none => ([], [], 0, false)
theorem tix_lt {l : List Ex} {nm : Str} {k : Nat} (h : tix l nm = some k) : k < l.length := (List.findIdx?_eq_some_iff_getElem.1 h).1
theorem lTok (n : Str) (a b : Int) (ns : List Ld) (l : List Ex) (nm : Str) (hl : l.length ≤ 140737488355328) : U8 n a b ns l nm = some (Oq l nm) := by
  have h := Og l (fun x => x.1 == nm) (fun y0 y1 y2 => N3 y0 y1 y2 nm) (fun x => rfl) hl l.length 0 Zj (by omega) (by omega) (by unfold Zj; omega) rfl
  unfold U8 Vk
  rw [show ((0 : Nat) : Int) = 0 from rfl] at h
  rw [h, Option.bind_some]
  unfold Oq
  rw [show l.findIdx? (fun x => x.1 == nm) = tix l nm from rfl]
  cases hp : tix l nm with
  | none => rfl
  | some k =>
    have hk := tix_lt hp
    have hg : l.getD k Oh = l[k] := by simp [List.getD, hk]
    rw [show decide (ixI (some k) < 0) = false from decide_eq_false (by show ¬ ((k : Nat) : Int) < 0; omega), cond_false]
    show (idx l ((k : Nat) : Int)).bind _ = _
    rw [Jo hk, Option.bind_some]
    simp only [hg]
theorem rTok_loop (l : List Ex) (nm : Str) (hl : l.length ≤ 9000) : ∀ (d i f : Nat), d = l.length - i → i ≤ l.length → d < f → (l.take i).any (fun x => x.1 == nm) = false → Xn l nm f (i : Int) = some (Oq l nm) := by
  intro d
  induction d with
  | zero =>
    intro i f hd hi hf hn
    obtain ⟨f, rfl⟩ : ∃ g, f = g + 1 := ⟨f - 1, by omega⟩
    show Xm (Xn l nm f) l nm (i : Int) = _
    unfold Xm Oq tix
    rw [List.take_of_length_le (by omega)] at hn
    rw [show decide ((i : Int) < ((l.length : Nat) : Int)) = false from decide_eq_false (by omega), cond_false, L1 hn]
  | succ d ih =>
    intro i f hd hi hf hn
    obtain ⟨f, rfl⟩ : ∃ g, f = g + 1 := ⟨f - 1, by omega⟩
    have hlt : i < l.length := by omega
    show Xm (Xn l nm f) l nm (i : Int) = _
    unfold Xm
    rw [show decide ((i : Int) < ((l.length : Nat) : Int)) = true from decide_eq_true (by omega), cond_true, Jo hlt, Option.bind_some]
    cases hx : (l[i].1 == nm) with
    | true =>
      have hg : l.getD i Oh = l[i] := by simp [List.getD, hlt]
      rw [cond_true, Option.bind_some]
      unfold Oq tix
      rw [L0 hlt hn hx]
      simp only [hg]
    | false =>
      rw [cond_false, show ((i : Int) + 1) = ((i + 1 : Nat) : Int) by omega, Xj (by omega)]
      exact ih (i + 1) f (by omega) (by omega) (by omega) (L2 hlt hn hx)
theorem rTok (n : Str) (a b : Int) (ns : List Ld) (l : List Ex) (nm : Str) (hl : l.length ≤ 9000) : Np n a b ns l nm = some (Oq l nm) :=
  rTok_loop l nm hl l.length 0 Zj (by omega) (by omega) (by unfold Zj; omega) rfl
theorem Mo (a : Nat) (h : a < 256) : (BitVec.ofInt (IntKind.bits .u8) (a : Int)).toNat = a := by
  show (BitVec.ofInt 8 (a : Int)).toNat = a
  rw [BitVec.ofInt_natCast, BitVec.toNat_ofNat]
  exact Nat.mod_eq_of_lt (by omega)
theorem bOr8 (a b : Nat) (ha : a < 256) (hb : b < 256) : bOr .u8 (a : Int) (b : Int) = ((a ||| b : Nat) : Int) := by
  unfold bOr
  rw [BitVec.toNat_or, Mo a ha, Mo b hb, M0]
  have : a ||| b < 2 ^ 8 := Nat.or_lt_two_pow (by omega) (by omega)
  omega
theorem bXor8 (a b : Nat) (ha : a < 256) (hb : b < 256) : V1 .u8 (a : Int) (b : Int) = ((a ^^^ b : Nat) : Int) := by
  unfold V1
  rw [BitVec.toNat_xor, Mo a ha, Mo b hb, M0]
  have : a ^^^ b < 2 ^ 8 := Nat.xor_lt_two_pow (by omega) (by omega)
  omega
theorem or_zero {a b : Nat} : a ||| b = 0 ↔ a = 0 ∧ b = 0 := by
  constructor
  · intro h
    exact ⟨Nat.le_zero.1 (h ▸ Nat.left_le_or), Nat.le_zero.1 (h ▸ Nat.right_le_or)⟩
  · rintro ⟨rfl, rfl⟩; rfl
theorem xor_zero {a b : Nat} : a ^^^ b = 0 ↔ a = b := by
  constructor
  · intro h
    have : a ^^^ b ^^^ b = 0 ^^^ b := by rw [h]
    rwa [Nat.xor_assoc, Nat.xor_self, Nat.xor_zero, Nat.zero_xor] at this
  · rintro rfl; exact Nat.xor_self a
theorem L3 (v x y : UInt8) : (Dm (bOr .u8 ((v.toNat : Nat) : Int) (V1 .u8 ((x.toNat : Nat) : Int) ((y.toNat : Nat) : Int))) = 0) ↔ (v = 0 ∧ x = y) := by
  have hv := v.toNat_lt
  have hx := x.toNat_lt
  have hy := y.toNat_lt
  have hxy : x.toNat ^^^ y.toNat < 2 ^ 8 := Nat.xor_lt_two_pow (by omega) (by omega)
  rw [bXor8 _ _ (by omega) (by omega), bOr8 _ _ (by omega) (by omega), Ma]
  have hor : v.toNat ||| (x.toNat ^^^ y.toNat) < 2 ^ 8 := Nat.or_lt_two_pow (by omega) (by omega)
  constructor
  · intro h
    have h2 := congrArg UInt8.toNat h
    rw [UInt8.toNat_ofNat', Nat.mod_eq_of_lt (by omega)] at h2
    obtain ⟨a, b⟩ := or_zero.1 h2
    exact ⟨UInt8.toNat_inj.1 a, UInt8.toNat_inj.1 (xor_zero.1 b)⟩
  · rintro ⟨rfl, rfl⟩
    rw [Nat.xor_self]
    rfl
theorem same_loop (p q : Str) (hlen : p.length = q.length) (hl : p.length ≤ 140737488355328) : ∀ (d i f : Nat) (v : UInt8), d = p.length - i → i ≤ p.length → d < f → (v = 0 ↔ p.take i = q.take i) → Nx p q f v (i : Int) = some (p == q) := by
  intro d
  induction d with
  | zero =>
    intro i f v hd hi hf hv
    obtain ⟨f, rfl⟩ : ∃ g, f = g + 1 := ⟨f - 1, by omega⟩
    show Nw (Nx p q f) p q v (i : Int) = _
    unfold Nw
    rw [List.take_of_length_le (by omega), List.take_of_length_le (by omega)] at hv
    rw [show decide ((i : Int) < ((p.length : Nat) : Int)) = false from decide_eq_false (by omega), cond_false]
    congr 1
    rw [Bool.eq_iff_iff, beq_iff_eq, beq_iff_eq, ← hv]
    constructor
    · intro h
      exact UInt8.toNat_inj.1 (by show v.toNat = 0; omega)
    · rintro rfl; rfl
  | succ d ih =>
    intro i f v hd hi hf hv
    obtain ⟨f, rfl⟩ : ∃ g, f = g + 1 := ⟨f - 1, by omega⟩
    have hlt : i < p.length := by omega
    have hlt2 : i < q.length := by omega
    show Nw (Nx p q f) p q v (i : Int) = _
    unfold Nw
    rw [show decide ((i : Int) < ((p.length : Nat) : Int)) = true from decide_eq_true (by omega), cond_true, Jo hlt, Option.bind_some, Jo hlt2, Option.bind_some, show ((i : Int) + 1) = ((i + 1 : Nat) : Int) by omega, Xj (by omega)]
    refine ih (i + 1) f _ (by omega) (by omega) (by omega) ?_
    rw [L3, hv, List.take_add_one, List.take_add_one, List.getElem?_eq_getElem hlt, List.getElem?_eq_getElem hlt2]
    constructor
    · rintro ⟨h1, h2⟩; rw [h1, h2]
    · intro h
      have := List.append_inj h (by simp; omega)
      exact ⟨this.1, by simpa using this.2⟩
theorem lSame (p q : Str) (hl : p.length ≤ 140737488355328) : Bf p q = some (p == q) := by
  unfold Bf
  by_cases h : p.length = q.length
  · rw [h, bne_self_eq_false, cond_false]
    exact same_loop p q h hl p.length 0 Zj 0 (by omega) (by omega) (by unfold Zj; omega) (by simp)
  · rw [show ((((List.length p : Nat) : Int)) != ((List.length q : Nat) : Int)) = true by rw [bne_iff_ne]; omega, cond_true]
    congr 1
    symm
    rw [beq_eq_false_iff_ne]
    rintro rfl
    exact h rfl
structure VC (l : List Qi) : Prop where
  len : l.length ≤ 9000
  q : ∀ t ∈ l, Lg t
  s : ∀ t ∈ l, TenS t
  o : ∀ t ∈ l, Ez t = true
def Cy (l : List Qi) (t k : Str) : Str × Str × Int × Bool := Oq (Fc l t).2.2.2.2.1 k
def Oi (l : List Qi) (M : N5) (t k : Str) (now : Int) : Bool := (Cy l t k).2.2.2 && ((G8 M (t, k) == 0) && decide (now < (Cy l t k).2.2.1))
def Ed (l : List Qi) (t k n : Str) : Str := cond (Cy l t k).2.2.2 (B6 (Cy l t k).2.1 [t, k, n]) []
def Mp (l : List Qi) (M : N5) (t k n p : Str) (now : Int) : Int := cond (Oi l M t k now) (cond (Ed l t k n == []) 101 (cond (p == Ed l t k n) 0 101)) 3
def vRevB (l : List Qi) (M : N5) (t k : Str) : Bool := (Cy l t k).2.2.2 && (G8 M (t, k) == 0)
def L4 (l : List Qi) (M : N5) (t k : Str) : N5 := cond (Cy l t k).2.2.2 (Mm M (t, k) (G8 M (t, k) + 1)) M
section
variable {l : List Qi} (hv : VC l)
include hv
theorem Cv (t : Str) : (Fc l t).2.2.2.2.1.length ≤ 9000 := by
  unfold Fc
  cases hp : pl l t with
  | none => simp
  | some k =>
    have hk := pl_lt' hp
    have hg : l.getD k Im = l[k] := by simp [List.getD, hk]
    simp only [hg]
    exact (hv.s _ (List.getElem_mem hk)).2.2.1
theorem Iy {t k : Str} (h : (Cy l t k).2.2.2 = true) : (Cy l t k).2.1.length ≤ 32 ∧ 0 ≤ (Cy l t k).2.2.1 ∧ (Cy l t k).2.2.1 ≤ 1099511627776 ∧ t.length ≤ 20 ∧ k.length ≤ 20 := by
  unfold Cy at h ⊢
  unfold Fc at h ⊢
  cases hp : pl l t with
  | none =>
    rw [hp] at h
    simp [Oq, tix] at h
  | some i =>
    have hi := pl_lt' hp
    have hg : l.getD i Im = l[i] := by simp [List.getD, hi]
    rw [hp] at h
    simp only [hg] at h ⊢
    have ho := hv.o _ (List.getElem_mem hi)
    have hname : l[i].1 = t := by
      have := (List.findIdx?_eq_some_iff_getElem.1 hp).2.1
      simpa using this
    unfold Ez at ho
    simp only [Bool.and_eq_true, List.all_eq_true] at ho
    have hn := ho.2.1.1
    unfold Ci at hn
    simp only [Bool.and_eq_true, decide_eq_true_eq] at hn
    unfold Oq at h ⊢
    cases hp2 : tix l[i].2.2.2.2 k with
    | none => rw [hp2] at h; cases h
    | some j =>
      have hj := tix_lt hp2
      have hg2 : l[i].2.2.2.2.getD j Oh = l[i].2.2.2.2[j] := by simp [List.getD, hj]
      simp only [hg2]
      have hk := ho.1.2 _ (List.getElem_mem hj)
      have hname2 : l[i].2.2.2.2[j].1 = k := by
        have := (List.findIdx?_eq_some_iff_getElem.1 hp2).2.1
        simpa using this
      unfold Fs Ci at hk
      simp only [Bool.and_eq_true, decide_eq_true_eq] at hk
      rw [hname2] at hk
      rw [hname] at hn
      exact ⟨hk.2.1.2, hk.2.2.1, hk.2.2.2, hn.1.1.1.2, hk.1.1.1.1.2⟩
theorem rfound (w g i e : Int) (G : List Str) (t k : Str) : Z5 w g i e l G t k = some (Cy l t k) := by
  unfold Z5
  rw [rFind _ _ _ _ _ _ hv.len, Option.bind_some, rTok _ _ _ _ _ _ (Cv hv t), Option.bind_some]
  rfl
variable (w g i e : Int) (M : N5) (t k : Str)
theorem pVGood (now : Int) : Yj w g i e l M t k now = some (Oi l M t k now) := by
  unfold Yj Xw Zl
  rw [lFind _ _ _ _ _ _ (by have := hv.len; omega), Option.bind_some, lTok _ _ _ _ _ _ (by have := Cv hv t; omega), Option.bind_some]
  rw [show Oq (Fc l t).2.2.2.2.1 k = Cy l t k from rfl]
  unfold Oi
  cases h : (Cy l t k).2.2.2 with
  | false => rfl
  | true =>
    obtain ⟨_, _, _, h1, h2⟩ := Iy hv h
    rw [cond_true]
    unfold Nc Y8
    rw [show (Nat.ble t.length 140737488355328 && Nat.ble k.length 140737488355328) = true by simp; omega]
    simp only [chk, Option.bind_some]
    cases (G8 M (t, k) == 0) <;> rfl
theorem pVWant (n : Str) : Yk w g i e l M t k n = some (Ed l t k n) := by
  unfold Yk Xx Zm
  rw [lFind _ _ _ _ _ _ (by have := hv.len; omega), Option.bind_some, lTok _ _ _ _ _ _ (by have := Cv hv t; omega), Option.bind_some]
  rw [show Oq (Fc l t).2.2.2.2.1 k = Cy l t k from rfl]
  unfold Ed
  cases h : (Cy l t k).2.2.2 with
  | false => rfl
  | true =>
    obtain ⟨h1, _⟩ := Iy hv h
    rw [cond_true, cond_true]
    unfold Nd
    rw [show Nat.ble (Cy l t k).2.1.length 281474976710656 = true by simp; omega]
    simp only [chk, Option.bind_some]
    rw [Od _ (by omega) _ (by simp)]
    rfl
theorem pVRevoke (hM : 0 ≤ G8 M (t, k) ∧ G8 M (t, k) ≤ 1000000) : Yh w g i e l M t k = some (vRevB l M t k, w, g, i, e, L4 l M t k) := by
  unfold Yh Xh V8
  rw [lFind _ _ _ _ _ _ (by have := hv.len; omega), Option.bind_some, lTok _ _ _ _ _ _ (by have := Cv hv t; omega), Option.bind_some]
  rw [show Oq (Fc l t).2.2.2.2.1 k = Cy l t k from rfl]
  unfold vRevB L4
  cases h : (Cy l t k).2.2.2 with
  | false => rfl
  | true =>
    obtain ⟨_, _, _, h1, h2⟩ := Iy hv h
    rw [cond_true]
    unfold Ur
    rw [show (Nat.ble t.length 140737488355328 && Nat.ble k.length 140737488355328) = true by simp; omega]
    simp only [chk, Option.bind_some, cond_true, Bool.true_and]
    rw [Ds (by omega), Hn, if_pos rfl]
    rw [show (G8 M (t, k) + 1 == 1) = (G8 M (t, k) == 0) by rw [Bool.eq_iff_iff, beq_iff_eq, beq_iff_eq]; omega]
omit hv in
theorem vWant_len (n : Str) : (Ed l t k n).length ≤ 64 := by
  unfold Ed
  cases (Cy l t k).2.2.2 with
  | false => simp
  | true =>
    rw [cond_true]
    by_cases h : ∀ x ∈ [t, k, n], x.length ≤ 255
    · rw [Iw h]; omega
    · unfold B6
      rw [if_neg (by simpa [List.all_eq_true] using h)]
      simp
omit hv in
theorem beq_sym (a b : Str) : (a == b) = (b == a) := by rw [Bool.eq_iff_iff, beq_iff_eq, beq_iff_eq]; exact eq_comm
theorem pVCheck (n p : Str) (hp : p.length ≤ 140737488355328) (now : Int) : Xd w g i e l M t k n p now = some (Mp l M t k n p now) := by
  unfold Xd Jf Mp
  rw [pVGood hv, Option.bind_some, pVWant hv, Option.bind_some]
  have hw := vWant_len (l := l) t k n
  cases Oi l M t k now with
  | false => rfl
  | true =>
    rw [show (!true) = false from rfl, cond_false, cond_true]
    cases h : (Ed l t k n == []) with
    | true => rfl
    | false =>
      rw [cond_false, cond_false, show Nat.ble (Ed l t k n).length 281474976710656 = true by simp; omega, show Nat.ble p.length 281474976710656 = true by simp; omega]
      simp only [chk, Option.bind_some]
      rw [lSame _ _ (by omega), Option.bind_some, beq_sym p]
      cases (Ed l t k n == p) <;> rfl
omit hv in
def gf (ps : List (Str × Str)) : List Str := ps.flatMap fun p => [p.1, p.2]
omit hv in
theorem Mq : ∀ ps : List (Str × Str), (gf ps).length = 2 * ps.length
  | [] => rfl
  | p :: ps => by
    show (p.1 :: p.2 :: gf ps).length = _
    simp only [List.length_cons, Mq ps]
    omega
omit hv in
theorem gf_get : ∀ (ps : List (Str × Str)) (j : Nat) (h : j < ps.length), (gf ps)[2 * j]? = some ps[j].1 ∧ (gf ps)[2 * j + 1]? = some ps[j].2
  | p :: ps, 0, _ => ⟨rfl, rfl⟩
  | p :: ps, j + 1, h => by
    have := gf_get ps j (by simpa using h)
    have e : gf (p :: ps) = p.1 :: p.2 :: gf ps := rfl
    rw [e, show 2 * (j + 1) = 2 * j + 1 + 1 by omega]
    simpa using this
omit hv in
theorem gf_snoc (ps : List (Str × Str)) (t k : Str) : gf ps ++ [t, k] = gf (ps ++ [(t, k)]) := by simp [gf]
def inP (ps : List (Str × Str)) (t k : Str) : Bool := ps.any fun p => (p.1 == t) && (p.2 == k)
omit hv in
theorem Kw (ps : List (Str × Str)) (hl : ps.length ≤ 1000000) : ∀ (d j f : Nat), d = ps.length - j → j ≤ ps.length → d < f → Vm (gf ps) t k f ((2 * j : Nat) : Int) = some (inP (ps.drop j) t k) := by
  intro d
  induction d with
  | zero =>
    intro j f hd hj hf
    obtain ⟨f, rfl⟩ : ∃ g, f = g + 1 := ⟨f - 1, by omega⟩
    show Vz (Vm (gf ps) t k f) (gf ps) t k ((2 * j : Nat) : Int) = _
    unfold Vz
    rw [show (((2 * j : Nat) : Int) + 1) = ((2 * j + 1 : Nat) : Int) by omega, Xj (by omega), Mq, show decide (((2 * j + 1 : Nat) : Int) < ((2 * ps.length : Nat) : Int)) = false from decide_eq_false (by omega), cond_false, List.drop_of_length_le (by omega)]
    rfl
  | succ d ih =>
    intro j f hd hj hf
    obtain ⟨f, rfl⟩ : ∃ g, f = g + 1 := ⟨f - 1, by omega⟩
    have hlt : j < ps.length := by omega
    obtain ⟨g1, g2⟩ := gf_get ps j hlt
    show Vz (Vm (gf ps) t k f) (gf ps) t k ((2 * j : Nat) : Int) = _
    unfold Vz Z8
    rw [show (((2 * j : Nat) : Int) + 1) = ((2 * j + 1 : Nat) : Int) by omega, Xj (by omega), Mq, show decide (((2 * j + 1 : Nat) : Int) < ((2 * ps.length : Nat) : Int)) = true from decide_eq_true (by omega), cond_true, F8, g1, Option.bind_some, F8, g2, Option.bind_some,
      show (((2 * j : Nat) : Int) + 2) = ((2 * (j + 1) : Nat) : Int) by omega, Xj (by omega), ih (j + 1) f (by omega) (by omega) (by omega), List.drop_eq_getElem_cons hlt]
    unfold inP
    rw [List.any_cons]
    cases (ps[j].1 == t) with
    | false => rfl
    | true =>
      rw [cond_true]
      cases (ps[j].2 == k) <;> rfl
omit hv in
theorem Mr (ps : List (Str × Str)) (hl : ps.length ≤ 1000000) : X6 w g i e l (gf ps) t k = some (inP ps t k) := by
  have := Kw t k ps hl ps.length 0 Zj (by omega) (by omega) (by unfold Zj; omega)
  rw [show ((2 * 0 : Nat) : Int) = 0 from rfl, List.drop_zero] at this
  exact this
def Kx (l : List Qi) (ps : List (Str × Str)) (t k : Str) : Bool := (Cy l t k).2.2.2 && !(inP ps t k)
def Oj (l : List Qi) (ps : List (Str × Str)) (t k : Str) : List (Str × Str) := cond (Kx l ps t k) (ps ++ [(t, k)]) ps
theorem rVRevoke (ps : List (Str × Str)) (hl : ps.length ≤ 1000000) : Ye w g i e l (gf ps) t k = some (Kx l ps t k, w, g, i, e, gf (Oj l ps t k)) := by
  unfold Ye Xf Oj Kx
  rw [rfound hv, Option.bind_some, Mr _ _ _ _ _ _ ps hl, Option.bind_some]
  cases (Cy l t k).2.2.2 with
  | false => rfl
  | true =>
    rw [show (!true) = false from rfl, cond_false]
    cases inP ps t k with
    | true => rfl
    | false =>
      rw [cond_false, Rj (by rw [Mq]; simp; omega), Option.bind_some, gf_snoc]
      rfl
def Ok (l : List Qi) (ps : List (Str × Str)) (t k : Str) (now : Int) : Bool := (Cy l t k).2.2.2 && ((!(inP ps t k)) && decide (now < (Cy l t k).2.2.1))
theorem rVGood (ps : List (Str × Str)) (hl : ps.length ≤ 1000000) (now : Int) : Xu w g i e l (gf ps) t k now = some (Ok l ps t k now, w, g, i, e, gf ps) := by
  unfold Xu Z6 Ok
  rw [rfound hv, Option.bind_some, Mr _ _ _ _ _ _ ps hl, Option.bind_some]
  cases (Cy l t k).2.2.2 with
  | false => rfl
  | true => cases inP ps t k <;> rfl
theorem rVWant (ps : List (Str × Str)) (n : Str) : Xv w g i e l (gf ps) t k n = some (Ed l t k n) := by
  unfold Xv Ed
  rw [rfound hv, Option.bind_some]
  cases h : (Cy l t k).2.2.2 with
  | false => rfl
  | true =>
    obtain ⟨h1, _⟩ := Iy hv h
    rw [show (!true) = false from rfl, cond_false, cond_true, show Nat.ble (Cy l t k).2.1.length 281474976710656 = true by simp; omega]
    simp only [chk, Option.bind_some]
    rw [ref_proof _ (by omega) _ (by simp)]
    rfl
def Ms (l : List Qi) (ps : List (Str × Str)) (t k n p : Str) (now : Int) : Int := cond (Ok l ps t k now) (cond (Ed l t k n == []) 101 (cond (p == Ed l t k n) 0 101)) 3
theorem rVCheck (ps : List (Str × Str)) (hl : ps.length ≤ 1000000) (n p : Str) (now : Int) : Yt w g i e l (gf ps) t k n p now = some (Ms l ps t k n p now, w, g, i, e, gf ps) := by
  unfold Yt Xt Ms
  rw [rVGood hv w g i e t k ps hl, Option.bind_some, rVWant hv, Option.bind_some]
  cases Ok l ps t k now with
  | false => rfl
  | true =>
    rw [show (!true) = false from rfl, cond_false, cond_true]
    cases (Ed l t k n == []) with
    | true => rfl
    | false => cases (p == Ed l t k n) <;> rfl
end
theorem pVNew (w g i e : Int) (l : List Qi) (hl : l.length ≤ 140737488355328) (hq : ∀ t ∈ l, Lg t) : Ny w g i e l = some (cond (Fb w g i e l) (some (w, g, i, e, [])) none) := by
  unfold Ny
  rw [lCfg w g i e l hl hq, Option.bind_some]
  cases Fb w g i e l <;> rfl
theorem rVNew (w g i e : Int) (l : List Qi) (hl : l.length ≤ 9000) (hq : ∀ t ∈ l, Lg t) (hs : ∀ t ∈ l, TenS t) : Uk w g i e l = some (cond (Fb w g i e l) (some (w, g, i, e, gf [])) none) := by
  unfold Uk
  rw [rCfg w g i e l hl hq hs, Option.bind_some]
  cases Fb w g i e l <;> rfl
theorem vc_of {w g i e : Int} {l : List Qi} (hk : Fb w g i e l = true) (hl : l.length ≤ 9000) (hq : ∀ t ∈ l, Lg t) (hs : ∀ t ∈ l, TenS t) : VC l := by
  refine ⟨hl, hq, hs, ?_⟩
  unfold Fb at hk
  simp only [Bool.and_eq_true, List.all_eq_true] at hk
  exact hk.2.2.1
end Go.Proofs.YtmgfanhcdfobhaaGreatDoor
namespace Go.Proofs.YtmgfanhcdfobhaaGreatDoor
open Go.RowKit
def Gq  : Option Unit :=
  (some ())
set_option maxRecDepth 100000 in
set_option maxHeartbeats 4000000 in
theorem Cd   (w0 : World)  (r : Unit) (H : Gq  = some r) :
  Calls Tryz.prog 42 #[] w0 (fun e w' => ∃ (g7 : Nat) (b : Nat), e = .returned (.agg #[(.int .i64 9), (.int .i64 9), (.int .i64 9), (.int .i64 9), (.slice (some ⟨b, 0, none⟩) (List.length ([(([97, 110, 110] : List UInt8), 0, 0, ([] : List (Int × Int)), ([(([107] : List UInt8), ([115] : List UInt8), 5)] : List ((List UInt8) × (List UInt8) × Int)))] : List Qi)) (List.length ([(([97, 110, 110] : List UInt8), 0, 0, ([] : List (Int × Int)), ([(([107] : List UInt8), ([115] : List UInt8), 5)] : List ((List UInt8) × (List UInt8) × Int)))] : List Qi)))]) ∧ SP [] w0 w' [Xi 48 (Qf Qs (Qf Qs (Qd .i64))) (some ⟨g7, 0, none⟩) (List.length ([(([107] : List UInt8), ([115] : List UInt8), 5)] : List ((List UInt8) × (List UInt8) × Int))) ([(([107] : List UInt8), ([115] : List UInt8), 5)] : List ((List UInt8) × (List UInt8) × Int)), Xi 44 Ua (some ⟨b, 0, none⟩) (List.length ([(([97, 110, 110] : List UInt8), 0, 0, ([] : List (Int × Int)), ([(([107] : List UInt8), ([115] : List UInt8), 5)] : List ((List UInt8) × (List UInt8) × Int)))] : List Qi)) ([(([97, 110, 110] : List UInt8), 0, 0, (none, 0, ([] : List (Int × Int))), ((some ⟨g7, 0, none⟩), (List.length ([(([107] : List UInt8), ([115] : List UInt8), 5)] : List ((List UInt8) × (List UInt8) × Int))), ([(([107] : List UInt8), ([115] : List UInt8), 5)] : List ((List UInt8) × (List UInt8) × Int))))] : List Vl)]) := by
 unfold Gq at H
 refine Qu (n := 6) Tryz.func42 K K K ?_
 have f := Q1 [] w0
 refine aQ ?_
 refine aR ?_
 refine iS 1 ?_
 refine Qk.alloc (t := 24) (z := (.agg #[(.int .i64 0), (.int .i64 0), (.int .i64 0), (.int .i64 0), (.slice none (List.length ([] : List Qi)) 0)])) (d := (some 0)) (k := 0) K rfl K f ?_
 intro g3 w4 h
 refine iF ?_
 refine aQ ?_
 refine aR ?_
 refine iR 1 1 [(1, (.agg #[(.string ⟨List.toArray ([107] : List UInt8)⟩), (.string ⟨List.toArray ([115] : List UInt8)⟩), (.int .i64 5)]))] ?_
 refine iS 2 ?_
 refine V9 (e := (Qf Qs (Qf Qs (Qd .i64)))) (T := 42) (E := 48) (len := 1) (parts := #[(0, (.tmp 1))]) (cs := #[(.string ⟨List.toArray ([107] : List UInt8)⟩), (.string ⟨List.toArray ([115] : List UInt8)⟩), (.int .i64 5)]) ([(([107] : List UInt8), ([115] : List UInt8), 5)] : List ((List UInt8) × (List UInt8) × Int)) (d := (some 2)) (k := 1) K rfl (fun _ => K) h rfl rfl rfl rfl ?_
 intro g7 w8 j
 refine iR 1 3 [(3, (.agg #[(.string ⟨List.toArray ([97, 110, 110] : List UInt8)⟩), (.int .i64 0), (.int .i64 0), (.slice none (List.length ([] : List (Int × Int))) 0), (.slice (some ⟨g7, 0, none⟩) (List.length ([(([107] : List UInt8), ([115] : List UInt8), 5)] : List ((List UInt8) × (List UInt8) × Int))) (List.length ([(([107] : List UInt8), ([115] : List UInt8), 5)] : List ((List UInt8) × (List UInt8) × Int))))]))] ?_
 refine iS 4 ?_
 refine V9 (e := Ua) (T := 22) (E := 44) (len := 1) (parts := #[(0, (.tmp 3))]) (cs := #[(.string ⟨List.toArray ([97, 110, 110] : List UInt8)⟩), (.int .i64 0), (.int .i64 0), (.slice none (List.length ([] : List (Int × Int))) 0), (.slice (some ⟨g7, 0, none⟩) (List.length ([(([107] : List UInt8), ([115] : List UInt8), 5)] : List ((List UInt8) × (List UInt8) × Int))) (List.length ([(([107] : List UInt8), ([115] : List UInt8), 5)] : List ((List UInt8) × (List UInt8) × Int))))]) ([(([97, 110, 110] : List UInt8), 0, 0, (none, 0, ([] : List (Int × Int))), ((some ⟨g7, 0, none⟩), (List.length ([(([107] : List UInt8), ([115] : List UInt8), 5)] : List ((List UInt8) × (List UInt8) × Int))), ([(([107] : List UInt8), ([115] : List UInt8), 5)] : List ((List UInt8) × (List UInt8) × Int))))] : List Vl) (d := (some 4)) (k := 3) K rfl (fun _ => K) j rfl rfl rfl rfl ?_
 intro b m l
 refine iR 1 5 [(5, (.agg #[(.int .i64 9), (.int .i64 9), (.int .i64 9), (.int .i64 9), (.slice (some ⟨b, 0, none⟩) (List.length ([(([97, 110, 110] : List UInt8), 0, 0, ([] : List (Int × Int)), ([(([107] : List UInt8), ([115] : List UInt8), 5)] : List ((List UInt8) × (List UInt8) × Int)))] : List Qi)) (List.length ([(([97, 110, 110] : List UInt8), 0, 0, ([] : List (Int × Int)), ([(([107] : List UInt8), ([115] : List UInt8), 5)] : List ((List UInt8) × (List UInt8) × Int)))] : List Qi)))]))] ?_
 refine iS 6 ?_
 refine Qk.store (t := 24) (x := (.tmp 0)) (y := (.tmp 5)) (g := g3) (off := 0) (i := 0) (v := (.agg #[(.int .i64 9), (.int .i64 9), (.int .i64 9), (.int .i64 9), (.slice (some ⟨b, 0, none⟩) (List.length ([(([97, 110, 110] : List UInt8), 0, 0, ([] : List (Int × Int)), ([(([107] : List UInt8), ([115] : List UInt8), 5)] : List ((List UInt8) × (List UInt8) × Int)))] : List Qi)) (List.length ([(([97, 110, 110] : List UInt8), 0, 0, ([] : List (Int × Int)), ([(([107] : List UInt8), ([115] : List UInt8), 5)] : List ((List UInt8) × (List UInt8) × Int)))] : List Qi)))])) (cs' := #[(.int .i64 9), (.int .i64 9), (.int .i64 9), (.int .i64 9), (.slice (some ⟨b, 0, none⟩) (List.length ([(([97, 110, 110] : List UInt8), 0, 0, ([] : List (Int × Int)), ([(([107] : List UInt8), ([115] : List UInt8), 5)] : List ((List UInt8) × (List UInt8) × Int)))] : List Qi)) (List.length ([(([97, 110, 110] : List UInt8), 0, 0, ([] : List (Int × Int)), ([(([107] : List UInt8), ([115] : List UInt8), 5)] : List ((List UInt8) × (List UInt8) × Int)))] : List Qi)))]) (d := none) (k := 5) K rfl K K l rfl K ?_
 intro o c
 refine iF ?_
 refine At.ret K ?_
 refine ⟨(.agg #[(.int .i64 9), (.int .i64 9), (.int .i64 9), (.int .i64 9), (.slice (some ⟨b, 0, none⟩) (List.length ([(([97, 110, 110] : List UInt8), 0, 0, ([] : List (Int × Int)), ([(([107] : List UInt8), ([115] : List UInt8), 5)] : List ((List UInt8) × (List UInt8) × Int)))] : List Qi)) (List.length ([(([97, 110, 110] : List UInt8), 0, 0, ([] : List (Int × Int)), ([(([107] : List UInt8), ([115] : List UInt8), 5)] : List ((List UInt8) × (List UInt8) × Int)))] : List Qi)))]), Eo K (Dz (a := 0) (t := 24) (g := g3) (off := 0) K (SP.get c (i := 0) rfl) K), ?_⟩
 exact ⟨g7, b, rfl, SP.sel c [1, 2] rfl rfl⟩
def Vs (a : Bool) : Option (Bool) :=
  (some (a))
def Jr (a : (Int × Int × Int × Int × N5)) (e : Bool) : Option (Bool) :=
  (cond e (some (false)) ((Uq ([(115 : UInt8)] : List UInt8) ([([97, 110, 110] : List UInt8), ([107] : List UInt8), ([110] : List UInt8)] : List (List UInt8))).bind fun d => ((Xd a.1 a.2.1 a.2.2.1 a.2.2.2.1 ([(([97, 110, 110] : List UInt8), 0, 0, ([] : List (Int × Int)), ([(([107] : List UInt8), ([115] : List UInt8), 5)] : List ((List UInt8) × (List UInt8) × Int)))] : List Qi) a.2.2.2.2 ([97, 110, 110] : List UInt8) ([107] : List UInt8) ([110] : List UInt8) d 4).bind fun f => ((Xd a.1 a.2.1 a.2.2.1 a.2.2.2.1 ([(([97, 110, 110] : List UInt8), 0, 0, ([] : List (Int × Int)), ([(([107] : List UInt8), ([115] : List UInt8), 5)] : List ((List UInt8) × (List UInt8) × Int)))] : List Qi) a.2.2.2.2 ([97, 110, 110] : List UInt8) ([107] : List UInt8) ([110] : List UInt8) d 5).bind fun g => ((Xd a.1 a.2.1 a.2.2.1 a.2.2.2.1 ([(([97, 110, 110] : List UInt8), 0, 0, ([] : List (Int × Int)), ([(([107] : List UInt8), ([115] : List UInt8), 5)] : List ((List UInt8) × (List UInt8) × Int)))] : List Qi) a.2.2.2.2 ([97, 110, 110] : List UInt8) ([107] : List UInt8) ([109] : List UInt8) d 4).bind fun h => ((Yj a.1 a.2.1 a.2.2.1 a.2.2.2.1 ([(([97, 110, 110] : List UInt8), 0, 0, ([] : List (Int × Int)), ([(([107] : List UInt8), ([115] : List UInt8), 5)] : List ((List UInt8) × (List UInt8) × Int)))] : List Qi) a.2.2.2.2 ([97, 110, 110] : List UInt8) ([107] : List UInt8) 4).bind fun i => ((Yh a.1 a.2.1 a.2.2.1 a.2.2.2.1 ([(([97, 110, 110] : List UInt8), 0, 0, ([] : List (Int × Int)), ([(([107] : List UInt8), ([115] : List UInt8), 5)] : List ((List UInt8) × (List UInt8) × Int)))] : List Qi) a.2.2.2.2 ([97, 110, 110] : List UInt8) ([107] : List UInt8)).bind fun c => ((Yh c.2.1 c.2.2.1 c.2.2.2.1 c.2.2.2.2.1 ([(([97, 110, 110] : List UInt8), 0, 0, ([] : List (Int × Int)), ([(([107] : List UInt8), ([115] : List UInt8), 5)] : List ((List UInt8) × (List UInt8) × Int)))] : List Qi) c.2.2.2.2.2 ([97, 110, 110] : List UInt8) ([107] : List UInt8)).bind fun b => ((Xd b.2.1 b.2.2.1 b.2.2.2.1 b.2.2.2.2.1 ([(([97, 110, 110] : List UInt8), 0, 0, ([] : List (Int × Int)), ([(([107] : List UInt8), ([115] : List UInt8), 5)] : List ((List UInt8) × (List UInt8) × Int)))] : List Qi) b.2.2.2.2.2 ([97, 110, 110] : List UInt8) ([107] : List UInt8) ([110] : List UInt8) d 4).bind fun j => (cond (f == 0) (cond (g == 3) (cond (h == 101) (cond i (cond c.1 (cond (!b.1) (cond (j == 3) ((Yk b.2.1 b.2.2.1 b.2.2.2.1 b.2.2.2.2.1 ([(([97, 110, 110] : List UInt8), 0, 0, ([] : List (Int × Int)), ([(([107] : List UInt8), ([115] : List UInt8), 5)] : List ((List UInt8) × (List UInt8) × Int)))] : List Qi) b.2.2.2.2.2 ([97, 110, 110] : List UInt8) ([107] : List UInt8) ([110] : List UInt8)).bind fun k => (cond (k == d) ((Yk b.2.1 b.2.2.1 b.2.2.2.1 b.2.2.2.2.1 ([(([97, 110, 110] : List UInt8), 0, 0, ([] : List (Int × Int)), ([(([107] : List UInt8), ([115] : List UInt8), 5)] : List ((List UInt8) × (List UInt8) × Int)))] : List Qi) b.2.2.2.2.2 ([97, 110, 110] : List UInt8) ([122] : List UInt8) ([110] : List UInt8)).bind fun l => (cond (l == ([] : List UInt8)) ((Yj b.2.1 b.2.2.1 b.2.2.2.1 b.2.2.2.2.1 ([(([97, 110, 110] : List UInt8), 0, 0, ([] : List (Int × Int)), ([(([107] : List UInt8), ([115] : List UInt8), 5)] : List ((List UInt8) × (List UInt8) × Int)))] : List Qi) b.2.2.2.2.2 ([97, 110, 110] : List UInt8) ([107] : List UInt8) 0).bind fun m => (Vs (!m))) (Vs false))) (Vs false))) (Vs false)) (Vs false)) (Vs false)) (Vs false)) (Vs false)) (Vs false)) (Vs false)))))))))))
def U5  : Option (Bool) :=
  ((Gq ).bind fun z1 => ((Ny 9 9 9 9 ([(([97, 110, 110] : List UInt8), 0, 0, ([] : List (Int × Int)), ([(([107] : List UInt8), ([115] : List UInt8), 5)] : List ((List UInt8) × (List UInt8) × Int)))] : List Qi)).bind fun z9 => (optE z9 (some (false)) (fun a => ((Ny 0 0 0 0 ([] : List Qi)).bind fun b => (optE b (Jr a false) (fun c => (Jr a true))))))))
set_option maxRecDepth 100000 in
set_option maxHeartbeats 4000000 in
theorem B1   (w0 : World) (hL : Ep w0)  (r : (Bool)) (H : U5  = some r) :
  Calls Tryz.prog 15 #[] w0 (fun e w' => e = .returned (.bool r) ∧ SP [] w0 w' []) := by
 unfold U5 at H
 refine Qu (n := 81) Tryz.func15 K K K ?_
 have g1 := Q1 [] w0
 refine aQ ?_
 refine aR ?_
 refine iR 1 1 [(0, (.bool false))] ?_
 refine iF ?_
 refine aQ ?_
 refine aR ?_
 obtain ⟨z1, g2, H⟩ := Qe H
 refine iS 1 ?_
 refine cF 42 #[] #[] 10 Tryz.call42 (Cd   w0  z1 g2) ?_
 rintro e w3 ⟨g5, g6, rfl, d2⟩
 refine ⟨_, rfl, ?_⟩
 have z := SP.call g1 d2
 clear d2
 obtain ⟨z9, d3, H⟩ := Qe H
 rcases z9 with _ | f
 ·have H := optN H
  refine iS 2 ?_
  refine cF 18 #[(.tmp 10)] #[24] 11 Tryz.call18 (Uw (some ⟨g6, 0, none⟩) (List.length ([(([97, 110, 110] : List UInt8), 0, 0, ([] : List (Int × Int)), ([(([107] : List UInt8), ([115] : List UInt8), 5)] : List ((List UInt8) × (List UInt8) × Int)))] : List Qi)) 9 9 9 9 ([(([97, 110, 110] : List UInt8), 0, 0, (none, 0, ([] : List (Int × Int))), ((some ⟨g5, 0, none⟩), (List.length ([(([107] : List UInt8), ([115] : List UInt8), 5)] : List ((List UInt8) × (List UInt8) × Int))), ([(([107] : List UInt8), ([115] : List UInt8), 5)] : List ((List UInt8) × (List UInt8) × Int))))] : List Vl) w3 (Yl hL (SP.keeps z)) (Fo (Vq (SP.get z (i := 1) rfl)) (R7 (Uf Gd (Uf Gd (Uf Gd (Uf (Rm (RdT.nil (Qf (Qd .u32) (Qd .i64)) w3)) (Rm (Vq (SP.get z (i := 0) rfl))))))) B4)) none d3) ?_
  rintro e i9 ⟨rfl, d4⟩
  refine ⟨_, rfl, ?_⟩
  have g3 := SP.call z d4
  clear d4
  refine iR 1 3 [(1, (.pointer none))] ?_
  refine iF ?_
  refine aQ ?_
  refine aQ ?_
  refine aR ?_
  refine iR 7 7 [(12, (.pointer none)), (13, (.bool true)), (14, (.bool true)), (15, undef), (16, undef), (17, undef), (18, (.bool true))] ?_
  refine iF ?_
  refine Zk K (o := (.tmp 18)) K (b := true) K (fun d5 => ?_) (fun d5 => ?_)
  rotate_left
  ·cases d5
  refine aQ ?_
  refine aR ?_
  refine iR 1 1 [(0, (.bool false))] ?_
  refine iF ?_
  refine At.ret K ?_
  refine ⟨(.bool false), K, ?_⟩
  obtain rfl := Qh H
  exact ⟨rfl, SP.sel g3 [] rfl rfl⟩
 ·have H := optS H
  refine iS 2 ?_
  refine cF 18 #[(.tmp 10)] #[24] 11 Tryz.call18 (Uw (some ⟨g6, 0, none⟩) (List.length ([(([97, 110, 110] : List UInt8), 0, 0, ([] : List (Int × Int)), ([(([107] : List UInt8), ([115] : List UInt8), 5)] : List ((List UInt8) × (List UInt8) × Int)))] : List Qi)) 9 9 9 9 ([(([97, 110, 110] : List UInt8), 0, 0, (none, 0, ([] : List (Int × Int))), ((some ⟨g5, 0, none⟩), (List.length ([(([107] : List UInt8), ([115] : List UInt8), 5)] : List ((List UInt8) × (List UInt8) × Int))), ([(([107] : List UInt8), ([115] : List UInt8), 5)] : List ((List UInt8) × (List UInt8) × Int))))] : List Vl) w3 (Yl hL (SP.keeps z)) (Fo (Vq (SP.get z (i := 1) rfl)) (R7 (Uf Gd (Uf Gd (Uf Gd (Uf (Rm (RdT.nil (Qf (Qd .u32) (Qd .i64)) w3)) (Rm (Vq (SP.get z (i := 0) rfl))))))) B4)) (some f) d3) ?_
  rintro e b2 ⟨j, m, rfl, d6⟩
  refine ⟨_, rfl, ?_⟩
  have b3 := SP.call z d6
  clear d6
  refine iR 1 3 [(1, (pt j 0))] ?_
  refine iF ?_
  refine aQ ?_
  refine aQ ?_
  refine At.join (fun ρ w => ∃ (a3 : Bool), V3 ρ [(1, (pt j 0)), (18, (.bool a3))] ∧ SP [] w0 w [Xi 44 Ua (some ⟨g6, 0, none⟩) (List.length ([(([97, 110, 110] : List UInt8), 0, 0, ([] : List (Int × Int)), ([(([107] : List UInt8), ([115] : List UInt8), 5)] : List ((List UInt8) × (List UInt8) × Int)))] : List Qi)) ([(([97, 110, 110] : List UInt8), 0, 0, (none, 0, ([] : List (Int × Int))), ((some ⟨g5, 0, none⟩), (List.length ([(([107] : List UInt8), ([115] : List UInt8), 5)] : List ((List UInt8) × (List UInt8) × Int))), ([(([107] : List UInt8), ([115] : List UInt8), 5)] : List ((List UInt8) × (List UInt8) × Int))))] : List Vl), Xi 48 (Qf Qs (Qf Qs (Qd .i64))) (some ⟨g5, 0, none⟩) (List.length ([(([107] : List UInt8), ([115] : List UInt8), 5)] : List ((List UInt8) × (List UInt8) × Int))) ([(([107] : List UInt8), ([115] : List UInt8), 5)] : List ((List UInt8) × (List UInt8) × Int)), Qv j 79 #[(.int .i64 f.1), (.int .i64 f.2.1), (.int .i64 f.2.2.1), (.int .i64 f.2.2.2.1), (.slice (some ⟨g6, 0, none⟩) (List.length ([(([97, 110, 110] : List UInt8), 0, 0, ([] : List (Int × Int)), ([(([107] : List UInt8), ([115] : List UInt8), 5)] : List ((List UInt8) × (List UInt8) × Int)))] : List Qi)) (List.length ([(([97, 110, 110] : List UInt8), 0, 0, ([] : List (Int × Int)), ([(([107] : List UInt8), ([115] : List UInt8), 5)] : List ((List UInt8) × (List UInt8) × Int)))] : List Qi))), (.map (some m))], Zs m f.2.2.2.2] ∧ Jr f a3 = some r) ?_ ?_
  ·refine aR ?_
   refine iR 4 4 [(12, (pt j 0)), (13, (.bool false)), (14, (.bool false)), (15, (.agg #[(.int .i64 0), (.int .i64 0), (.int .i64 0), (.int .i64 0), (.slice none (List.length ([] : List Qi)) 0)]))] ?_
   obtain ⟨g4, d7, H⟩ := Qe H
   rcases g4 with _ | g7
   ·have H := optN H
    refine iS 5 ?_
    refine cF 18 #[(.tmp 15)] #[24] 16 Tryz.call18 (Uw none 0 0 0 0 0 ([] : List Vl) b2 (Yl hL (SP.keeps b3)) (B3 Ua Eh b2) none d7) ?_
    rintro e j0 ⟨rfl, d8⟩
    refine ⟨_, rfl, ?_⟩
    have g8 := SP.call b3 d8
    clear d8
    refine iR 2 7 [(17, (.bool false)), (18, (.bool false))] ?_
    refine iF ?_
    exact ⟨false, ⟨K, K, trivial⟩, SP.sel g8 [1, 0, 2, 3] rfl rfl, H⟩
   ·have H := optS H
    refine iS 5 ?_
    refine cF 18 #[(.tmp 15)] #[24] 16 Tryz.call18 (Uw none 0 0 0 0 0 ([] : List Vl) b2 (Yl hL (SP.keeps b3)) (B3 Ua Eh b2) (some g7) d7) ?_
    rintro e j1 ⟨j2, j3, rfl, d9⟩
    refine ⟨_, rfl, ?_⟩
    have g9 := SP.call b3 d9
    clear d9
    refine iR 2 7 [(17, (.bool true)), (18, (.bool true))] ?_
    refine iF ?_
    exact ⟨true, ⟨K, K, trivial⟩, SP.sel g9 [1, 0, 2, 3] rfl rfl, H⟩
  ·rintro ρ j4 ⟨a3, hk, e0, H⟩
   unfold Jr at H
   first | refine At.known [(1, (pt j 0)), (18, (.bool a3))] hk ?_ | rw [← Qz (l := [(1, (pt j 0)), (18, (.bool a3))]) hk]
   refine Zk K (o := (.tmp 18)) K (b := a3) K (fun c1 => ?_) (fun c1 => ?_)
   ·have H := ct H c1
    refine aQ ?_
    refine aR ?_
    refine iR 1 1 [(0, (.bool false))] ?_
    refine iF ?_
    refine At.ret K ?_
    refine ⟨(.bool false), K, ?_⟩
    obtain rfl := Qh H
    exact ⟨rfl, SP.sel e0 [] rfl rfl⟩
   ·have H := cf H c1
    refine At.skip K ?_
    refine aQ ?_
    refine aR ?_
    refine iS 1 ?_
    refine V9 (e := eU8) (T := 52) (E := 5) (len := 1) (parts := #[(0, (.const (.int .u8 (115))))]) (cs := #[(.int .u8 115)]) ([(115 : UInt8)] : List UInt8) (d := (some 19)) (k := 0) K rfl (fun _ => K) e0 (Nn (Or.inl rfl) rfl) rfl rfl rfl ?_
    intro s j5 h1
    refine iS 2 ?_
    refine Qk.mark (T := 52) (E := 5) (x := (.tmp 19)) (g := s) (c := (List.length ([(115 : UInt8)] : List UInt8))) (i := 4) (l := ([(115 : UInt8)] : List UInt8)) (d := (some 20)) (k := 1) K rfl K K K h1 rfl ?_
    intro j6 h2
    refine iS 3 ?_
    refine V9 (e := Qs) (T := 53) (E := 9) (len := 3) (parts := #[(0, (.const (.string ⟨List.toArray ([97, 110, 110] : List UInt8)⟩))), (1, (.const (.string ⟨List.toArray ([107] : List UInt8)⟩))), (2, (.const (.string ⟨List.toArray ([110] : List UInt8)⟩)))]) (cs := #[(.string ⟨List.toArray ([97, 110, 110] : List UInt8)⟩), (.string ⟨List.toArray ([107] : List UInt8)⟩), (.string ⟨List.toArray ([110] : List UInt8)⟩)]) ([([97, 110, 110] : List UInt8), ([107] : List UInt8), ([110] : List UInt8)] : List (List UInt8)) (d := (some 21)) (k := 2) K rfl (fun _ => K) h2 rfl rfl rfl rfl ?_
    intro u h3 c2
    obtain ⟨p, h4, H⟩ := Qe H
    refine iS 4 ?_
    refine cF 30 #[(.tmp 20), (.tmp 21)] #[52, 53] 22 Tryz.call30 (Rg (some ⟨s, 0, none⟩) (List.length ([(115 : UInt8)] : List UInt8)) (some ⟨u, 0, none⟩) (List.length ([([97, 110, 110] : List UInt8), ([107] : List UInt8), ([110] : List UInt8)] : List (List UInt8))) ([(115 : UInt8)] : List UInt8) ([([97, 110, 110] : List UInt8), ([107] : List UInt8), ([110] : List UInt8)] : List (List UInt8)) h3 (I6 (SP.get c2 (i := 4) rfl)) (Vq (SP.get c2 (i := 5) rfl)) p h4) ?_
    rintro e h5 ⟨rfl, e1⟩
    refine ⟨_, rfl, ?_⟩
    have b4 := SP.call c2 e1
    clear e1
    refine iR 1 5 [(2, (.string ⟨List.toArray p⟩))] ?_
    refine iF ?_
    refine aQ ?_
    refine aR ?_
    refine iR 2 2 [(23, (pt j 0)), (24, (.string ⟨List.toArray p⟩))] ?_
    obtain ⟨a4, h6, H⟩ := Qe H
    refine iS 3 ?_
    refine cF 26 #[(.tmp 23), (.const (.string ⟨List.toArray ([97, 110, 110] : List UInt8)⟩)), (.const (.string ⟨List.toArray ([107] : List UInt8)⟩)), (.const (.string ⟨List.toArray ([110] : List UInt8)⟩)), (.tmp 24), (.const (.int .i64 (4)))] #[29, 9, 9, 9, 9, 2] 25 Tryz.call26 (Y1 j (some ⟨g6, 0, none⟩) (List.length ([(([97, 110, 110] : List UInt8), 0, 0, ([] : List (Int × Int)), ([(([107] : List UInt8), ([115] : List UInt8), 5)] : List ((List UInt8) × (List UInt8) × Int)))] : List Qi)) m f.1 f.2.1 f.2.2.1 f.2.2.2.1 ([(([97, 110, 110] : List UInt8), 0, 0, (none, 0, ([] : List (Int × Int))), ((some ⟨g5, 0, none⟩), (List.length ([(([107] : List UInt8), ([115] : List UInt8), 5)] : List ((List UInt8) × (List UInt8) × Int))), ([(([107] : List UInt8), ([115] : List UInt8), 5)] : List ((List UInt8) × (List UInt8) × Int))))] : List Vl) f.2.2.2.2 ([97, 110, 110] : List UInt8) ([107] : List UInt8) ([110] : List UInt8) p 4 h5 (Y3 b4 [2, 3] rfl rfl) (fun w hm => Fo (Vq (SP.still b4 (l := [2, 3]) (i := 0) rfl rfl rfl hm)) (R7 (Uf Gd (Uf Gd (Uf Gd (Uf (B3 (Qf (Qd .u32) (Qd .i64)) dT w) (Rm (Vq (SP.still b4 (l := [2, 3]) (i := 1) rfl rfl rfl hm))))))) B4)) a4 h6) ?_
    rintro e e2 ⟨rfl, e3⟩
    refine ⟨_, rfl, ?_⟩
    have b5 : SP [] w0 e2 [Xi 44 Ua (some ⟨g6, 0, none⟩) (List.length ([(([97, 110, 110] : List UInt8), 0, 0, ([] : List (Int × Int)), ([(([107] : List UInt8), ([115] : List UInt8), 5)] : List ((List UInt8) × (List UInt8) × Int)))] : List Qi)) ([(([97, 110, 110] : List UInt8), 0, 0, (none, 0, ([] : List (Int × Int))), ((some ⟨g5, 0, none⟩), (List.length ([(([107] : List UInt8), ([115] : List UInt8), 5)] : List ((List UInt8) × (List UInt8) × Int))), ([(([107] : List UInt8), ([115] : List UInt8), 5)] : List ((List UInt8) × (List UInt8) × Int))))] : List Vl), Xi 48 (Qf Qs (Qf Qs (Qd .i64))) (some ⟨g5, 0, none⟩) (List.length ([(([107] : List UInt8), ([115] : List UInt8), 5)] : List ((List UInt8) × (List UInt8) × Int))) ([(([107] : List UInt8), ([115] : List UInt8), 5)] : List ((List UInt8) × (List UInt8) × Int)), rdE eU8 (some ⟨s, 0, none⟩) (List.length ([(115 : UInt8)] : List UInt8)) ([(115 : UInt8)] : List UInt8), Xi 9 Qs (some ⟨u, 0, none⟩) (List.length ([([97, 110, 110] : List UInt8), ([107] : List UInt8), ([110] : List UInt8)] : List (List UInt8))) ([([97, 110, 110] : List UInt8), ([107] : List UInt8), ([110] : List UInt8)] : List (List UInt8)), Qv j 79 #[(.int .i64 f.1), (.int .i64 f.2.1), (.int .i64 f.2.2.1), (.int .i64 f.2.2.2.1), (.slice (some ⟨g6, 0, none⟩) (List.length ([(([97, 110, 110] : List UInt8), 0, 0, ([] : List (Int × Int)), ([(([107] : List UInt8), ([115] : List UInt8), 5)] : List ((List UInt8) × (List UInt8) × Int)))] : List Qi)) (List.length ([(([97, 110, 110] : List UInt8), 0, 0, ([] : List (Int × Int)), ([(([107] : List UInt8), ([115] : List UInt8), 5)] : List ((List UInt8) × (List UInt8) × Int)))] : List Qi))), (.map (some m))], Zs m f.2.2.2.2] := Za b4 [2, 3] [0, 1, 4, 5] rfl rfl e3 rfl
    clear e3
    refine iR 1 4 [(3, (.int .i64 a4))] ?_
    refine iF ?_
    refine aQ ?_
    refine aR ?_
    refine iR 2 2 [(26, (pt j 0)), (27, (.string ⟨List.toArray p⟩))] ?_
    obtain ⟨a0, h7, H⟩ := Qe H
    refine iS 3 ?_
    refine cF 26 #[(.tmp 26), (.const (.string ⟨List.toArray ([97, 110, 110] : List UInt8)⟩)), (.const (.string ⟨List.toArray ([107] : List UInt8)⟩)), (.const (.string ⟨List.toArray ([110] : List UInt8)⟩)), (.tmp 27), (.const (.int .i64 (5)))] #[29, 9, 9, 9, 9, 2] 28 Tryz.call26 (Y1 j (some ⟨g6, 0, none⟩) (List.length ([(([97, 110, 110] : List UInt8), 0, 0, ([] : List (Int × Int)), ([(([107] : List UInt8), ([115] : List UInt8), 5)] : List ((List UInt8) × (List UInt8) × Int)))] : List Qi)) m f.1 f.2.1 f.2.2.1 f.2.2.2.1 ([(([97, 110, 110] : List UInt8), 0, 0, (none, 0, ([] : List (Int × Int))), ((some ⟨g5, 0, none⟩), (List.length ([(([107] : List UInt8), ([115] : List UInt8), 5)] : List ((List UInt8) × (List UInt8) × Int))), ([(([107] : List UInt8), ([115] : List UInt8), 5)] : List ((List UInt8) × (List UInt8) × Int))))] : List Vl) f.2.2.2.2 ([97, 110, 110] : List UInt8) ([107] : List UInt8) ([110] : List UInt8) p 5 e2 (Y3 b5 [4, 5] rfl rfl) (fun w hm => Fo (Vq (SP.still b5 (l := [4, 5]) (i := 0) rfl rfl rfl hm)) (R7 (Uf Gd (Uf Gd (Uf Gd (Uf (B3 (Qf (Qd .u32) (Qd .i64)) dT w) (Rm (Vq (SP.still b5 (l := [4, 5]) (i := 1) rfl rfl rfl hm))))))) B4)) a0 h7) ?_
    rintro e e4 ⟨rfl, e5⟩
    refine ⟨_, rfl, ?_⟩
    have b6 : SP [] w0 e4 [Xi 44 Ua (some ⟨g6, 0, none⟩) (List.length ([(([97, 110, 110] : List UInt8), 0, 0, ([] : List (Int × Int)), ([(([107] : List UInt8), ([115] : List UInt8), 5)] : List ((List UInt8) × (List UInt8) × Int)))] : List Qi)) ([(([97, 110, 110] : List UInt8), 0, 0, (none, 0, ([] : List (Int × Int))), ((some ⟨g5, 0, none⟩), (List.length ([(([107] : List UInt8), ([115] : List UInt8), 5)] : List ((List UInt8) × (List UInt8) × Int))), ([(([107] : List UInt8), ([115] : List UInt8), 5)] : List ((List UInt8) × (List UInt8) × Int))))] : List Vl), Xi 48 (Qf Qs (Qf Qs (Qd .i64))) (some ⟨g5, 0, none⟩) (List.length ([(([107] : List UInt8), ([115] : List UInt8), 5)] : List ((List UInt8) × (List UInt8) × Int))) ([(([107] : List UInt8), ([115] : List UInt8), 5)] : List ((List UInt8) × (List UInt8) × Int)), rdE eU8 (some ⟨s, 0, none⟩) (List.length ([(115 : UInt8)] : List UInt8)) ([(115 : UInt8)] : List UInt8), Xi 9 Qs (some ⟨u, 0, none⟩) (List.length ([([97, 110, 110] : List UInt8), ([107] : List UInt8), ([110] : List UInt8)] : List (List UInt8))) ([([97, 110, 110] : List UInt8), ([107] : List UInt8), ([110] : List UInt8)] : List (List UInt8)), Qv j 79 #[(.int .i64 f.1), (.int .i64 f.2.1), (.int .i64 f.2.2.1), (.int .i64 f.2.2.2.1), (.slice (some ⟨g6, 0, none⟩) (List.length ([(([97, 110, 110] : List UInt8), 0, 0, ([] : List (Int × Int)), ([(([107] : List UInt8), ([115] : List UInt8), 5)] : List ((List UInt8) × (List UInt8) × Int)))] : List Qi)) (List.length ([(([97, 110, 110] : List UInt8), 0, 0, ([] : List (Int × Int)), ([(([107] : List UInt8), ([115] : List UInt8), 5)] : List ((List UInt8) × (List UInt8) × Int)))] : List Qi))), (.map (some m))], Zs m f.2.2.2.2] := Za b5 [4, 5] [0, 1, 2, 3] rfl rfl e5 rfl
    clear e5
    refine iR 1 4 [(4, (.int .i64 a0))] ?_
    refine iF ?_
    refine aQ ?_
    refine aR ?_
    refine iR 2 2 [(29, (pt j 0)), (30, (.string ⟨List.toArray p⟩))] ?_
    obtain ⟨a1, h8, H⟩ := Qe H
    refine iS 3 ?_
    refine cF 26 #[(.tmp 29), (.const (.string ⟨List.toArray ([97, 110, 110] : List UInt8)⟩)), (.const (.string ⟨List.toArray ([107] : List UInt8)⟩)), (.const (.string ⟨List.toArray ([109] : List UInt8)⟩)), (.tmp 30), (.const (.int .i64 (4)))] #[29, 9, 9, 9, 9, 2] 31 Tryz.call26 (Y1 j (some ⟨g6, 0, none⟩) (List.length ([(([97, 110, 110] : List UInt8), 0, 0, ([] : List (Int × Int)), ([(([107] : List UInt8), ([115] : List UInt8), 5)] : List ((List UInt8) × (List UInt8) × Int)))] : List Qi)) m f.1 f.2.1 f.2.2.1 f.2.2.2.1 ([(([97, 110, 110] : List UInt8), 0, 0, (none, 0, ([] : List (Int × Int))), ((some ⟨g5, 0, none⟩), (List.length ([(([107] : List UInt8), ([115] : List UInt8), 5)] : List ((List UInt8) × (List UInt8) × Int))), ([(([107] : List UInt8), ([115] : List UInt8), 5)] : List ((List UInt8) × (List UInt8) × Int))))] : List Vl) f.2.2.2.2 ([97, 110, 110] : List UInt8) ([107] : List UInt8) ([109] : List UInt8) p 4 e4 (Y3 b6 [4, 5] rfl rfl) (fun w hm => Fo (Vq (SP.still b6 (l := [4, 5]) (i := 0) rfl rfl rfl hm)) (R7 (Uf Gd (Uf Gd (Uf Gd (Uf (B3 (Qf (Qd .u32) (Qd .i64)) dT w) (Rm (Vq (SP.still b6 (l := [4, 5]) (i := 1) rfl rfl rfl hm))))))) B4)) a1 h8) ?_
    rintro e e6 ⟨rfl, e7⟩
    refine ⟨_, rfl, ?_⟩
    have b7 : SP [] w0 e6 [Xi 44 Ua (some ⟨g6, 0, none⟩) (List.length ([(([97, 110, 110] : List UInt8), 0, 0, ([] : List (Int × Int)), ([(([107] : List UInt8), ([115] : List UInt8), 5)] : List ((List UInt8) × (List UInt8) × Int)))] : List Qi)) ([(([97, 110, 110] : List UInt8), 0, 0, (none, 0, ([] : List (Int × Int))), ((some ⟨g5, 0, none⟩), (List.length ([(([107] : List UInt8), ([115] : List UInt8), 5)] : List ((List UInt8) × (List UInt8) × Int))), ([(([107] : List UInt8), ([115] : List UInt8), 5)] : List ((List UInt8) × (List UInt8) × Int))))] : List Vl), Xi 48 (Qf Qs (Qf Qs (Qd .i64))) (some ⟨g5, 0, none⟩) (List.length ([(([107] : List UInt8), ([115] : List UInt8), 5)] : List ((List UInt8) × (List UInt8) × Int))) ([(([107] : List UInt8), ([115] : List UInt8), 5)] : List ((List UInt8) × (List UInt8) × Int)), rdE eU8 (some ⟨s, 0, none⟩) (List.length ([(115 : UInt8)] : List UInt8)) ([(115 : UInt8)] : List UInt8), Xi 9 Qs (some ⟨u, 0, none⟩) (List.length ([([97, 110, 110] : List UInt8), ([107] : List UInt8), ([110] : List UInt8)] : List (List UInt8))) ([([97, 110, 110] : List UInt8), ([107] : List UInt8), ([110] : List UInt8)] : List (List UInt8)), Qv j 79 #[(.int .i64 f.1), (.int .i64 f.2.1), (.int .i64 f.2.2.1), (.int .i64 f.2.2.2.1), (.slice (some ⟨g6, 0, none⟩) (List.length ([(([97, 110, 110] : List UInt8), 0, 0, ([] : List (Int × Int)), ([(([107] : List UInt8), ([115] : List UInt8), 5)] : List ((List UInt8) × (List UInt8) × Int)))] : List Qi)) (List.length ([(([97, 110, 110] : List UInt8), 0, 0, ([] : List (Int × Int)), ([(([107] : List UInt8), ([115] : List UInt8), 5)] : List ((List UInt8) × (List UInt8) × Int)))] : List Qi))), (.map (some m))], Zs m f.2.2.2.2] := Za b6 [4, 5] [0, 1, 2, 3] rfl rfl e7 rfl
    clear e7
    refine iR 1 4 [(5, (.int .i64 a1))] ?_
    refine iF ?_
    refine aQ ?_
    refine aR ?_
    refine iR 1 1 [(32, (pt j 0))] ?_
    obtain ⟨a5, h9, H⟩ := Qe H
    refine iS 2 ?_
    refine cF 22 #[(.tmp 32), (.const (.string ⟨List.toArray ([97, 110, 110] : List UInt8)⟩)), (.const (.string ⟨List.toArray ([107] : List UInt8)⟩)), (.const (.int .i64 (4)))] #[29, 9, 9, 2] 33 Tryz.call22 (Yc j (some ⟨g6, 0, none⟩) (List.length ([(([97, 110, 110] : List UInt8), 0, 0, ([] : List (Int × Int)), ([(([107] : List UInt8), ([115] : List UInt8), 5)] : List ((List UInt8) × (List UInt8) × Int)))] : List Qi)) m f.1 f.2.1 f.2.2.1 f.2.2.2.1 ([(([97, 110, 110] : List UInt8), 0, 0, (none, 0, ([] : List (Int × Int))), ((some ⟨g5, 0, none⟩), (List.length ([(([107] : List UInt8), ([115] : List UInt8), 5)] : List ((List UInt8) × (List UInt8) × Int))), ([(([107] : List UInt8), ([115] : List UInt8), 5)] : List ((List UInt8) × (List UInt8) × Int))))] : List Vl) f.2.2.2.2 ([97, 110, 110] : List UInt8) ([107] : List UInt8) 4 e6 (Y3 b7 [4, 5] rfl rfl) (fun w hm => Fo (Vq (SP.still b7 (l := [4, 5]) (i := 0) rfl rfl rfl hm)) (R7 (Uf Gd (Uf Gd (Uf Gd (Uf (B3 (Qf (Qd .u32) (Qd .i64)) dT w) (Rm (Vq (SP.still b7 (l := [4, 5]) (i := 1) rfl rfl rfl hm))))))) B4)) a5 h9) ?_
    rintro e e8 ⟨rfl, e9⟩
    refine ⟨_, rfl, ?_⟩
    have b8 : SP [] w0 e8 [Xi 44 Ua (some ⟨g6, 0, none⟩) (List.length ([(([97, 110, 110] : List UInt8), 0, 0, ([] : List (Int × Int)), ([(([107] : List UInt8), ([115] : List UInt8), 5)] : List ((List UInt8) × (List UInt8) × Int)))] : List Qi)) ([(([97, 110, 110] : List UInt8), 0, 0, (none, 0, ([] : List (Int × Int))), ((some ⟨g5, 0, none⟩), (List.length ([(([107] : List UInt8), ([115] : List UInt8), 5)] : List ((List UInt8) × (List UInt8) × Int))), ([(([107] : List UInt8), ([115] : List UInt8), 5)] : List ((List UInt8) × (List UInt8) × Int))))] : List Vl), Xi 48 (Qf Qs (Qf Qs (Qd .i64))) (some ⟨g5, 0, none⟩) (List.length ([(([107] : List UInt8), ([115] : List UInt8), 5)] : List ((List UInt8) × (List UInt8) × Int))) ([(([107] : List UInt8), ([115] : List UInt8), 5)] : List ((List UInt8) × (List UInt8) × Int)), rdE eU8 (some ⟨s, 0, none⟩) (List.length ([(115 : UInt8)] : List UInt8)) ([(115 : UInt8)] : List UInt8), Xi 9 Qs (some ⟨u, 0, none⟩) (List.length ([([97, 110, 110] : List UInt8), ([107] : List UInt8), ([110] : List UInt8)] : List (List UInt8))) ([([97, 110, 110] : List UInt8), ([107] : List UInt8), ([110] : List UInt8)] : List (List UInt8)), Qv j 79 #[(.int .i64 f.1), (.int .i64 f.2.1), (.int .i64 f.2.2.1), (.int .i64 f.2.2.2.1), (.slice (some ⟨g6, 0, none⟩) (List.length ([(([97, 110, 110] : List UInt8), 0, 0, ([] : List (Int × Int)), ([(([107] : List UInt8), ([115] : List UInt8), 5)] : List ((List UInt8) × (List UInt8) × Int)))] : List Qi)) (List.length ([(([97, 110, 110] : List UInt8), 0, 0, ([] : List (Int × Int)), ([(([107] : List UInt8), ([115] : List UInt8), 5)] : List ((List UInt8) × (List UInt8) × Int)))] : List Qi))), (.map (some m))], Zs m f.2.2.2.2] := Za b7 [4, 5] [0, 1, 2, 3] rfl rfl e9 rfl
    clear e9
    refine iR 1 3 [(6, (.bool a5))] ?_
    refine iF ?_
    refine aQ ?_
    refine aR ?_
    refine iR 1 1 [(34, (pt j 0))] ?_
    obtain ⟨q, i0, H⟩ := Qe H
    refine iS 2 ?_
    refine cF 20 #[(.tmp 34), (.const (.string ⟨List.toArray ([97, 110, 110] : List UInt8)⟩)), (.const (.string ⟨List.toArray ([107] : List UInt8)⟩))] #[29, 9, 9] 35 Tryz.call20 (U9 j (some ⟨g6, 0, none⟩) (List.length ([(([97, 110, 110] : List UInt8), 0, 0, ([] : List (Int × Int)), ([(([107] : List UInt8), ([115] : List UInt8), 5)] : List ((List UInt8) × (List UInt8) × Int)))] : List Qi)) m f.1 f.2.1 f.2.2.1 f.2.2.2.1 ([(([97, 110, 110] : List UInt8), 0, 0, (none, 0, ([] : List (Int × Int))), ((some ⟨g5, 0, none⟩), (List.length ([(([107] : List UInt8), ([115] : List UInt8), 5)] : List ((List UInt8) × (List UInt8) × Int))), ([(([107] : List UInt8), ([115] : List UInt8), 5)] : List ((List UInt8) × (List UInt8) × Int))))] : List Vl) f.2.2.2.2 ([97, 110, 110] : List UInt8) ([107] : List UInt8) e8 (Y3 b8 [4, 5] rfl rfl) (fun w hm => Fo (Vq (SP.still b8 (l := [4, 5]) (i := 0) rfl rfl rfl hm)) (R7 (Uf Gd (Uf Gd (Uf Gd (Uf (B3 (Qf (Qd .u32) (Qd .i64)) dT w) (Rm (Vq (SP.still b8 (l := [4, 5]) (i := 1) rfl rfl rfl hm))))))) B4)) q i0) ?_
    rintro e f0 ⟨rfl, f1⟩
    refine ⟨_, rfl, ?_⟩
    have b9 : SP [] w0 f0 [Xi 44 Ua (some ⟨g6, 0, none⟩) (List.length ([(([97, 110, 110] : List UInt8), 0, 0, ([] : List (Int × Int)), ([(([107] : List UInt8), ([115] : List UInt8), 5)] : List ((List UInt8) × (List UInt8) × Int)))] : List Qi)) ([(([97, 110, 110] : List UInt8), 0, 0, (none, 0, ([] : List (Int × Int))), ((some ⟨g5, 0, none⟩), (List.length ([(([107] : List UInt8), ([115] : List UInt8), 5)] : List ((List UInt8) × (List UInt8) × Int))), ([(([107] : List UInt8), ([115] : List UInt8), 5)] : List ((List UInt8) × (List UInt8) × Int))))] : List Vl), Xi 48 (Qf Qs (Qf Qs (Qd .i64))) (some ⟨g5, 0, none⟩) (List.length ([(([107] : List UInt8), ([115] : List UInt8), 5)] : List ((List UInt8) × (List UInt8) × Int))) ([(([107] : List UInt8), ([115] : List UInt8), 5)] : List ((List UInt8) × (List UInt8) × Int)), rdE eU8 (some ⟨s, 0, none⟩) (List.length ([(115 : UInt8)] : List UInt8)) ([(115 : UInt8)] : List UInt8), Xi 9 Qs (some ⟨u, 0, none⟩) (List.length ([([97, 110, 110] : List UInt8), ([107] : List UInt8), ([110] : List UInt8)] : List (List UInt8))) ([([97, 110, 110] : List UInt8), ([107] : List UInt8), ([110] : List UInt8)] : List (List UInt8)), Qv j 79 #[(.int .i64 q.2.1), (.int .i64 q.2.2.1), (.int .i64 q.2.2.2.1), (.int .i64 q.2.2.2.2.1), (.slice (some ⟨g6, 0, none⟩) (List.length ([(([97, 110, 110] : List UInt8), 0, 0, ([] : List (Int × Int)), ([(([107] : List UInt8), ([115] : List UInt8), 5)] : List ((List UInt8) × (List UInt8) × Int)))] : List Qi)) (List.length ([(([97, 110, 110] : List UInt8), 0, 0, ([] : List (Int × Int)), ([(([107] : List UInt8), ([115] : List UInt8), 5)] : List ((List UInt8) × (List UInt8) × Int)))] : List Qi))), (.map (some m))], Zs m q.2.2.2.2.2] := Za b8 [4, 5] [0, 1, 2, 3] rfl rfl f1 rfl
    clear f1
    refine iR 1 3 [(7, (.bool q.1))] ?_
    refine iF ?_
    refine aQ ?_
    refine aR ?_
    refine iR 1 1 [(36, (pt j 0))] ?_
    obtain ⟨h, i1, H⟩ := Qe H
    refine iS 2 ?_
    refine cF 20 #[(.tmp 36), (.const (.string ⟨List.toArray ([97, 110, 110] : List UInt8)⟩)), (.const (.string ⟨List.toArray ([107] : List UInt8)⟩))] #[29, 9, 9] 37 Tryz.call20 (U9 j (some ⟨g6, 0, none⟩) (List.length ([(([97, 110, 110] : List UInt8), 0, 0, ([] : List (Int × Int)), ([(([107] : List UInt8), ([115] : List UInt8), 5)] : List ((List UInt8) × (List UInt8) × Int)))] : List Qi)) m q.2.1 q.2.2.1 q.2.2.2.1 q.2.2.2.2.1 ([(([97, 110, 110] : List UInt8), 0, 0, (none, 0, ([] : List (Int × Int))), ((some ⟨g5, 0, none⟩), (List.length ([(([107] : List UInt8), ([115] : List UInt8), 5)] : List ((List UInt8) × (List UInt8) × Int))), ([(([107] : List UInt8), ([115] : List UInt8), 5)] : List ((List UInt8) × (List UInt8) × Int))))] : List Vl) q.2.2.2.2.2 ([97, 110, 110] : List UInt8) ([107] : List UInt8) f0 (Y3 b9 [4, 5] rfl rfl) (fun w hm => Fo (Vq (SP.still b9 (l := [4, 5]) (i := 0) rfl rfl rfl hm)) (R7 (Uf Gd (Uf Gd (Uf Gd (Uf (B3 (Qf (Qd .u32) (Qd .i64)) dT w) (Rm (Vq (SP.still b9 (l := [4, 5]) (i := 1) rfl rfl rfl hm))))))) B4)) h i1) ?_
    rintro e f2 ⟨rfl, f3⟩
    refine ⟨_, rfl, ?_⟩
    have c0 : SP [] w0 f2 [Xi 44 Ua (some ⟨g6, 0, none⟩) (List.length ([(([97, 110, 110] : List UInt8), 0, 0, ([] : List (Int × Int)), ([(([107] : List UInt8), ([115] : List UInt8), 5)] : List ((List UInt8) × (List UInt8) × Int)))] : List Qi)) ([(([97, 110, 110] : List UInt8), 0, 0, (none, 0, ([] : List (Int × Int))), ((some ⟨g5, 0, none⟩), (List.length ([(([107] : List UInt8), ([115] : List UInt8), 5)] : List ((List UInt8) × (List UInt8) × Int))), ([(([107] : List UInt8), ([115] : List UInt8), 5)] : List ((List UInt8) × (List UInt8) × Int))))] : List Vl), Xi 48 (Qf Qs (Qf Qs (Qd .i64))) (some ⟨g5, 0, none⟩) (List.length ([(([107] : List UInt8), ([115] : List UInt8), 5)] : List ((List UInt8) × (List UInt8) × Int))) ([(([107] : List UInt8), ([115] : List UInt8), 5)] : List ((List UInt8) × (List UInt8) × Int)), rdE eU8 (some ⟨s, 0, none⟩) (List.length ([(115 : UInt8)] : List UInt8)) ([(115 : UInt8)] : List UInt8), Xi 9 Qs (some ⟨u, 0, none⟩) (List.length ([([97, 110, 110] : List UInt8), ([107] : List UInt8), ([110] : List UInt8)] : List (List UInt8))) ([([97, 110, 110] : List UInt8), ([107] : List UInt8), ([110] : List UInt8)] : List (List UInt8)), Qv j 79 #[(.int .i64 h.2.1), (.int .i64 h.2.2.1), (.int .i64 h.2.2.2.1), (.int .i64 h.2.2.2.2.1), (.slice (some ⟨g6, 0, none⟩) (List.length ([(([97, 110, 110] : List UInt8), 0, 0, ([] : List (Int × Int)), ([(([107] : List UInt8), ([115] : List UInt8), 5)] : List ((List UInt8) × (List UInt8) × Int)))] : List Qi)) (List.length ([(([97, 110, 110] : List UInt8), 0, 0, ([] : List (Int × Int)), ([(([107] : List UInt8), ([115] : List UInt8), 5)] : List ((List UInt8) × (List UInt8) × Int)))] : List Qi))), (.map (some m))], Zs m h.2.2.2.2.2] := Za b9 [4, 5] [0, 1, 2, 3] rfl rfl f3 rfl
    clear f3
    refine iR 1 3 [(8, (.bool h.1))] ?_
    refine iF ?_
    refine aQ ?_
    refine aR ?_
    refine iR 2 2 [(38, (pt j 0)), (39, (.string ⟨List.toArray p⟩))] ?_
    obtain ⟨a2, i2, H⟩ := Qe H
    refine iS 3 ?_
    refine cF 26 #[(.tmp 38), (.const (.string ⟨List.toArray ([97, 110, 110] : List UInt8)⟩)), (.const (.string ⟨List.toArray ([107] : List UInt8)⟩)), (.const (.string ⟨List.toArray ([110] : List UInt8)⟩)), (.tmp 39), (.const (.int .i64 (4)))] #[29, 9, 9, 9, 9, 2] 40 Tryz.call26 (Y1 j (some ⟨g6, 0, none⟩) (List.length ([(([97, 110, 110] : List UInt8), 0, 0, ([] : List (Int × Int)), ([(([107] : List UInt8), ([115] : List UInt8), 5)] : List ((List UInt8) × (List UInt8) × Int)))] : List Qi)) m h.2.1 h.2.2.1 h.2.2.2.1 h.2.2.2.2.1 ([(([97, 110, 110] : List UInt8), 0, 0, (none, 0, ([] : List (Int × Int))), ((some ⟨g5, 0, none⟩), (List.length ([(([107] : List UInt8), ([115] : List UInt8), 5)] : List ((List UInt8) × (List UInt8) × Int))), ([(([107] : List UInt8), ([115] : List UInt8), 5)] : List ((List UInt8) × (List UInt8) × Int))))] : List Vl) h.2.2.2.2.2 ([97, 110, 110] : List UInt8) ([107] : List UInt8) ([110] : List UInt8) p 4 f2 (Y3 c0 [4, 5] rfl rfl) (fun w hm => Fo (Vq (SP.still c0 (l := [4, 5]) (i := 0) rfl rfl rfl hm)) (R7 (Uf Gd (Uf Gd (Uf Gd (Uf (B3 (Qf (Qd .u32) (Qd .i64)) dT w) (Rm (Vq (SP.still c0 (l := [4, 5]) (i := 1) rfl rfl rfl hm))))))) B4)) a2 i2) ?_
    rintro e f4 ⟨rfl, f5⟩
    refine ⟨_, rfl, ?_⟩
    have v : SP [] w0 f4 [Xi 44 Ua (some ⟨g6, 0, none⟩) (List.length ([(([97, 110, 110] : List UInt8), 0, 0, ([] : List (Int × Int)), ([(([107] : List UInt8), ([115] : List UInt8), 5)] : List ((List UInt8) × (List UInt8) × Int)))] : List Qi)) ([(([97, 110, 110] : List UInt8), 0, 0, (none, 0, ([] : List (Int × Int))), ((some ⟨g5, 0, none⟩), (List.length ([(([107] : List UInt8), ([115] : List UInt8), 5)] : List ((List UInt8) × (List UInt8) × Int))), ([(([107] : List UInt8), ([115] : List UInt8), 5)] : List ((List UInt8) × (List UInt8) × Int))))] : List Vl), Xi 48 (Qf Qs (Qf Qs (Qd .i64))) (some ⟨g5, 0, none⟩) (List.length ([(([107] : List UInt8), ([115] : List UInt8), 5)] : List ((List UInt8) × (List UInt8) × Int))) ([(([107] : List UInt8), ([115] : List UInt8), 5)] : List ((List UInt8) × (List UInt8) × Int)), rdE eU8 (some ⟨s, 0, none⟩) (List.length ([(115 : UInt8)] : List UInt8)) ([(115 : UInt8)] : List UInt8), Xi 9 Qs (some ⟨u, 0, none⟩) (List.length ([([97, 110, 110] : List UInt8), ([107] : List UInt8), ([110] : List UInt8)] : List (List UInt8))) ([([97, 110, 110] : List UInt8), ([107] : List UInt8), ([110] : List UInt8)] : List (List UInt8)), Qv j 79 #[(.int .i64 h.2.1), (.int .i64 h.2.2.1), (.int .i64 h.2.2.2.1), (.int .i64 h.2.2.2.2.1), (.slice (some ⟨g6, 0, none⟩) (List.length ([(([97, 110, 110] : List UInt8), 0, 0, ([] : List (Int × Int)), ([(([107] : List UInt8), ([115] : List UInt8), 5)] : List ((List UInt8) × (List UInt8) × Int)))] : List Qi)) (List.length ([(([97, 110, 110] : List UInt8), 0, 0, ([] : List (Int × Int)), ([(([107] : List UInt8), ([115] : List UInt8), 5)] : List ((List UInt8) × (List UInt8) × Int)))] : List Qi))), (.map (some m))], Zs m h.2.2.2.2.2] := Za c0 [4, 5] [0, 1, 2, 3] rfl rfl f5 rfl
    clear f5
    refine iR 1 4 [(9, (.int .i64 a2))] ?_
    refine iF ?_
    refine aQ ?_
    refine At.join (fun ρ w => ∃ (a6 : Bool), V3 ρ [(0, (.bool a6))] ∧ SP [] w0 w [] ∧ Vs a6 = some r) ?_ ?_
    ·refine aR ?_
     refine iR 3 3 [(41, (.int .i64 a4)), (42, (.bool (a4 == 0))), (43, (.bool (a4 == 0)))] ?_
     refine In.guard (t := 43) (b := (a4 == 0)) K (fun c3 => ?_) (fun c3 => ?_)
     ·have H := ct H c3
      refine iR 4 7 [(44, (.int .i64 a0)), (45, (.bool (a0 == 3))), (46, (.bool (a0 == 3))), (47, (.bool (a0 == 3)))] ?_
      refine In.guard (t := 47) (b := (a0 == 3)) K (fun c4 => ?_) (fun c4 => ?_)
      ·have H := ct H c4
       refine iR 4 11 [(48, (.int .i64 a1)), (49, (.bool (a1 == 101))), (50, (.bool (a1 == 101))), (51, (.bool (a1 == 101)))] ?_
       refine In.guard (t := 51) (b := (a1 == 101)) K (fun c5 => ?_) (fun c5 => ?_)
       ·have H := ct H c5
        refine iR 3 14 [(52, (.bool a5)), (53, (.bool a5)), (54, (.bool a5))] ?_
        refine In.guard (t := 54) (b := a5) K (fun c6 => ?_) (fun c6 => ?_)
        ·have H := ct H c6
         refine iR 3 17 [(55, (.bool q.1)), (56, (.bool q.1)), (57, (.bool q.1))] ?_
         refine In.guard (t := 57) (b := q.1) K (fun c7 => ?_) (fun c7 => ?_)
         ·have H := ct H c7
          refine iR 4 21 [(58, (.bool h.1)), (59, (.bool (!h.1))), (60, (.bool (!h.1))), (61, (.bool (!h.1)))] ?_
          refine In.guard (t := 61) (b := (!h.1)) K (fun c8 => ?_) (fun c8 => ?_)
          ·have H := ct H c8
           refine iR 4 25 [(62, (.int .i64 a2)), (63, (.bool (a2 == 3))), (64, (.bool (a2 == 3))), (65, (.bool (a2 == 3)))] ?_
           refine In.guard (t := 65) (b := (a2 == 3)) K (fun c9 => ?_) (fun c9 => ?_)
           ·have H := ct H c9
            refine iR 1 26 [(66, (pt j 0))] ?_
            obtain ⟨a7, i3, H⟩ := Qe H
            refine iS 27 ?_
            refine cF 24 #[(.tmp 66), (.const (.string ⟨List.toArray ([97, 110, 110] : List UInt8)⟩)), (.const (.string ⟨List.toArray ([107] : List UInt8)⟩)), (.const (.string ⟨List.toArray ([110] : List UInt8)⟩))] #[29, 9, 9, 9] 67 Tryz.call24 (Y9 j (some ⟨g6, 0, none⟩) (List.length ([(([97, 110, 110] : List UInt8), 0, 0, ([] : List (Int × Int)), ([(([107] : List UInt8), ([115] : List UInt8), 5)] : List ((List UInt8) × (List UInt8) × Int)))] : List Qi)) m h.2.1 h.2.2.1 h.2.2.2.1 h.2.2.2.2.1 ([(([97, 110, 110] : List UInt8), 0, 0, (none, 0, ([] : List (Int × Int))), ((some ⟨g5, 0, none⟩), (List.length ([(([107] : List UInt8), ([115] : List UInt8), 5)] : List ((List UInt8) × (List UInt8) × Int))), ([(([107] : List UInt8), ([115] : List UInt8), 5)] : List ((List UInt8) × (List UInt8) × Int))))] : List Vl) h.2.2.2.2.2 ([97, 110, 110] : List UInt8) ([107] : List UInt8) ([110] : List UInt8) f4 (Y3 v [4, 5] rfl rfl) (fun w hm => Fo (Vq (SP.still v (l := [4, 5]) (i := 0) rfl rfl rfl hm)) (R7 (Uf Gd (Uf Gd (Uf Gd (Uf (B3 (Qf (Qd .u32) (Qd .i64)) dT w) (Rm (Vq (SP.still v (l := [4, 5]) (i := 1) rfl rfl rfl hm))))))) B4)) a7 i3) ?_
            rintro e f6 ⟨rfl, f7⟩
            refine ⟨_, rfl, ?_⟩
            have a9 : SP [] w0 f6 [Xi 44 Ua (some ⟨g6, 0, none⟩) (List.length ([(([97, 110, 110] : List UInt8), 0, 0, ([] : List (Int × Int)), ([(([107] : List UInt8), ([115] : List UInt8), 5)] : List ((List UInt8) × (List UInt8) × Int)))] : List Qi)) ([(([97, 110, 110] : List UInt8), 0, 0, (none, 0, ([] : List (Int × Int))), ((some ⟨g5, 0, none⟩), (List.length ([(([107] : List UInt8), ([115] : List UInt8), 5)] : List ((List UInt8) × (List UInt8) × Int))), ([(([107] : List UInt8), ([115] : List UInt8), 5)] : List ((List UInt8) × (List UInt8) × Int))))] : List Vl), Xi 48 (Qf Qs (Qf Qs (Qd .i64))) (some ⟨g5, 0, none⟩) (List.length ([(([107] : List UInt8), ([115] : List UInt8), 5)] : List ((List UInt8) × (List UInt8) × Int))) ([(([107] : List UInt8), ([115] : List UInt8), 5)] : List ((List UInt8) × (List UInt8) × Int)), rdE eU8 (some ⟨s, 0, none⟩) (List.length ([(115 : UInt8)] : List UInt8)) ([(115 : UInt8)] : List UInt8), Xi 9 Qs (some ⟨u, 0, none⟩) (List.length ([([97, 110, 110] : List UInt8), ([107] : List UInt8), ([110] : List UInt8)] : List (List UInt8))) ([([97, 110, 110] : List UInt8), ([107] : List UInt8), ([110] : List UInt8)] : List (List UInt8)), Qv j 79 #[(.int .i64 h.2.1), (.int .i64 h.2.2.1), (.int .i64 h.2.2.2.1), (.int .i64 h.2.2.2.2.1), (.slice (some ⟨g6, 0, none⟩) (List.length ([(([97, 110, 110] : List UInt8), 0, 0, ([] : List (Int × Int)), ([(([107] : List UInt8), ([115] : List UInt8), 5)] : List ((List UInt8) × (List UInt8) × Int)))] : List Qi)) (List.length ([(([97, 110, 110] : List UInt8), 0, 0, ([] : List (Int × Int)), ([(([107] : List UInt8), ([115] : List UInt8), 5)] : List ((List UInt8) × (List UInt8) × Int)))] : List Qi))), (.map (some m))], Zs m h.2.2.2.2.2] := Za v [4, 5] [0, 1, 2, 3] rfl rfl f7 rfl
            clear f7
            refine iR 1 28 [(68, (.string ⟨List.toArray p⟩))] ?_
            refine iS 29 ?_
            refine Vt (op := .eql) (T := 9) (T' := 9) (x := (.tmp 67)) (y := (.tmp 68)) (a := a7) (b := p) (r := (.bool (a7 == p))) (d := (some 69)) (k := 28) K rfl K K rfl ?_
            refine iR 2 31 [(70, (.bool (a7 == p))), (71, (.bool (a7 == p)))] ?_
            refine In.guard (t := 71) (b := (a7 == p)) K (fun d0 => ?_) (fun d0 => ?_)
            ·have H := ct H d0
             refine iR 1 32 [(72, (pt j 0))] ?_
             obtain ⟨a8, i4, H⟩ := Qe H
             refine iS 33 ?_
             refine cF 24 #[(.tmp 72), (.const (.string ⟨List.toArray ([97, 110, 110] : List UInt8)⟩)), (.const (.string ⟨List.toArray ([122] : List UInt8)⟩)), (.const (.string ⟨List.toArray ([110] : List UInt8)⟩))] #[29, 9, 9, 9] 73 Tryz.call24 (Y9 j (some ⟨g6, 0, none⟩) (List.length ([(([97, 110, 110] : List UInt8), 0, 0, ([] : List (Int × Int)), ([(([107] : List UInt8), ([115] : List UInt8), 5)] : List ((List UInt8) × (List UInt8) × Int)))] : List Qi)) m h.2.1 h.2.2.1 h.2.2.2.1 h.2.2.2.2.1 ([(([97, 110, 110] : List UInt8), 0, 0, (none, 0, ([] : List (Int × Int))), ((some ⟨g5, 0, none⟩), (List.length ([(([107] : List UInt8), ([115] : List UInt8), 5)] : List ((List UInt8) × (List UInt8) × Int))), ([(([107] : List UInt8), ([115] : List UInt8), 5)] : List ((List UInt8) × (List UInt8) × Int))))] : List Vl) h.2.2.2.2.2 ([97, 110, 110] : List UInt8) ([122] : List UInt8) ([110] : List UInt8) f6 (Y3 a9 [4, 5] rfl rfl) (fun w hm => Fo (Vq (SP.still a9 (l := [4, 5]) (i := 0) rfl rfl rfl hm)) (R7 (Uf Gd (Uf Gd (Uf Gd (Uf (B3 (Qf (Qd .u32) (Qd .i64)) dT w) (Rm (Vq (SP.still a9 (l := [4, 5]) (i := 1) rfl rfl rfl hm))))))) B4)) a8 i4) ?_
             rintro e f8 ⟨rfl, f9⟩
             refine ⟨_, rfl, ?_⟩
             have b0 : SP [] w0 f8 [Xi 44 Ua (some ⟨g6, 0, none⟩) (List.length ([(([97, 110, 110] : List UInt8), 0, 0, ([] : List (Int × Int)), ([(([107] : List UInt8), ([115] : List UInt8), 5)] : List ((List UInt8) × (List UInt8) × Int)))] : List Qi)) ([(([97, 110, 110] : List UInt8), 0, 0, (none, 0, ([] : List (Int × Int))), ((some ⟨g5, 0, none⟩), (List.length ([(([107] : List UInt8), ([115] : List UInt8), 5)] : List ((List UInt8) × (List UInt8) × Int))), ([(([107] : List UInt8), ([115] : List UInt8), 5)] : List ((List UInt8) × (List UInt8) × Int))))] : List Vl), Xi 48 (Qf Qs (Qf Qs (Qd .i64))) (some ⟨g5, 0, none⟩) (List.length ([(([107] : List UInt8), ([115] : List UInt8), 5)] : List ((List UInt8) × (List UInt8) × Int))) ([(([107] : List UInt8), ([115] : List UInt8), 5)] : List ((List UInt8) × (List UInt8) × Int)), rdE eU8 (some ⟨s, 0, none⟩) (List.length ([(115 : UInt8)] : List UInt8)) ([(115 : UInt8)] : List UInt8), Xi 9 Qs (some ⟨u, 0, none⟩) (List.length ([([97, 110, 110] : List UInt8), ([107] : List UInt8), ([110] : List UInt8)] : List (List UInt8))) ([([97, 110, 110] : List UInt8), ([107] : List UInt8), ([110] : List UInt8)] : List (List UInt8)), Qv j 79 #[(.int .i64 h.2.1), (.int .i64 h.2.2.1), (.int .i64 h.2.2.2.1), (.int .i64 h.2.2.2.2.1), (.slice (some ⟨g6, 0, none⟩) (List.length ([(([97, 110, 110] : List UInt8), 0, 0, ([] : List (Int × Int)), ([(([107] : List UInt8), ([115] : List UInt8), 5)] : List ((List UInt8) × (List UInt8) × Int)))] : List Qi)) (List.length ([(([97, 110, 110] : List UInt8), 0, 0, ([] : List (Int × Int)), ([(([107] : List UInt8), ([115] : List UInt8), 5)] : List ((List UInt8) × (List UInt8) × Int)))] : List Qi))), (.map (some m))], Zs m h.2.2.2.2.2] := Za a9 [4, 5] [0, 1, 2, 3] rfl rfl f9 rfl
             clear f9
             refine iS 34 ?_
             refine Vt (op := .eql) (T := 9) (T' := 9) (x := (.tmp 73)) (y := (.const (.string ⟨List.toArray ([] : List UInt8)⟩))) (a := a8) (b := ([] : List UInt8)) (r := (.bool (a8 == ([] : List UInt8)))) (d := (some 74)) (k := 33) K rfl K K rfl ?_
             refine iR 2 36 [(75, (.bool (a8 == ([] : List UInt8)))), (76, (.bool (a8 == ([] : List UInt8))))] ?_
             refine In.guard (t := 76) (b := (a8 == ([] : List UInt8))) K (fun d1 => ?_) (fun d1 => ?_)
             ·have H := ct H d1
              refine iR 1 37 [(77, (pt j 0))] ?_
              obtain ⟨b1, i5, H⟩ := Qe H
              refine iS 38 ?_
              refine cF 22 #[(.tmp 77), (.const (.string ⟨List.toArray ([97, 110, 110] : List UInt8)⟩)), (.const (.string ⟨List.toArray ([107] : List UInt8)⟩)), (.const (.int .i64 (0)))] #[29, 9, 9, 2] 78 Tryz.call22 (Yc j (some ⟨g6, 0, none⟩) (List.length ([(([97, 110, 110] : List UInt8), 0, 0, ([] : List (Int × Int)), ([(([107] : List UInt8), ([115] : List UInt8), 5)] : List ((List UInt8) × (List UInt8) × Int)))] : List Qi)) m h.2.1 h.2.2.1 h.2.2.2.1 h.2.2.2.2.1 ([(([97, 110, 110] : List UInt8), 0, 0, (none, 0, ([] : List (Int × Int))), ((some ⟨g5, 0, none⟩), (List.length ([(([107] : List UInt8), ([115] : List UInt8), 5)] : List ((List UInt8) × (List UInt8) × Int))), ([(([107] : List UInt8), ([115] : List UInt8), 5)] : List ((List UInt8) × (List UInt8) × Int))))] : List Vl) h.2.2.2.2.2 ([97, 110, 110] : List UInt8) ([107] : List UInt8) 0 f8 (Y3 b0 [4, 5] rfl rfl) (fun w hm => Fo (Vq (SP.still b0 (l := [4, 5]) (i := 0) rfl rfl rfl hm)) (R7 (Uf Gd (Uf Gd (Uf Gd (Uf (B3 (Qf (Qd .u32) (Qd .i64)) dT w) (Rm (Vq (SP.still b0 (l := [4, 5]) (i := 1) rfl rfl rfl hm))))))) B4)) b1 i5) ?_
              rintro e i6 ⟨rfl, g0⟩
              refine ⟨_, rfl, ?_⟩
              have i7 : SP [] w0 i6 [Xi 44 Ua (some ⟨g6, 0, none⟩) (List.length ([(([97, 110, 110] : List UInt8), 0, 0, ([] : List (Int × Int)), ([(([107] : List UInt8), ([115] : List UInt8), 5)] : List ((List UInt8) × (List UInt8) × Int)))] : List Qi)) ([(([97, 110, 110] : List UInt8), 0, 0, (none, 0, ([] : List (Int × Int))), ((some ⟨g5, 0, none⟩), (List.length ([(([107] : List UInt8), ([115] : List UInt8), 5)] : List ((List UInt8) × (List UInt8) × Int))), ([(([107] : List UInt8), ([115] : List UInt8), 5)] : List ((List UInt8) × (List UInt8) × Int))))] : List Vl), Xi 48 (Qf Qs (Qf Qs (Qd .i64))) (some ⟨g5, 0, none⟩) (List.length ([(([107] : List UInt8), ([115] : List UInt8), 5)] : List ((List UInt8) × (List UInt8) × Int))) ([(([107] : List UInt8), ([115] : List UInt8), 5)] : List ((List UInt8) × (List UInt8) × Int)), rdE eU8 (some ⟨s, 0, none⟩) (List.length ([(115 : UInt8)] : List UInt8)) ([(115 : UInt8)] : List UInt8), Xi 9 Qs (some ⟨u, 0, none⟩) (List.length ([([97, 110, 110] : List UInt8), ([107] : List UInt8), ([110] : List UInt8)] : List (List UInt8))) ([([97, 110, 110] : List UInt8), ([107] : List UInt8), ([110] : List UInt8)] : List (List UInt8)), Qv j 79 #[(.int .i64 h.2.1), (.int .i64 h.2.2.1), (.int .i64 h.2.2.2.1), (.int .i64 h.2.2.2.2.1), (.slice (some ⟨g6, 0, none⟩) (List.length ([(([97, 110, 110] : List UInt8), 0, 0, ([] : List (Int × Int)), ([(([107] : List UInt8), ([115] : List UInt8), 5)] : List ((List UInt8) × (List UInt8) × Int)))] : List Qi)) (List.length ([(([97, 110, 110] : List UInt8), 0, 0, ([] : List (Int × Int)), ([(([107] : List UInt8), ([115] : List UInt8), 5)] : List ((List UInt8) × (List UInt8) × Int)))] : List Qi))), (.map (some m))], Zs m h.2.2.2.2.2] := Za b0 [4, 5] [0, 1, 2, 3] rfl rfl g0 rfl
              clear g0
              refine iR 3 41 [(79, (.bool (!b1))), (80, (.bool (!b1))), (0, (.bool (!b1)))] ?_
              refine iF ?_
              exact ⟨(!b1), ⟨K, trivial⟩, SP.sel i7 [] rfl rfl, H⟩
             ·have H := cf H d1
              refine iR 5 41 [(77, undef), (78, undef), (79, undef), (80, (.bool false)), (0, (.bool false))] ?_
              refine iF ?_
              exact ⟨false, ⟨K, trivial⟩, SP.sel b0 [] rfl rfl, H⟩
            ·have H := cf H d0
             refine iR 10 41 [(72, undef), (73, undef), (74, undef), (75, (.bool false)), (76, (.bool false)), (77, undef), (78, undef), (79, undef), (80, (.bool false)), (0, (.bool false))] ?_
             refine iF ?_
             exact ⟨false, ⟨K, trivial⟩, SP.sel a9 [] rfl rfl, H⟩
           ·have H := cf H c9
            refine iR 16 41 [(66, undef), (67, undef), (68, undef), (69, undef), (70, (.bool false)), (71, (.bool false)), (72, undef), (73, undef), (74, undef), (75, (.bool false)), (76, (.bool false)), (77, undef), (78, undef), (79, undef), (80, (.bool false)), (0, (.bool false))] ?_
            refine iF ?_
            exact ⟨false, ⟨K, trivial⟩, SP.sel v [] rfl rfl, H⟩
          ·have H := cf H c8
           refine iR 20 41 [(62, undef), (63, undef), (64, (.bool false)), (65, (.bool false)), (66, undef), (67, undef), (68, undef), (69, undef), (70, (.bool false)), (71, (.bool false)), (72, undef), (73, undef), (74, undef), (75, (.bool false)), (76, (.bool false)), (77, undef), (78, undef), (79, undef), (80, (.bool false)), (0, (.bool false))] ?_
           refine iF ?_
           exact ⟨false, ⟨K, trivial⟩, SP.sel v [] rfl rfl, H⟩
         ·have H := cf H c7
          refine iR 24 41 [(58, undef), (59, undef), (60, (.bool false)), (61, (.bool false)), (62, undef), (63, undef), (64, (.bool false)), (65, (.bool false)), (66, undef), (67, undef), (68, undef), (69, undef), (70, (.bool false)), (71, (.bool false)), (72, undef), (73, undef), (74, undef), (75, (.bool false)), (76, (.bool false)), (77, undef), (78, undef), (79, undef), (80, (.bool false)), (0, (.bool false))] ?_
          refine iF ?_
          exact ⟨false, ⟨K, trivial⟩, SP.sel v [] rfl rfl, H⟩
        ·have H := cf H c6
         refine iR 27 41 [(55, undef), (56, (.bool false)), (57, (.bool false)), (58, undef), (59, undef), (60, (.bool false)), (61, (.bool false)), (62, undef), (63, undef), (64, (.bool false)), (65, (.bool false)), (66, undef), (67, undef), (68, undef), (69, undef), (70, (.bool false)), (71, (.bool false)), (72, undef), (73, undef), (74, undef), (75, (.bool false)), (76, (.bool false)), (77, undef), (78, undef), (79, undef), (80, (.bool false)), (0, (.bool false))] ?_
         refine iF ?_
         exact ⟨false, ⟨K, trivial⟩, SP.sel v [] rfl rfl, H⟩
       ·have H := cf H c5
        refine iR 30 41 [(52, undef), (53, (.bool false)), (54, (.bool false)), (55, undef), (56, (.bool false)), (57, (.bool false)), (58, undef), (59, undef), (60, (.bool false)), (61, (.bool false)), (62, undef), (63, undef), (64, (.bool false)), (65, (.bool false)), (66, undef), (67, undef), (68, undef), (69, undef), (70, (.bool false)), (71, (.bool false)), (72, undef), (73, undef), (74, undef), (75, (.bool false)), (76, (.bool false)), (77, undef), (78, undef), (79, undef), (80, (.bool false)), (0, (.bool false))] ?_
        refine iF ?_
        exact ⟨false, ⟨K, trivial⟩, SP.sel v [] rfl rfl, H⟩
      ·have H := cf H c4
       refine iR 34 41 [(48, undef), (49, undef), (50, (.bool false)), (51, (.bool false)), (52, undef), (53, (.bool false)), (54, (.bool false)), (55, undef), (56, (.bool false)), (57, (.bool false)), (58, undef), (59, undef), (60, (.bool false)), (61, (.bool false)), (62, undef), (63, undef), (64, (.bool false)), (65, (.bool false)), (66, undef), (67, undef), (68, undef), (69, undef), (70, (.bool false)), (71, (.bool false)), (72, undef), (73, undef), (74, undef), (75, (.bool false)), (76, (.bool false)), (77, undef), (78, undef), (79, undef), (80, (.bool false)), (0, (.bool false))] ?_
       refine iF ?_
       exact ⟨false, ⟨K, trivial⟩, SP.sel v [] rfl rfl, H⟩
     ·have H := cf H c3
      refine iR 38 41 [(44, undef), (45, undef), (46, (.bool false)), (47, (.bool false)), (48, undef), (49, undef), (50, (.bool false)), (51, (.bool false)), (52, undef), (53, (.bool false)), (54, (.bool false)), (55, undef), (56, (.bool false)), (57, (.bool false)), (58, undef), (59, undef), (60, (.bool false)), (61, (.bool false)), (62, undef), (63, undef), (64, (.bool false)), (65, (.bool false)), (66, undef), (67, undef), (68, undef), (69, undef), (70, (.bool false)), (71, (.bool false)), (72, undef), (73, undef), (74, undef), (75, (.bool false)), (76, (.bool false)), (77, undef), (78, undef), (79, undef), (80, (.bool false)), (0, (.bool false))] ?_
      refine iF ?_
      exact ⟨false, ⟨K, trivial⟩, SP.sel v [] rfl rfl, H⟩
    ·rintro ρ j7 ⟨a6, hk, i8, H⟩
     unfold Vs at H
     first | refine At.known [(0, (.bool a6))] hk ?_ | rw [← Qz (l := [(0, (.bool a6))]) hk]
     refine At.ret K ?_
     refine ⟨(.bool a6), K, ?_⟩
     obtain rfl := Qh H
     exact ⟨rfl, SP.sel i8 [] rfl rfl⟩
end Go.Proofs.YtmgfanhcdfobhaaGreatDoor
namespace Go.Proofs.YtmgfanhcdfobhaaGreatDoor
abbrev headV : List Qi := [(([97, 110, 110] : List UInt8), 0, 0, ([] : List (Int × Int)), ([(([107] : List UInt8), ([115] : List UInt8), 5)] : List ((List UInt8) × (List UInt8) × Int)))]
theorem headV_q : ∀ t ∈ headV, Lg t := by
  intro t ht
  have : t = (([97, 110, 110] : List UInt8), 0, 0, ([] : List (Int × Int)), ([(([107] : List UInt8), ([115] : List UInt8), 5)] : List ((List UInt8) × (List UInt8) × Int))) := by simpa [headV] using ht
  subst this
  refine ⟨by decide, by decide, by decide, (fun n hn => by cases hn), fun x hx => ?_⟩
  have : x = (([107] : List UInt8), ([115] : List UInt8), 5) := by simpa using hx
  subst this
  decide
theorem headVNew : Ny 9 9 9 9 headV = some (some (9, 9, 9, 9, [])) := by
  rw [pVNew 9 9 9 9 headV (by decide) headV_q, show Fb 9 9 9 9 headV = true by kernel_rfl]
  rfl
theorem headVNone : Ny 0 0 0 0 [] = some none := by
  rw [pVNew 0 0 0 0 [] (by decide) (fun t ht => by cases ht), show Fb 0 0 0 0 [] = false by kernel_rfl]
  rfl
theorem headVRest : Jr (9, 9, 9, 9, []) false = some true := by kernel_rfl
theorem optE_s {α β : Type} (x : α) (a : Option β) (f : α → Option β) : optE (some x) a f = f x := rfl
theorem optE_n {α β : Type} (a : Option β) (f : α → Option β) : optE none a f = a := rfl
theorem vaultHead : U5 = some true := by
  unfold U5
  rw [show Gq = some () from rfl, Option.bind_some, headVNew, Option.bind_some, optE_s, headVNone, Option.bind_some, optE_n]
  exact headVRest
abbrev OpV := Int × Str × Str × Str × Str × Int
def OpVQ (o : OpV) : Prop := o.2.1.length ≤ 140737488355328 ∧ o.2.2.1.length ≤ 140737488355328 ∧ o.2.2.2.1.length ≤ 140737488355328 ∧ o.2.2.2.2.1.length ≤ 140737488355328
theorem opsV_loop (l : List OpV) (hl : l.length ≤ 140737488355328) (hq : ∀ o ∈ l, OpVQ o) : ∀ (d i f : Nat), d = min l.length 200 - i → i ≤ l.length → i ≤ 200 → d < f → ∃ b, Z0 l f (i : Int) = some b ∧ (b = false → l.length ≤ 100) := by
  intro d
  induction d with
  | zero =>
    intro i f hd hi h3 hf
    obtain ⟨f, rfl⟩ : ∃ g, f = g + 1 := ⟨f - 1, by omega⟩
    show ∃ b, Xr (Z0 l f) l (i : Int) = some b ∧ _
    unfold Xr Yo
    by_cases hlt : i < l.length
    · rw [show decide ((i : Int) < ((l.length : Nat) : Int)) = true from decide_eq_true (by omega), cond_true, show decide ((i : Int) < 200) = false from decide_eq_false (by omega), cond_false]
      exact ⟨_, rfl, fun h => by have := of_decide_eq_false h; omega⟩
    · rw [show decide ((i : Int) < ((l.length : Nat) : Int)) = false from decide_eq_false (by omega), cond_false, cond_false]
      exact ⟨_, rfl, fun h => by have := of_decide_eq_false h; omega⟩
  | succ d ih =>
    intro i f hd hi h3 hf
    obtain ⟨f, rfl⟩ : ∃ g, f = g + 1 := ⟨f - 1, by omega⟩
    have hlt : i < l.length := by omega
    show ∃ b, Xr (Z0 l f) l (i : Int) = some b ∧ _
    unfold Xr Yo
    rw [show decide ((i : Int) < ((l.length : Nat) : Int)) = true from decide_eq_true (by omega), cond_true, show decide ((i : Int) < 200) = true from decide_eq_true (by omega), cond_true, Jo hlt, Option.bind_some, Option.bind_some, Option.bind_some, Option.bind_some]
    generalize decide (_ > (2000 : Int)) = g
    cases g with
    | true =>
      rw [cond_true]
      exact ⟨true, rfl, fun h => by cases h⟩
    | false =>
      rw [cond_false, show ((i : Int) + 1) = ((i + 1 : Nat) : Int) by omega, Xj (by omega)]
      exact ih (i + 1) f (by omega) (by omega) (by omega) (by omega)
theorem Ol (l : List OpV) (hl : l.length ≤ 140737488355328) (hq : ∀ o ∈ l, OpVQ o) : ∃ b, Nz l = some b ∧ (b = false → l.length ≤ 100) :=
  opsV_loop l hl hq _ 0 Zj rfl (by omega) (by omega) (by unfold Zj; omega)
theorem L5 (l : List Qi) (M : N5) (t k : Str) (x : Str × Str) : G8 (L4 l M t k) x = if (Cy l t k).2.2.2 = true ∧ (t, k) = x then G8 M (t, k) + 1 else G8 M x := by
  unfold L4
  cases h : (Cy l t k).2.2.2 with
  | false => rw [cond_false, if_neg (by simp)]
  | true =>
    rw [cond_true, Hn]
    simp
def MB (n : Nat) (M : N5) : Prop := ∀ x, 0 ≤ G8 M x ∧ G8 M x ≤ n
theorem mb_nil : MB 0 [] := fun x => by rw [mget_nil]; omega
theorem mb_rev {n : Nat} {M : N5} (h : MB n M) (l : List Qi) (t k : Str) : MB (n + 1) (L4 l M t k) := by
  intro x
  rw [L5]
  have := h x
  have := h (t, k)
  split <;> omega
theorem mb_le {n m : Nat} {M : N5} (h : MB n M) (hm : n ≤ m) : MB m M := fun x => by have := h x; omega
end Go.Proofs.YtmgfanhcdfobhaaGreatDoor
namespace Go.Proofs.YtmgfanhcdfobhaaGreatDoor
theorem inP_snoc (ps : List (Str × Str)) (a b t k : Str) : inP (ps ++ [(a, b)]) t k = (inP ps t k || ((a == t) && (b == k))) := by unfold inP; rw [List.any_append]; simp
def Rel (l : List Qi) (M : N5) (ps : List (Str × Str)) : Prop := ∀ t k, (Cy l t k).2.2.2 = true → (G8 M (t, k) == 0) = !(inP ps t k)
theorem rel_next {l : List Qi} {M : N5} {ps : List (Str × Str)} {n : Nat} (h : Rel l M ps) (hM : MB n M) (a b : Str) : Rel l (L4 l M a b) (ps ++ [(a, b)]) := by
  intro t k htk
  rw [inP_snoc, L5]
  have h0 := hM (a, b)
  by_cases e : (a, b) = (t, k)
  · injection e with e1 e2
    subst e1; subst e2
    rw [if_pos ⟨htk, rfl⟩, beq_self_eq_true, beq_self_eq_true]
    simp
    omega
  · rw [if_neg (fun h => e h.2), h t k htk]
    have : ((a == t) && (b == k)) = false := by
      rw [Bool.eq_false_iff]
      intro h2
      simp only [Bool.and_eq_true, beq_iff_eq] at h2
      exact e (by rw [h2.1, h2.2])
    rw [this, Bool.or_false]
end Go.Proofs.YtmgfanhcdfobhaaGreatDoor
