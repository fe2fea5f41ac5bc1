import Derived.Test.YtmgfanhcdfobhaaGreatDoorPkVaultWants4
set_option linter.unusedSimpArgs false
set_option linter.unusedVariables false
set_option linter.unusedSectionVars false
namespace Go.Proofs.YtmgfanhcdfobhaaGreatDoor
open Go.RowKit Go.WideMaps Go.WideShapes
abbrev U2 := List ((List UInt8 × List UInt8) × Int)
def Ev (k : List UInt8 × List UInt8) : Value := .agg #[.string ⟨k.1.toArray⟩, .string ⟨k.2.toArray⟩]
theorem Kv {a b : List UInt8 × List UInt8} (h : Ev a = Ev b) : a = b := by
  unfold Ev at h
  injection h with h
  have := congrArg Array.toList h
  simp at this
  exact Prod.ext this.1 this.2
def Nx (L : U2) (k : List UInt8 × List UInt8) : Int := match L.findIdx? (fun e => e.1 == k) with | some j => (L.getD j (k, 0)).2 | none => 0
def Kw (L : U2) (k : List UInt8 × List UInt8) (v : Int) : U2 := match L.findIdx? (fun e => e.1 == k) with | some j => L.set j (k, v) | none => L ++ [(k, v)]
def Bq (L : U2) (k : List UInt8 × List UInt8) : U2 := match L.findIdx? (fun e => e.1 == k) with | some j => L | none => L ++ [(k, 0)]
def mEnc (L : U2) : List (Value × Value) := L.map fun p => (Ev p.1, .int .i64 p.2)
structure MOk (m : Nat) (L : U2) (es : Array MapEntry) (clock : Nat) (w : World) : Prop where
  heap : w.heap[m]? = some (.map es clock)
  ents : es.toList.map (fun e => (e.key, e.val)) = mEnc L
  len : ∀ p ∈ L, p.1.1.length ≤ maxLen ∧ p.1.2.length ≤ maxLen
  nd : L.Pairwise fun a b => a.1 ≠ b.1
  born : es.toList.Pairwise fun a b => a.born ≠ b.born
  clk : ∀ e ∈ es.toList, e.born < clock
def Xg (m : Nat) (L : U2) : Ent := ⟨[m], fun w => ∃ es clock, MOk m L es clock w, fun w w' hk ⟨es, clock, h⟩ => ⟨es, clock, (hk m (by simp)).trans h.heap, h.ents, h.len, h.nd, h.born, h.clk⟩⟩
def I9 (m : Nat) (L : U2) (k : List UInt8 × List UInt8) (b : Nat) : Ent := ⟨[m], fun w => ∃ es clock, MOk m (Bq L k) es clock w ∧ ∃ (j : Nat) (e : MapEntry), es.toList[j]? = some e ∧ e.key = Ev k ∧ e.born = b,
  fun w w' hk ⟨es, clock, h, h2⟩ => ⟨es, clock, ⟨(hk m (by simp)).trans h.heap, h.ents, h.len, h.nd, h.born, h.clk⟩, h2⟩⟩
theorem Kx {L : U2} {k : List UInt8 × List UInt8} {j : Nat} {p : (List UInt8 × List UInt8) × Int} (hn : L.Pairwise fun a b => a.1 ≠ b.1) (hj : L[j]? = some p) (hp : p.1 = k) : L.findIdx? (fun e => e.1 == k) = some j := by
  obtain ⟨hlt, he⟩ := List.getElem?_eq_some_iff.1 hj
  rw [List.findIdx?_eq_some_iff_getElem]
  refine ⟨hlt, by rw [he, hp]; simp, fun i hi => ?_⟩
  have := List.pairwise_iff_getElem.1 hn i j (by omega) hlt hi
  rw [he, hp] at this
  simpa using this
theorem Lh {L : U2} {k : List UInt8 × List UInt8} (h : ∀ p ∈ L, p.1 ≠ k) : L.findIdx? (fun e => e.1 == k) = none := by
  rw [List.findIdx?_eq_none_iff]
  intro p hp
  simpa using h p hp
theorem m2put_get (L : U2) (k : List UInt8 × List UInt8) : Nx (Bq L k) k = Nx L k := by
  unfold Bq
  split
  · rfl
  · rename_i h
    unfold Nx
    rw [h]
    have hf : (L ++ [(k, (0 : Int))]).findIdx? (fun e => e.1 == k) = some L.length := by
      rw [List.findIdx?_append, h]
      simp [List.findIdx?_cons]
    rw [hf]
    simp [List.getD]
theorem m2put_set (L : U2) (k : List UInt8 × List UInt8) (v : Int) : Kw (Bq L k) k v = Kw L k v := by
  unfold Bq
  split
  · rfl
  · rename_i h
    have hf : (L ++ [(k, (0 : Int))]).findIdx? (fun e => e.1 == k) = some L.length := by
      rw [List.findIdx?_append, h]
      simp [List.findIdx?_cons]
    unfold Kw
    rw [hf, h]
    simp
section
variable {P : Program} {w : World} {m : Nat} {L : U2} {es : Array MapEntry} {clock : Nat} {T kt et : TypeId} {k : List UInt8 × List UInt8}
structure KeyT (P : Program) (kt : TypeId) : Prop where
  law : KeyLaw P kt
  key : ∀ k : List UInt8 × List UInt8, k.1.length ≤ maxLen → k.2.length ≤ maxLen → ∃ l, keyOf P kt (Ev k) = some l
theorem MOk.find (h : MOk m L es clock w) (K : KeyT P kt) (h1 : k.1.length ≤ maxLen) (h2 : k.2.length ≤ maxLen) :
    ((Instr.findKey kt (Ev k) es.toList).run P w = .ok none w ∧ L.findIdx? (fun e => e.1 == k) = none) ∨ ∃ j p e, L[j]? = some p ∧ p.1 = k ∧ es.toList[j]? = some e ∧ e.key = Ev k ∧ e.val = .int .i64 p.2 ∧ L.findIdx? (fun e => e.1 == k) = some j ∧ (Instr.findKey kt (Ev k) es.toList).run P w = .ok (some (j, .int .i64 p.2)) w := by
  obtain ⟨l, hl⟩ := K.key k h1 h2
  have get : ∀ (j : Nat) (e : MapEntry), es.toList[j]? = some e → ∃ p, L[j]? = some p ∧ e.key = Ev p.1 ∧ e.val = .int .i64 p.2 := fun j e hj => by
    have h3 := congrArg (fun x => x[j]?) h.ents
    simp only [mEnc, List.getElem?_map, hj, Option.map_some] at h3
    have h3' := h3.symm
    rw [Option.map_eq_some_iff] at h3'
    obtain ⟨p, hp, he⟩ := h3'
    injection he with e1 e2
    exact ⟨p, hp, e1.symm, e2.symm⟩
  have hes : ∀ e ∈ es.toList, ∃ l, keyOf P kt e.key = some l := fun e he => by
    obtain ⟨j, hj⟩ := List.mem_iff_getElem?.1 he
    obtain ⟨p, hp, hk, _⟩ := get j e hj
    obtain ⟨q1, q2⟩ := h.len p (List.mem_of_getElem? hp)
    rw [hk]
    exact K.key p.1 q1 q2
  rcases K.law.find w hl es.toList hes with ⟨r, hno⟩ | ⟨j, e, r, hj, hk⟩
  · left
    refine ⟨r, Lh fun p hp hpk => ?_⟩
    obtain ⟨j, hj⟩ := List.mem_iff_getElem?.1 hp
    have h3 := congrArg (fun x => x[j]?) h.ents
    simp only [mEnc, List.getElem?_map, hj, Option.map_some] at h3
    rw [Option.map_eq_some_iff] at h3
    obtain ⟨e, he, hee⟩ := h3
    injection hee with e1 _
    exact hno e (List.mem_of_getElem? he) (by rw [e1, hpk])
  · right
    obtain ⟨p, hp, hk2, hv⟩ := get j e hj
    have hpk : p.1 = k := Kv (hk2.symm.trans hk)
    exact ⟨j, p, e, hp, hpk, hj, hk, hv, Kx h.nd hp hpk, by rw [← hv]; exact r⟩
theorem H8 (h : MOk m L es clock w) (K : KeyT P kt) (hT : P.underlying T = some (.map kt et)) (hz : ∀ w, (zeroValue et).run P w = .ok (.int .i64 0) w) (h1 : k.1.length ≤ maxLen) (h2 : k.2.length ≤ maxLen) :
    (Instr.lookup T (.map (some m)) (Ev k) false).run P w = .ok (.int .i64 (Nx L k)) w := by
  obtain ⟨l, hl⟩ := K.key k h1 h2
  have hck := K.law.check w es.isEmpty hl
  unfold Nx
  rcases h.find K h1 h2 with ⟨r, hf⟩ | ⟨j, p, e, hp, hpk, hj, hk, hv, hf, r⟩
  · rw [hf]
    simp only [Instr.lookup, Sem.run_bind, run_underlying hT, Go.MapKept.run_getObj_map h.heap, hck, r, hz, Result.andThen_ok, Sem.run_pure]
    rfl
  · rw [hf]
    have : L.getD j (k, 0) = p := by simp [List.getD, hp]
    simp only [this]
    simp only [Instr.lookup, Sem.run_bind, run_underlying hT, Go.MapKept.run_getObj_map h.heap, hck, r, Result.andThen_ok, Sem.run_pure]
    rfl
end
section
variable {P : Program} {w : World} {m : Nat} {L : U2} {es : Array MapEntry} {clock : Nat} {T kt et : TypeId} {k : List UInt8 × List UInt8}
theorem MOk.push {w' : World} (h : MOk m L es clock w) (h1 : k.1.length ≤ maxLen) (h2 : k.2.length ≤ maxLen) (hf : L.findIdx? (fun e => e.1 == k) = none) (hw : w'.heap[m]? = some (.map (es.push { key := Ev k, val := .int .i64 0, born := clock }) (clock + 1))) :
    MOk m (L ++ [(k, 0)]) (es.push { key := Ev k, val := .int .i64 0, born := clock }) (clock + 1) w' := by
  refine ⟨hw, by rw [Array.toList_push, List.map_append, h.ents]; simp [mEnc], fun p hp => ?_, ?_, ?_, fun e he => ?_⟩
  · rcases List.mem_append.1 hp with hp | hp
    · exact h.len p hp
    · simp at hp; subst hp; exact ⟨h1, h2⟩
  · refine List.pairwise_append.2 ⟨h.nd, List.pairwise_singleton _ _, fun a ha b hb => ?_⟩
    simp at hb; subst hb
    rw [List.findIdx?_eq_none_iff] at hf
    simpa using hf a ha
  · rw [Array.toList_push]
    refine List.pairwise_append.2 ⟨h.born, List.pairwise_singleton _ _, fun a ha b hb => ?_⟩
    simp at hb; subst hb
    have := h.clk a ha
    show a.born ≠ clock
    omega
  · rw [Array.toList_push] at he
    rcases List.mem_append.1 he with he | he
    · have := h.clk e he; omega
    · simp at he; subst he; exact Nat.lt_succ_self _
theorem F9 {w : World} {m : Nat} {o o' : Obj} (h : w.heap[m]? = some o) : ({ w with heap := w.heap.setIfInBounds m o' } : World).heap[m]? = some o' := (Go.MapKept.heap_set h).1
theorem Ka {w : World} {m : Nat} {o o' : Obj} (h : w.heap[m]? = some o) : Mod [m] w { w with heap := w.heap.setIfInBounds m o' } :=
  ⟨rfl, rfl, rfl, by simp, fun k _ hk => (Go.MapKept.heap_set h).2 k (by simpa using hk)⟩
theorem Kb (h : MOk m L es clock w) (K : KeyT P kt) (hT : P.underlying T = some (.map kt et)) (hz : ∀ w, (zeroValue et).run P w = .ok (.int .i64 0) w) (h1 : k.1.length ≤ maxLen) (h2 : k.2.length ≤ maxLen) :
    ∃ (b : Nat) (w' : World), (Instr.mapEntry T (.map (some m)) (Ev k)).run P w = .ok (.tuple #[.int .i64 (Nx L k), .int .i64 (b : Int)]) w' ∧ Mod [m] w w' ∧ (I9 m L k b).ok w' ∧ w'.heap.size = w.heap.size := by
  obtain ⟨l, hl⟩ := K.key k h1 h2
  have hck := K.law.check w false hl
  have hst := K.law.stays w hl
  rcases h.find K h1 h2 with ⟨r, hf⟩ | ⟨j, p, e, hp, hpk, hj, hk, hv, hf, r⟩
  · refine ⟨clock, { w with heap := w.heap.setIfInBounds m (.map (es.push { key := Ev k, val := .int .i64 0, born := clock }) (clock + 1)) }, ?_, Ka h.heap, ⟨_, _, by rw [show Bq L k = L ++ [(k, 0)] by unfold Bq; rw [hf]]; exact h.push h1 h2 hf (F9 h.heap), L.length, { key := Ev k, val := .int .i64 0, born := clock }, ?_, rfl, rfl⟩, by simp⟩
    · simp only [Instr.mapEntry, Sem.run_bind, run_underlying hT, Go.MapKept.run_getObj_map h.heap, hck, r, hz, Go.MapKept.run_setObj_map _ h.heap, Result.andThen_ok, Sem.run_pure]
      rw [show Nx L k = 0 by unfold Nx; rw [hf]]
      rfl
    · have hl2 := congrArg List.length h.ents
      simp [mEnc] at hl2
      rw [Array.toList_push]
      simp [hl2]
  · have hj' : es[j]? = some e := by simpa using hj
    have hmod : es.modify j (fun e => { e with key := Ev k }) = es := by
      apply Array.ext_getElem?
      intro i
      rw [Array.getElem?_modify]
      by_cases hij : j = i
      · subst hij
        rw [if_pos rfl, hj', Option.map_some]
        rw [← hk]
      · rw [if_neg hij]
    refine ⟨e.born, { w with heap := w.heap.setIfInBounds m (.map es clock) }, ?_, Ka h.heap, ⟨es, clock, ?_, j, e, hj, hk, rfl⟩, by simp⟩
    · simp only [Instr.mapEntry, Sem.run_bind, run_underlying hT, Go.MapKept.run_getObj_map h.heap, hck, r, hj', Option.map_some, Option.getD_some, hk, hst, hmod, Go.MapKept.run_setObj_map _ h.heap, Result.andThen_ok, Sem.run_pure]
      rw [show Nx L k = p.2 by unfold Nx; rw [hf]; simp [List.getD, hp]]
      rfl
    · rw [show Bq L k = L by unfold Bq; rw [hf]]
      exact ⟨F9 h.heap, h.ents, h.len, h.nd, h.born, h.clk⟩
theorem Kc {b : Nat} {v : Int} (hp : (I9 m L k b).ok w) (h1 : k.1.length ≤ maxLen) (h2 : k.2.length ≤ maxLen) :
    ∃ w' : World, (Instr.entryStore T (.map (some m)) (.int .i64 (b : Int)) (.int .i64 v)).run P w = .ok () w' ∧ Mod [m] w w' ∧ (Xg m (Kw L k v)).ok w' ∧ w'.heap.size = w.heap.size := by
  obtain ⟨es, clock, h, j, e, hj, hk, hb⟩ := hp
  have hlt : j < es.toList.length := (List.getElem?_eq_some_iff.1 hj).1
  have hfind : es.findIdx? (fun e => (e.born : Int) == (b : Int)) = some j := by
    rw [show es = es.toList.toArray by simp, List.findIdx?_toArray, List.findIdx?_eq_some_iff_getElem]
    have he := (List.getElem?_eq_some_iff.1 hj).2
    refine ⟨hlt, by rw [he, hb]; simp, fun i hi => ?_⟩
    have := List.pairwise_iff_getElem.1 h.born i j (by omega) hlt hi
    rw [he, hb] at this
    intro hh
    have h9 : ((es.toList[i].born : Nat) : Int) = (b : Int) := eq_of_beq hh
    omega
  have get : ∃ p, (Bq L k)[j]? = some p ∧ p.1 = k := by
    have h3 := congrArg (fun x => x[j]?) h.ents
    simp only [mEnc, List.getElem?_map, hj, Option.map_some] at h3
    have h3' := h3.symm
    rw [Option.map_eq_some_iff] at h3'
    obtain ⟨p, hp, he⟩ := h3'
    injection he with e1 _
    exact ⟨p, hp, Kv (e1.trans hk)⟩
  obtain ⟨p, hp, hpk⟩ := get
  have hf := Kx h.nd hp hpk
  have hset : Kw L k v = (Bq L k).set j (k, v) := by rw [← m2put_set]; unfold Kw; rw [hf]
  refine ⟨{ w with heap := w.heap.setIfInBounds m (.map (es.modify j fun e => { e with val := .int .i64 v }) clock) }, ?_, Ka h.heap, ⟨es.modify j fun e => { e with val := .int .i64 v }, clock, ?_⟩, by simp⟩
  · simp only [Instr.entryStore, Sem.run_bind, Go.MapKept.run_getObj_map h.heap, asInt, asIntOf, Result.andThen_ok, Sem.run_pure, hfind, Go.MapKept.run_setObj_map _ h.heap]
  · have hml : (es.modify j fun e => { e with val := .int .i64 v }).toList = es.toList.modify j (fun e => { e with val := .int .i64 v }) := by simp
    refine ⟨F9 h.heap, ?_, ?_, ?_, ?_, ?_⟩
    · rw [hset, hml]
      apply List.ext_getElem?
      intro i
      have h3 := congrArg (fun x => x[i]?) h.ents
      simp only [mEnc, List.getElem?_map] at h3 ⊢
      rw [List.getElem?_modify, List.getElem?_set]
      by_cases hij : j = i
      · subst hij
        have hlt2 : j < (Bq L k).length := (List.getElem?_eq_some_iff.1 hp).1
        simp [hj, hlt2, hk]
      · simp only [if_neg hij]
        simpa using h3
    · rw [hset]
      intro q hq
      rcases List.mem_or_eq_of_mem_set hq with hq | rfl
      · exact h.len q hq
      · exact ⟨h1, h2⟩
    · rw [hset]
      rw [List.pairwise_iff_getElem]
      intro a b ha hb hab
      have hkey : ∀ (i : Nat) (hi : i < ((Bq L k).set j (k, v)).length), (((Bq L k).set j (k, v))[i]).1 = ((Bq L k)[i]'(by simpa using hi)).1 := fun i hi => by
        rw [List.getElem_set]
        split
        · rename_i hji
          subst hji
          have := (List.getElem?_eq_some_iff.1 hp).2
          rw [this, hpk]
        · rfl
      rw [hkey a ha, hkey b hb]
      exact List.pairwise_iff_getElem.1 h.nd a b (by simpa using ha) (by simpa using hb) hab
    · rw [hml, List.pairwise_iff_getElem]
      intro a b ha hb hab
      have hbn : ∀ (i : Nat) (hi : i < (es.toList.modify j (fun e => { e with val := .int .i64 v })).length), ((es.toList.modify j (fun e => { e with val := .int .i64 v }))[i]).born = (es.toList[i]'(by simpa using hi)).born := fun i hi => by
        rw [List.getElem_modify]
        split <;> rfl
      rw [hbn a ha, hbn b hb]
      exact List.pairwise_iff_getElem.1 h.born a b (by simpa using ha) (by simpa using hb) hab
    · rw [hml]
      intro q hq
      obtain ⟨i, hi, rfl⟩ := List.mem_iff_getElem.1 hq
      have hbn : ((es.toList.modify j (fun e => { e with val := .int .i64 v }))[i]).born = (es.toList[i]'(by simpa using hi)).born := by
        rw [List.getElem_modify]
        split <;> rfl
      rw [hbn]
      exact h.clk _ (List.getElem_mem _)
end
section
variable {P : Program} {n : Nat} {B : Code} {p : List Bool} {o : Nat} {K : Fr → World → Prop} {ρ : Fr} {w w0 : World} {ens : List Ent} {S : List Nat} {m : Nat} {L : U2} {dst : Option Nat} {k : List UInt8 × List UInt8}
theorem Kd {T : TypeId} (ho : G1 (Ql B p) o ρ = some (.makeMap T none, dst)) (hd : Yf n dst = true) (hs : SP S w0 w ens)
    (next : ∀ (m : Nat) (w' : World), SP S w0 w' (ens ++ [Xg m []]) → K (U9 ρ dst (.map (some m))) w') : Qj P n B p o K ρ w := by
  refine Qj.val ho hd (w' := w.alloc (.map #[] 0)) (v := .map (some w.heap.size)) (fun o hop => ?_) (next _ _ ?_)
  · unfold execOp; rw [hop]
    rfl
  · refine hs.push ((Below.refl _ _).alloc (Nat.le_refl _) _) ⟨#[], 0, heap_alloc_new w _, rfl, fun p hp => (by cases hp), List.Pairwise.nil, List.Pairwise.nil, fun e he => (by cases he)⟩ fun k hk => ?_
    have : k = w.heap.size := by simpa [Xg] using hk
    subst this
    simp
theorem D8 {T kt et : TypeId} {x ix : Operand} (ho : G1 (Ql B p) o ρ = some (.lookup T x ix false, dst)) (hd : Yf n dst = true) (hx : opv ρ x = .map (some m)) (hix : opv ρ ix = Ev k) (hT : P.underlying T = some (.map kt et)) (hK : KeyT P kt)
    (hz : ∀ w, (zeroValue et).run P w = .ok (.int .i64 0) w) (h : (Xg m L).ok w) (h1 : k.1.length ≤ maxLen) (h2 : k.2.length ≤ maxLen) (next : K (U9 ρ dst (.int .i64 (Nx L k))) w) : Qj P n B p o K ρ w := by
  obtain ⟨es, clock, h⟩ := h
  refine Qj.val ho hd (fun o hop => ?_) next
  unfold execOp; rw [hop]
  simp only [hx, hix, Sem.run_bind, H8 h hK hT hz h1 h2, Result.andThen_ok]
  rfl
theorem Ew {T kt et : TypeId} {b : Nat} {x ix : Operand} (ho : G1 (Ql B p) o ρ = some (.lookup T x ix false, dst)) (hd : Yf n dst = true) (hx : opv ρ x = .map (some m)) (hix : opv ρ ix = Ev k) (hT : P.underlying T = some (.map kt et)) (hK : KeyT P kt)
    (hz : ∀ w, (zeroValue et).run P w = .ok (.int .i64 0) w) (h : (I9 m L k b).ok w) (h1 : k.1.length ≤ maxLen) (h2 : k.2.length ≤ maxLen) (next : K (U9 ρ dst (.int .i64 (Nx L k))) w) : Qj P n B p o K ρ w := by
  obtain ⟨es, clock, h, _⟩ := h
  refine Qj.val ho hd (fun o hop => ?_) next
  unfold execOp; rw [hop]
  simp only [hx, hix, Sem.run_bind, H8 h hK hT hz h1 h2, m2put_get, Result.andThen_ok]
  rfl
theorem H9 {T kt et : TypeId} {x ix : Operand} {i : Nat} (ho : G1 (Ql B p) o ρ = some (.mapEntry T x ix, dst)) (hd : Yf n dst = true) (hx : opv ρ x = .map (some m)) (hix : opv ρ ix = Ev k) (hT : P.underlying T = some (.map kt et)) (hK : KeyT P kt)
    (hz : ∀ w, (zeroValue et).run P w = .ok (.int .i64 0) w) (hs : SP S w0 w ens) (hi : ens[i]? = some (Xg m L)) (h1 : k.1.length ≤ maxLen) (h2 : k.2.length ≤ maxLen)
    (next : ∀ (b : Nat) (w' : World), SP S w0 w' (ens.set i (I9 m L k b)) → K (U9 ρ dst (.tuple #[.int .i64 (Nx L k), .int .i64 (b : Int)])) w') : Qj P n B p o K ρ w := by
  obtain ⟨es, clock, h⟩ := hs.get hi
  obtain ⟨b, w', hr, hm, hok, hsz⟩ := Kb h hK hT hz h1 h2
  refine Qj.val ho hd (w' := w') (v := .tuple #[.int .i64 (Nx L k), .int .i64 (b : Int)]) (fun o hop => ?_) (next b w' ?_)
  · unfold execOp; rw [hop]
    simp only [hx, hix, Sem.run_bind, hr, Result.andThen_ok]
    rfl
  · refine hs.set hi (T := [m]) hm (fun k hk => hk) hok fun k hk => ⟨.inl hk, ?_⟩
    have := (hs.own.get hi).2 k hk
    omega
theorem Ia {T : TypeId} {x ix y : Operand} {i b : Nat} {v : Int} (ho : G1 (Ql B p) o ρ = some (.entryStore T x ix y, dst)) (hd : Yf n dst = true) (hx : opv ρ x = .map (some m)) (hix : opv ρ ix = .int .i64 (b : Int)) (hy : opv ρ y = .int .i64 v)
    (hs : SP S w0 w ens) (hi : ens[i]? = some (I9 m L k b)) (h1 : k.1.length ≤ maxLen) (h2 : k.2.length ≤ maxLen)
    (next : ∀ (w' : World), SP S w0 w' (ens.set i (Xg m (Kw L k v))) → K (U9 ρ dst undef) w') : Qj P n B p o K ρ w := by
  obtain ⟨w', hr, hm, hok, hsz⟩ := Kc (T := T) (P := P) (v := v) (hs.get hi) h1 h2
  refine Bv ho hd (w' := w') (fun o hop => ?_) (next w' ?_)
  · unfold execOp; rw [hop]
    simp only [hx, hix, hy, Sem.run_bind, hr, Result.andThen_ok]
    rfl
  · refine hs.set hi (T := [m]) hm (fun k hk => hk) hok fun k hk => ⟨.inl hk, ?_⟩
    have := (hs.own.get hi).2 k hk
    omega
end
theorem Ic {a b : List UInt8} (h : (Nat.ble (List.length a) 140737488355328 && Nat.ble (List.length b) 140737488355328) = true) : a.length ≤ maxLen ∧ b.length ≤ maxLen := by
  rw [Bool.and_eq_true] at h
  have hm : 140737488355328 ≤ maxLen := by decide
  exact ⟨Nat.le_trans (Nat.le_of_ble_eq_true h.1) hm, Nat.le_trans (Nat.le_of_ble_eq_true h.2) hm⟩
theorem Dd : KeyT Tryz.prog 83 := by
  have hA : ArrKey Tryz.prog 83 9 2 := ⟨by kernel_rfl, by kernel_rfl, by kernel_rfl, by kernel_rfl⟩
  refine ⟨hA.law, fun k h1 h2 => ?_⟩
  have hs1 : (⟨k.1.toArray⟩ : ByteArray).size ≤ maxLen := by rw [Gd]; exact h1
  have hs2 : (⟨k.2.toArray⟩ : ByteArray).size ≤ maxLen := by rw [Gd]; exact h2
  unfold keyOf
  rw [hA.hu]
  have hkt : Tryz.prog.keyType 83 = true := by kernel_rfl
  have hfm : (Ev k).formed Tryz.prog 83 = true := by kernel_rfl
  simp only [hkt, hfm, Bool.and_self, if_true]
  have hkl : ∃ ls, Tryz.prog.keyLits (Tryz.prog.types.size + 1) 83 (Ev k).cells.toList = some ls := by
    obtain ⟨N, hN⟩ : ∃ N, Tryz.prog.types.size = N + 1 := ⟨Tryz.prog.types.size - 1, by kernel_rfl⟩
    rw [hN]
    unfold Program.keyLits
    rw [hA.hu]
    simp only [hA.size, hA.one]
    have hst : Tryz.prog.underlying 9 = some .string := by kernel_rfl
    have e1 : Tryz.prog.keyLits (N + 1) 9 [.string ⟨k.1.toArray⟩] = some [.string k.1] := by
      unfold Program.keyLits
      rw [hst]
      simp [hs1]
    have e2 : Tryz.prog.keyLits (N + 1) 9 [.string ⟨k.2.toArray⟩] = some [.string k.2] := by
      unfold Program.keyLits
      rw [hst]
      simp [hs2]
    refine ⟨[.string k.1, .string k.2], ?_⟩
    simp [Ev, Value.cells, List.range_succ, e1, e2]
  obtain ⟨ls, hls⟩ := hkl
  exact ⟨_, by rw [hls]; rfl⟩
end Go.Proofs.YtmgfanhcdfobhaaGreatDoor
namespace Go.Proofs.YtmgfanhcdfobhaaGreatDoor
abbrev KeyL := List UInt8 × List UInt8
theorem mget_nil (k : KeyL) : Nx [] k = 0 := rfl
theorem D2 (e : KeyL × Int) (L : U2) (k : KeyL) : Nx (e :: L) k = if e.1 = k then e.2 else Nx L k := by
  unfold Nx
  rw [List.findIdx?_cons]
  by_cases h : e.1 = k
  · rw [if_pos h, if_pos (by simpa using h)]
    simp [List.getD]
  · rw [if_neg h, if_neg (by simpa using h)]
    cases hf : L.findIdx? (fun e => e.1 == k) with
    | none => rfl
    | some j => simp [List.getD]
theorem mset_nil (k : KeyL) (v : Int) : Kw [] k v = [(k, v)] := rfl
theorem mset_cons (e : KeyL × Int) (L : U2) (k : KeyL) (v : Int) : Kw (e :: L) k v = if e.1 = k then (k, v) :: L else e :: Kw L k v := by
  unfold Kw
  rw [List.findIdx?_cons]
  by_cases h : e.1 = k
  · rw [if_pos h, if_pos (by simpa using h)]
    simp
  · rw [if_neg h, if_neg (by simpa using h)]
    cases hf : L.findIdx? (fun e => e.1 == k) with
    | none => simp
    | some j => simp
theorem Ex : ∀ (L : U2) (k k' : KeyL) (v : Int), Nx (Kw L k v) k' = if k = k' then v else Nx L k'
  | [], k, k', v => by
    rw [mset_nil, D2]
  | e :: L, k, k', v => by
    rw [mset_cons]
    by_cases h : e.1 = k
    · rw [if_pos h, D2, D2, h]
      by_cases h2 : k = k'
      · rw [if_pos h2, if_pos h2]
      · rw [if_neg h2, if_neg h2, if_neg h2]
    · rw [if_neg h, D2, D2, Ex L k k' v]
      by_cases h2 : e.1 = k'
      · rw [if_pos h2, if_pos h2, if_neg (fun h3 => h (h2.trans h3.symm))]
      · rw [if_neg h2, if_neg h2]
end Go.Proofs.YtmgfanhcdfobhaaGreatDoor
namespace Go.Proofs.YtmgfanhcdfobhaaGreatDoor
open Go.RowKit
def Uw (a : (List UInt8)) (c : Int) (d : Int) (e : (List (Int × Int))) (f : (List ((List UInt8) × (List UInt8) × Int))) (b : (List UInt8)) : Option (Bool) :=
  (some ((a == b)))
set_option maxRecDepth 100000 in
set_option maxHeartbeats 4000000 in
theorem Ba (A5 : Option Addr) (c6 : Nat) (A9 : Option Addr) (j : Nat) (l : Nat) (c : (List UInt8)) (m : Int) (o : Int) (h : (List (Int × Int))) (i : (List ((List UInt8) × (List UInt8) × Int))) (f : (List UInt8)) (w0 : World) (u : RdT (Qe (Qc .u32) (Qc .i64)) w0 A5 c6 h) (w : RdT (Qe Qw (Qe Qw (Qc .i64))) w0 A9 j i) (hg13 : w0.heap[l]? = some (.cells #[(.string ⟨List.toArray f⟩)] 9 (0, 0))) (r : (Bool)) (H : Uw c m o h i f = some r) :
  Calls Tryz.prog 88 #[(.agg #[(.string ⟨List.toArray c⟩), (.int .i64 m), (.int .i64 o), (.slice A5 (List.length h) c6), (.slice A9 (List.length i) j)]), (pt l 0)] w0 (fun e w' => e = .returned (.bool r) ∧ SP [] w0 w' []) := by
 unfold Uw at H
 refine Qv (n := 8) Tryz.func88 K K K ?_
 have s := Q1 [] w0
 refine aQ ?_
 refine aR ?_
 refine iS 1 ?_
 refine Za (t := 44) (x := (.tmp 0)) (v := (.agg #[(.string ⟨List.toArray c⟩), (.int .i64 m), (.int .i64 o), (.slice A5 (List.length h) c6), (.slice A9 (List.length i) j)])) (d := (some 2)) (k := 0) K rfl K s ?_
 intro q z p
 refine iR 1 2 [(3, (.bool false))] ?_
 refine iF ?_
 refine aQ ?_
 refine aR ?_
 refine iR 1 1 [(4, (pt q 0))] ?_
 refine iS 2 ?_
 refine sL 9 4 q 0 0 (.string ⟨List.toArray c⟩) 5 p rfl ?_
 refine iS 3 ?_
 refine Ff (t := 9) (t' := 9) (x := (.tmp 1)) (g := l) (off := 0) (cs := #[(.string ⟨List.toArray f⟩)]) (v := (.string ⟨List.toArray f⟩)) (d := (some 6)) (k := 2) K rfl K (Bw hg13 (SP.keeps p)) K ?_
 refine iS 4 ?_
 refine X6 (op := .eql) (T := 9) (T' := 9) (x := (.tmp 5)) (y := (.tmp 6)) (a := c) (b := f) (r := (.bool (c == f))) (d := (some 7)) (k := 3) K rfl K K rfl ?_
 refine iR 1 5 [(3, (.bool (c == f)))] ?_
 refine iF ?_
 refine At.ret K ?_
 refine ⟨(.bool (c == f)), K, ?_⟩
 obtain rfl := Qm H
 exact ⟨rfl, SP.sel p [] rfl rfl⟩
def J9 (e : Int) (f : Int) (g : Int) (h : Int) (b : (List Qk)) (d : (List UInt8)) : Option ((List UInt8) × Int × Int × (List (Int × Int)) × (List ((List UInt8) × (List UInt8) × Int)) × Bool) :=
  ((Va b (fun y0 y1 y2 y3 y4 => Uw y0 y1 y2 y3 y4 d)).bind fun c => (cond (decide (c < 0)) (some (([] : List UInt8), 0, 0, ([] : List (Int × Int)), ([] : List ((List UInt8) × (List UInt8) × Int)), false)) ((idx b c).bind fun a => (some (a.1, a.2.1, a.2.2.1, a.2.2.2.1, a.2.2.2.2, true)))))
set_option maxRecDepth 100000 in
set_option maxHeartbeats 4000000 in
theorem N4 {R : World → Prop} (A6 : Option Addr) (c7 : Nat) (a1 : Int) (a2 : Int) (a3 : Int) (a4 : Int) (d9 : (List Vp)) (j : (List UInt8)) (w0 : World) (hR : ∀ w, Below w0.heap.size w0 w → R w) (m : ∀ w, R w → (dDS Nm E2).ok w (A6, c7, d9)) (r : ((List UInt8) × Int × Int × (List (Int × Int)) × (List ((List UInt8) × (List UInt8) × Int)) × Bool)) (H : J9 a1 a2 a3 a4 (List.map stT d9) j = some r) :
  Calls Tryz.prog 67 #[(.agg #[(.int .i64 a1), (.int .i64 a2), (.int .i64 a3), (.int .i64 a4), (.slice A6 (List.length (List.map stT d9)) c7)]), (.string ⟨List.toArray j⟩)] w0 (fun e w' => ∃ (a8 : Option Addr) (a9 : Nat) (b0 : Option Addr) (b1 : Nat), e = .returned (.tuple #[(.agg #[(.string ⟨List.toArray r.1⟩), (.int .i64 r.2.1), (.int .i64 r.2.2.1), (.slice a8 (List.length r.2.2.2.1) a9), (.slice b0 (List.length r.2.2.2.2.1) b1)]), (.bool r.2.2.2.2.2)]) ∧ (∀ w, R w → RdT (Qe (Qc .u32) (Qc .i64)) w a8 a9 r.2.2.2.1) ∧ (∀ w, R w → RdT (Qe Qw (Qe Qw (Qc .i64))) w b0 b1 r.2.2.2.2.1) ∧ SP [] w0 w' []) := by
 unfold J9 at H
 refine Qv (n := 19) Tryz.func67 K K K ?_
 have b8 := Q1 [] w0
 refine aQ ?_
 refine aR ?_
 refine iS 1 ?_
 refine Za (t := 24) (x := (.tmp 0)) (v := (.agg #[(.int .i64 a1), (.int .i64 a2), (.int .i64 a3), (.int .i64 a4), (.slice A6 (List.length (List.map stT d9)) c7)])) (d := (some 2)) (k := 0) K rfl K b8 ?_
 intro q c5 b9
 refine iS 2 ?_
 refine Za (t := 9) (x := (.tmp 1)) (v := (.string ⟨List.toArray j⟩)) (d := (some 3)) (k := 1) K rfl K b9 ?_
 intro s c6 c0
 refine iS 3 ?_
 refine Qj.alloc (t := 44) (z := (.agg #[(.string ⟨List.toArray ([] : List UInt8)⟩), (.int .i64 0), (.int .i64 0), (.slice none (List.length ([] : List (Int × Int))) 0), (.slice none (List.length ([] : List ((List UInt8) × (List UInt8) × Int))) 0)])) (d := (some 4)) (k := 2) K rfl K c0 ?_
 intro u a5 a0
 refine iR 1 4 [(5, (.bool false))] ?_
 refine iF ?_
 refine aQ ?_
 refine aR ?_
 refine iR 1 1 [(7, (pt q 4))] ?_
 refine iS 2 ?_
 refine sL 22 7 q 4 0 (.slice A6 (List.length (List.map stT d9)) c7) 8 a0 rfl ?_
 refine iR 1 3 [(9, (.func (.func 88) #[] #[(pt s 0)]))] ?_
 obtain ⟨h, c1, H⟩ := Qg H
 refine iS 4 ?_
 refine cF 76 #[(.tmp 8), (.tmp 9)] #[22, 102] 10 Tryz.call76 (Xr A6 c7 88 #[(pt s 0)] d9 (fun y0 y1 y2 y3 y4 => Uw y0 y1 y2 y3 y4 j) a5 (m a5 (hR _ (SP.keeps a0))) Tryz.call88 (fun y0 y1 y2 y3 y4 z w Ay3 cy3 Ay4 cy4 hw hy3 hy4 hz => Ba Ay3 cy3 Ay4 cy4 s y0 y1 y2 y3 y4 j w hy3 hy4 (Bw (show a5.heap[s]? = some (.cells #[(.string ⟨List.toArray j⟩)] 9 (0, 0)) from SP.get a0 (i := 1) rfl) hw) z hz) h c1) ?_
 rintro e b2 ⟨rfl, b3⟩
 refine ⟨_, rfl, ?_⟩
 have p := SP.call a0 b3
 clear b3
 refine iR 1 5 [(6, (.int .i64 h))] ?_
 refine iF ?_
 refine aQ ?_
 refine aQ ?_
 refine aR ?_
 refine iR 2 2 [(11, (.int .i64 h)), (12, (.bool (decide (h < 0))))] ?_
 refine iF ?_
 refine Zs K (o := (.tmp 12)) K (b := (decide (h < 0))) K (fun a6 => ?_) (fun a6 => ?_)
 ·have H := ct H a6
  refine aQ ?_
  refine aR ?_
  refine iR 1 1 [(13, (.agg #[(.string ⟨List.toArray ([] : List UInt8)⟩), (.int .i64 0), (.int .i64 0), (.slice none (List.length ([] : List (Int × Int))) 0), (.slice none (List.length ([] : List ((List UInt8) × (List UInt8) × Int))) 0)]))] ?_
  refine iS 2 ?_
  refine Qj.store (t := 44) (x := (.tmp 4)) (y := (.tmp 13)) (g := u) (off := 0) (i := 2) (v := (.agg #[(.string ⟨List.toArray ([] : List UInt8)⟩), (.int .i64 0), (.int .i64 0), (.slice none (List.length ([] : List (Int × Int))) 0), (.slice none (List.length ([] : List ((List UInt8) × (List UInt8) × Int))) 0)])) (cs' := #[(.string ⟨List.toArray ([] : List UInt8)⟩), (.int .i64 0), (.int .i64 0), (.slice none (List.length ([] : List (Int × Int))) 0), (.slice none (List.length ([] : List ((List UInt8) × (List UInt8) × Int))) 0)]) (d := none) (k := 1) K rfl K K p rfl K ?_
  intro c8 b4
  refine iR 1 3 [(5, (.bool false))] ?_
  refine iF ?_
  refine At.ret K ?_
  refine ⟨(.tuple #[(.agg #[(.string ⟨List.toArray ([] : List UInt8)⟩), (.int .i64 0), (.int .i64 0), (.slice none (List.length ([] : List (Int × Int))) 0), (.slice none (List.length ([] : List ((List UInt8) × (List UInt8) × Int))) 0)]), (.bool false)]), Hl K (Rx (a := 4) (t := 44) (g := u) (off := 0) K (SP.get b4 (i := 2) rfl) K) (Cx (t := 5) K), ?_⟩
  obtain rfl := Qm H
  exact ⟨none, 0, none, 0, rfl, (fun w _ => RdT.nil (Qe (Qc .u32) (Qc .i64)) w), (fun w _ => RdT.nil (Qe Qw (Qe Qw (Qc .i64))) w), SP.sel b4 [] rfl rfl⟩
 ·have H := cf H a6
  refine At.skip K ?_
  refine aQ ?_
  refine aR ?_
  refine iR 1 1 [(14, (pt q 4))] ?_
  refine iS 2 ?_
  refine sL 22 14 q 4 0 (.slice A6 (List.length (List.map stT d9)) c7) 15 p rfl ?_
  refine iR 1 3 [(16, (.int .i64 h))] ?_
  obtain ⟨f, b5, b6, a7, H⟩ := Gw H
  refine iS 4 ?_
  refine Nq stT (e := Nm) (l := d9) (A := A6) (c := c7) (T := 22) (E := 44) (x := (.tmp 15)) (ix := (.tmp 16)) (ki := .i64) (iz := h) (d := (some 17)) (k := 3) K rfl K K K K ((fun w hm => (Nw (m w hm))) b2 (hR _ (SP.keeps p))) b5 b6 ?_
  intro c2 c3 c4 c9 hc46
  refine iS 5 ?_
  refine Qj.cells (t := 44) (x := (.tmp 17)) (b := c2) (off := (c3 + Int.toNat h * Nm.sz)) (xs := [(.string ⟨List.toArray (stT f).1⟩), (.int .i64 (stT f).2.1), (.int .i64 (stT f).2.2.1), (.slice f.2.2.2.1.1 (List.length (stT f).2.2.2.1) f.2.2.2.1.2.1), (.slice f.2.2.2.2.1 (List.length (stT f).2.2.2.2) f.2.2.2.2.2.1)]) (d := (some 18)) (k := 4) K rfl K K K (Xw (e := Nm) (Qf ((fun w hm => (Nw (m w hm))) b2 (hR _ (SP.keeps p))) c4 b5 b6) a7 rfl) ?_
  refine iS 6 ?_
  refine Qj.store (t := 44) (x := (.tmp 4)) (y := (.tmp 18)) (g := u) (off := 0) (i := 2) (v := (.agg #[(.string ⟨List.toArray (stT f).1⟩), (.int .i64 (stT f).2.1), (.int .i64 (stT f).2.2.1), (.slice f.2.2.2.1.1 (List.length (stT f).2.2.2.1) f.2.2.2.1.2.1), (.slice f.2.2.2.2.1 (List.length (stT f).2.2.2.2) f.2.2.2.2.2.1)])) (cs' := #[(.string ⟨List.toArray (stT f).1⟩), (.int .i64 (stT f).2.1), (.int .i64 (stT f).2.2.1), (.slice f.2.2.2.1.1 (List.length (stT f).2.2.2.1) f.2.2.2.1.2.1), (.slice f.2.2.2.2.1 (List.length (stT f).2.2.2.2) f.2.2.2.2.2.1)]) (d := none) (k := 5) K rfl K K p rfl K ?_
  intro d0 b7
  refine iR 1 7 [(5, (.bool true))] ?_
  refine iF ?_
  refine At.ret K ?_
  refine ⟨(.tuple #[(.agg #[(.string ⟨List.toArray (stT f).1⟩), (.int .i64 (stT f).2.1), (.int .i64 (stT f).2.2.1), (.slice f.2.2.2.1.1 (List.length (stT f).2.2.2.1) f.2.2.2.1.2.1), (.slice f.2.2.2.2.1 (List.length (stT f).2.2.2.2) f.2.2.2.2.2.1)]), (.bool true)]), Hl K (Rx (a := 4) (t := 44) (g := u) (off := 0) K (SP.get b7 (i := 2) rfl) K) (Cx (t := 5) K), ?_⟩
  obtain rfl := Qm H
  exact ⟨f.2.2.2.1.1, f.2.2.2.1.2.1, f.2.2.2.2.1, f.2.2.2.2.2.1, rfl, (fun w hm => (Nw ((fun w hm => (dp1 (dp2 (dp2 (dp2 (B8 (m w hm) a7)))))) w hm))), (fun w hm => (Nw ((fun w hm => (dp2 (dp2 (dp2 (dp2 (B8 (m w hm) a7)))))) w hm))), SP.sel b7 [] rfl rfl⟩
def Uh (a : (List UInt8)) (b : (List UInt8)) (c : Int) (c6 : (List UInt8)) : Option (Bool) :=
  (some ((a == c6)))
set_option maxRecDepth 100000 in
set_option maxHeartbeats 4000000 in
theorem D3 (g4 : Nat) (c : (List UInt8)) (f : (List UInt8)) (h : Int) (c6 : (List UInt8)) (w0 : World) (hg5 : w0.heap[g4]? = some (.cells #[(.string ⟨List.toArray c6⟩)] 9 (0, 0))) (r : (Bool)) (H : Uh c f h c6 = some r) :
  Calls Tryz.prog 90 #[(.agg #[(.string ⟨List.toArray c⟩), (.string ⟨List.toArray f⟩), (.int .i64 h)]), (pt g4 0)] w0 (fun e w' => e = .returned (.bool r) ∧ SP [] w0 w' []) := by
 unfold Uh at H
 refine Qv (n := 8) Tryz.func90 K K K ?_
 have j := Q1 [] w0
 refine aQ ?_
 refine aR ?_
 refine iS 1 ?_
 refine Za (t := 48) (x := (.tmp 0)) (v := (.agg #[(.string ⟨List.toArray c⟩), (.string ⟨List.toArray f⟩), (.int .i64 h)])) (d := (some 2)) (k := 0) K rfl K j ?_
 intro g7 w8 i
 refine iR 1 2 [(3, (.bool false))] ?_
 refine iF ?_
 refine aQ ?_
 refine aR ?_
 refine iR 1 1 [(4, (pt g7 0))] ?_
 refine iS 2 ?_
 refine sL 9 4 g7 0 0 (.string ⟨List.toArray c⟩) 5 i rfl ?_
 refine iS 3 ?_
 refine Ff (t := 9) (t' := 9) (x := (.tmp 1)) (g := g4) (off := 0) (cs := #[(.string ⟨List.toArray c6⟩)]) (v := (.string ⟨List.toArray c6⟩)) (d := (some 6)) (k := 2) K rfl K (Bw hg5 (SP.keeps i)) K ?_
 refine iS 4 ?_
 refine X6 (op := .eql) (T := 9) (T' := 9) (x := (.tmp 5)) (y := (.tmp 6)) (a := c) (b := c6) (r := (.bool (c == c6))) (d := (some 7)) (k := 3) K rfl K K rfl ?_
 refine iR 1 5 [(3, (.bool (c == c6)))] ?_
 refine iF ?_
 refine At.ret K ?_
 refine ⟨(.bool (c == c6)), K, ?_⟩
 obtain rfl := Qm H
 exact ⟨rfl, SP.sel i [] rfl rfl⟩
def Js (e : (List UInt8)) (f : Int) (g : Int) (h : (List (Int × Int))) (b : (List ((List UInt8) × (List UInt8) × Int))) (d : (List UInt8)) : Option ((List UInt8) × (List UInt8) × Int × Bool) :=
  ((Vc b (fun y0 y1 y2 => Uh y0 y1 y2 d)).bind fun c => (cond (decide (c < 0)) (some (([] : List UInt8), ([] : List UInt8), 0, false)) ((idx b c).bind fun a => (some (a.1, a.2.1, a.2.2, true)))))
set_option maxRecDepth 100000 in
set_option maxHeartbeats 4000000 in
theorem No (A5 : Option Addr) (c6 : Nat) (A9 : Option Addr) (m : Nat) (a3 : (List UInt8)) (a4 : Int) (a5 : Int) (s : (List (Int × Int))) (h : (List ((List UInt8) × (List UInt8) × Int))) (p : (List UInt8)) (w0 : World) (c2 : RdT (Qe (Qc .u32) (Qc .i64)) w0 A5 c6 s) (a6 : RdT (Qe Qw (Qe Qw (Qc .i64))) w0 A9 m h) (r : ((List UInt8) × (List UInt8) × Int × Bool)) (H : Js a3 a4 a5 s h p = some r) :
  Calls Tryz.prog 68 #[(.agg #[(.string ⟨List.toArray a3⟩), (.int .i64 a4), (.int .i64 a5), (.slice A5 (List.length s) c6), (.slice A9 (List.length h) m)]), (.string ⟨List.toArray p⟩)] w0 (fun e w' => e = .returned (.tuple #[(.agg #[(.string ⟨List.toArray r.1⟩), (.string ⟨List.toArray r.2.1⟩), (.int .i64 r.2.2.1)]), (.bool r.2.2.2)]) ∧ SP [] w0 w' []) := by
 unfold Js at H
 refine Qv (n := 19) Tryz.func68 K K K ?_
 have b4 := Q1 [] w0
 refine aQ ?_
 refine aR ?_
 refine iS 1 ?_
 refine Za (t := 44) (x := (.tmp 0)) (v := (.agg #[(.string ⟨List.toArray a3⟩), (.int .i64 a4), (.int .i64 a5), (.slice A5 (List.length s) c6), (.slice A9 (List.length h) m)])) (d := (some 2)) (k := 0) K rfl K b4 ?_
 intro u c3 b5
 refine iS 2 ?_
 refine Za (t := 9) (x := (.tmp 1)) (v := (.string ⟨List.toArray p⟩)) (d := (some 3)) (k := 1) K rfl K b5 ?_
 intro a0 c4 b6
 refine iS 3 ?_
 refine Qj.alloc (t := 48) (z := (.agg #[(.string ⟨List.toArray ([] : List UInt8)⟩), (.string ⟨List.toArray ([] : List UInt8)⟩), (.int .i64 0)])) (d := (some 4)) (k := 2) K rfl K b6 ?_
 intro a1 a8 a2
 refine iR 1 4 [(5, (.bool false))] ?_
 refine iF ?_
 refine aQ ?_
 refine aR ?_
 refine iR 1 1 [(7, (pt u 4))] ?_
 refine iS 2 ?_
 refine sL 42 7 u 4 0 (.slice A9 (List.length h) m) 8 a2 rfl ?_
 refine iR 1 3 [(9, (.func (.func 90) #[] #[(pt a0 0)]))] ?_
 obtain ⟨j, b7, H⟩ := Qg H
 refine iS 4 ?_
 refine cF 89 #[(.tmp 8), (.tmp 9)] #[42, 117] 10 Tryz.call89 (Xy A9 m 90 #[(pt a0 0)] h (fun y0 y1 y2 => Uh y0 y1 y2 p) a8 (RdT.sp a6 a2) Tryz.call90 (fun y0 y1 y2 z w  hw  hz => D3 a0 y0 y1 y2 p w (Bw (show a8.heap[a0]? = some (.cells #[(.string ⟨List.toArray p⟩)] 9 (0, 0)) from SP.get a2 (i := 1) rfl) hw) z hz) j b7) ?_
 rintro e c5 ⟨rfl, a9⟩
 refine ⟨_, rfl, ?_⟩
 have q := SP.call a2 a9
 clear a9
 refine iR 1 5 [(6, (.int .i64 j))] ?_
 refine iF ?_
 refine aQ ?_
 refine aQ ?_
 refine aR ?_
 refine iR 2 2 [(11, (.int .i64 j)), (12, (.bool (decide (j < 0))))] ?_
 refine iF ?_
 refine Zs K (o := (.tmp 12)) K (b := (decide (j < 0))) K (fun a7 => ?_) (fun a7 => ?_)
 ·have H := ct H a7
  refine aQ ?_
  refine aR ?_
  refine iR 1 1 [(13, (.agg #[(.string ⟨List.toArray ([] : List UInt8)⟩), (.string ⟨List.toArray ([] : List UInt8)⟩), (.int .i64 0)]))] ?_
  refine iS 2 ?_
  refine Qj.store (t := 48) (x := (.tmp 4)) (y := (.tmp 13)) (g := a1) (off := 0) (i := 2) (v := (.agg #[(.string ⟨List.toArray ([] : List UInt8)⟩), (.string ⟨List.toArray ([] : List UInt8)⟩), (.int .i64 0)])) (cs' := #[(.string ⟨List.toArray ([] : List UInt8)⟩), (.string ⟨List.toArray ([] : List UInt8)⟩), (.int .i64 0)]) (d := none) (k := 1) K rfl K K q rfl K ?_
  intro w32 b0
  refine iR 1 3 [(5, (.bool false))] ?_
  refine iF ?_
  refine At.ret K ?_
  refine ⟨(.tuple #[(.agg #[(.string ⟨List.toArray ([] : List UInt8)⟩), (.string ⟨List.toArray ([] : List UInt8)⟩), (.int .i64 0)]), (.bool false)]), Hl K (Rx (a := 4) (t := 48) (g := a1) (off := 0) K (SP.get b0 (i := 2) rfl) K) (Cx (t := 5) K), ?_⟩
  obtain rfl := Qm H
  exact ⟨rfl, SP.sel b0 [] rfl rfl⟩
 ·have H := cf H a7
  refine At.skip K ?_
  refine aQ ?_
  refine aR ?_
  refine iR 1 1 [(14, (pt u 4))] ?_
  refine iS 2 ?_
  refine sL 42 14 u 4 0 (.slice A9 (List.length h) m) 15 q rfl ?_
  refine iR 1 3 [(16, (.int .i64 j))] ?_
  obtain ⟨f, b1, b2, b8, H⟩ := Qn H
  refine iS 4 ?_
  refine Vi (e := (Qe Qw (Qe Qw (Qc .i64)))) (l := h) (A := A9) (c := m) (T := 42) (E := 48) (x := (.tmp 15)) (ix := (.tmp 16)) (ki := .i64) (iz := j) (d := (some 17)) (k := 3) K rfl K K K K (RdT.sp a6 q) b1 b2 ?_
  intro b9 c0 c1 c7 hc41
  refine iS 5 ?_
  refine Qj.cells (t := 48) (x := (.tmp 17)) (b := b9) (off := (c0 + Int.toNat j * (Qe Qw (Qe Qw (Qc .i64))).sz)) (xs := [(.string ⟨List.toArray f.1⟩), (.string ⟨List.toArray f.2.1⟩), (.int .i64 f.2.2)]) (d := (some 18)) (k := 4) K rfl K K K (Xw (e := (Qe Qw (Qe Qw (Qc .i64)))) (Qf (RdT.sp a6 q) c1 b1 b2) b8 rfl) ?_
  refine iS 6 ?_
  refine Qj.store (t := 48) (x := (.tmp 4)) (y := (.tmp 18)) (g := a1) (off := 0) (i := 2) (v := (.agg #[(.string ⟨List.toArray f.1⟩), (.string ⟨List.toArray f.2.1⟩), (.int .i64 f.2.2)])) (cs' := #[(.string ⟨List.toArray f.1⟩), (.string ⟨List.toArray f.2.1⟩), (.int .i64 f.2.2)]) (d := none) (k := 5) K rfl K K q rfl K ?_
  intro c8 b3
  refine iR 1 7 [(5, (.bool true))] ?_
  refine iF ?_
  refine At.ret K ?_
  refine ⟨(.tuple #[(.agg #[(.string ⟨List.toArray f.1⟩), (.string ⟨List.toArray f.2.1⟩), (.int .i64 f.2.2)]), (.bool true)]), Hl K (Rx (a := 4) (t := 48) (g := a1) (off := 0) K (SP.get b3 (i := 2) rfl) K) (Cx (t := 5) K), ?_⟩
  obtain rfl := Qm H
  exact ⟨rfl, SP.sel b3 [] rfl rfl⟩
end Go.Proofs.YtmgfanhcdfobhaaGreatDoor
namespace Go.Proofs.YtmgfanhcdfobhaaGreatDoor
open Go.RowKit
def De (c : UInt8 → Int → Option (Bool)) (p1 : (List UInt8)) (p5 : (List UInt8)) (b : UInt8) (a : Int) : Option (Bool) :=
  (cond (decide (a < ((List.length p1 : Nat) : Int))) ((idx p1 a).bind fun d => ((idx p5 a).bind fun e => (c (G3 (bOr .u8 ((b).toNat : Int) (Vt .u8 ((d).toNat : Int) ((e).toNat : Int)))) (IntKind.wrap .i64 (a + 1))))) (some ((((b).toNat : Int) == 0))))
def Gt (p1 : (List UInt8)) (p5 : (List UInt8)) : Nat → UInt8 → Int → Option (Bool)
  | 0, _, _ => none
  | f + 1, a, b => De  (Gt p1 p5 f) p1 p5 a b
def Cs (p1 : (List UInt8)) (p5 : (List UInt8)) : Option (Bool) :=
  (cond (((List.length p1 : Nat) : Int) != ((List.length p5 : Nat) : Int)) (some (false)) (Gt p1 p5 Zd (0 : UInt8) 0))
set_option maxRecDepth 100000 in
set_option maxHeartbeats 4000000 in
theorem Ey (A2 : Option Addr) (c3 : Nat) (A6 : Option Addr) (c7 : Nat) (p1 : (List UInt8)) (p5 : (List UInt8)) (w0 : World) (p : RdT eU8 w0 A2 c3 p1) (q : RdT eU8 w0 A6 c7 p5) (r : (Bool)) (H : Cs p1 p5 = some r) :
  Calls Tryz.prog 52 #[(.slice A2 (List.length p1) c3), (.slice A6 (List.length p5) c7)] w0 (fun e w' => e = .returned (.bool r) ∧ SP [] w0 w' []) := by
 unfold Cs at H
 refine Qv (n := 31) Tryz.func52 K K K ?_
 have s := Q1 [] w0
 refine aQ ?_
 refine aR ?_
 refine iR 1 1 [(4, (.bool false))] ?_
 refine iF ?_
 refine aQ ?_
 refine aQ ?_
 refine aR ?_
 refine iR 5 5 [(7, (.slice A2 (List.length p1) c3)), (8, (.int .i64 ((List.length p1 : Nat) : Int))), (9, (.slice A6 (List.length p5) c7)), (10, (.int .i64 ((List.length p5 : Nat) : Int))), (11, (.bool (((List.length p1 : Nat) : Int) != ((List.length p5 : Nat) : Int))))] ?_
 refine iF ?_
 refine Zs K (o := (.tmp 11)) K (b := (((List.length p1 : Nat) : Int) != ((List.length p5 : Nat) : Int))) K (fun i => ?_) (fun i => ?_)
 ·have H := ct H i
  refine aQ ?_
  refine aR ?_
  refine iR 1 1 [(4, (.bool false))] ?_
  refine iF ?_
  refine At.ret K ?_
  refine ⟨(.bool false), K, ?_⟩
  obtain rfl := Qm H
  exact ⟨rfl, SP.sel s [] rfl rfl⟩
 ·have H := cf H i
  refine At.skip K ?_
  refine aQ ?_
  refine aR ?_
  refine iR 1 1 [(5, (.int .u8 0))] ?_
  refine iF ?_
  refine aQ ?_
  refine aQ ?_
  refine aR ?_
  refine iR 3 3 [(12, (.slice A2 (List.length p1) c3)), (13, (.int .i64 ((List.length p1 : Nat) : Int))), (14, (.int .i64 0))] ?_
  refine iF ?_
  refine Z4 K (id := 0) K ?_
  refine Ur K (fun f1 ρ w => ∃ (f : UInt8) (a : Int), Zg ρ [(0, (.slice A2 (List.length p1) c3)), (1, (.slice A6 (List.length p5) c7)), (5, (.int .u8 ((f).toNat : Int))), (13, (.int .i64 ((List.length p1 : Nat) : Int))), (14, (.int .i64 a))] ∧ SP [] w0 w [] ∧ Gt p1 p5 f1 f a = some r) (by rintro ρ w ⟨f, a, hk, hs, H⟩; cases H) ?_ Zd ?_
  ·rintro f1 ρ c2 ⟨f, a, hk, t, H⟩
   refine At.known [(0, (.slice A2 (List.length p1) c3)), (1, (.slice A6 (List.length p5) c7)), (5, (.int .u8 ((f).toNat : Int))), (13, (.int .i64 ((List.length p1 : Nat) : Int))), (14, (.int .i64 a))] hk ?_
   replace H := (show De (Gt p1 p5 f1) p1 p5 f a = some r from H)
   unfold De at H
   refine aQ ?_
   refine aR ?_
   refine iR 1 1 [(15, (.bool (decide (a < ((List.length p1 : Nat) : Int)))))] ?_
   refine iF ?_
   refine aQ ?_
   refine Zs K (o := (.tmp 15)) K (b := (decide (a < ((List.length p1 : Nat) : Int)))) K (fun m => ?_) (fun m => ?_)
   ·have H := ct H m
    refine At.skip K ?_
    refine aQ ?_
    refine Z4 K (id := 1) K ?_
    refine aQ ?_
    refine aR ?_
    refine iR 2 2 [(16, (.int .i64 a)), (6, (.int .i64 a))] ?_
    refine iF ?_
    obtain ⟨g, u, v, a1, H⟩ := Qn H
    obtain ⟨h, y, z, a2, H⟩ := Qn H
    refine aG [GEq (.int .u8 ((f).toNat : Int)), GEq (.slice A2 (List.length p1) c3), GEq (.int .i64 a), Vv A2 eU8.sz a, GEq (.int .u8 ((g).toNat : Int)), GEq (.slice A6 (List.length p5) c7), GEq (.int .i64 a), Vv A6 eU8.sz a, GEq (.int .u8 ((h).toNat : Int)), GEq (.int .u8 (Vt .u8 ((g).toNat : Int) ((h).toNat : Int))), GEq (.int .u8 (bOr .u8 ((f).toNat : Int) (Vt .u8 ((g).toNat : Int) ((h).toNat : Int)))), GEq (.int .u8 (bOr .u8 ((f).toNat : Int) (Vt .u8 ((g).toNat : Int) ((h).toNat : Int))))] [] (tG [] w0 [] [([], [])]) 12 0 ⟨trivial, SP.drew t⟩ ?_ ?_
    iterate 12 refine And.intro ?_ ?_
    exact trivial
    ·exact oV (hC (hS 5 (.int .u8 ((f).toNat : Int))) (h0)) (.int .u8 ((f).toNat : Int))
    ·exact oV (hC (hS 0 (.slice A2 (List.length p1) c3)) (h0)) (.slice A2 (List.length p1) c3)
    ·exact oV (hC (hS 6 (.int .i64 a)) (h0)) (.int .i64 a)
    ·refine oL 0 ?_
     ·rintro ρ' w' hs hah ⟨c4, a3⟩
      refine kM (kc (kA hah 1 18) (kc (kA hah 2 19) k0)) fun hkn => ?_
      refine Vi (e := eU8) (l := p1) (A := A2) (c := c3) (T := 52) (E := 5) (x := (.tmp 18)) (ix := (.tmp 19)) (ki := .i64) (iz := a) (d := (some 20)) (k := 3) K rfl K K K K (RdT.sp p a3) u v ?_
      intro a4 a5 a6 c5 hc131
      exact ⟨rfl, _, Qa hkn, ⟨a4, a5, a6, rfl⟩⟩
    ·refine oL 0 ?_
     ·rintro ρ' w' hs hah ⟨c6, a7⟩
      obtain ⟨a8, a9, b0, b1⟩ := hah 3 20 K
      refine kM (kc b1 k0) fun hkn => ?_
      refine sC 5 20 a8 (a9 + Int.toNat a * eU8.sz) (.int .u8 ((g).toNat : Int)) 21 (Qi (e := eU8) (Qf (RdT.sp p a7) b0 u v) a1 (j := 0) rfl) ?_
      exact eK hkn
    ·exact oV (hC (hS 1 (.slice A6 (List.length p5) c7)) (h0)) (.slice A6 (List.length p5) c7)
    ·exact oV (hC (hS 6 (.int .i64 a)) (h0)) (.int .i64 a)
    ·refine oL 0 ?_
     ·rintro ρ' w' hs hah ⟨c8, b2⟩
      refine kM (kc (kA hah 5 22) (kc (kA hah 6 23) k0)) fun hkn => ?_
      refine Vi (e := eU8) (l := p5) (A := A6) (c := c7) (T := 52) (E := 5) (x := (.tmp 22)) (ix := (.tmp 23)) (ki := .i64) (iz := a) (d := (some 24)) (k := 7) K rfl K K K K (RdT.sp q b2) y z ?_
      intro b3 b4 b5 c9 hc143
      exact ⟨rfl, _, Qa hkn, ⟨b3, b4, b5, rfl⟩⟩
    ·refine oL 0 ?_
     ·rintro ρ' w' hs hah ⟨d0, b6⟩
      obtain ⟨b7, b8, b9, c0⟩ := hah 7 24 K
      refine kM (kc c0 k0) fun hkn => ?_
      refine sC 5 24 b7 (b8 + Int.toNat a * eU8.sz) (.int .u8 ((h).toNat : Int)) 25 (Qi (e := eU8) (Qf (RdT.sp q b6) b9 y z) a2 (j := 0) rfl) ?_
      exact eK hkn
    ·exact oV (hC (hA 4 21) (hC (hA 8 25) (h0))) (.int .u8 (Vt .u8 ((g).toNat : Int) ((h).toNat : Int)))
    ·exact oV (hC (hA 0 17) (hC (hA 9 26) (h0))) (.int .u8 (bOr .u8 ((f).toNat : Int) (Vt .u8 ((g).toNat : Int) ((h).toNat : Int))))
    ·exact oV (hC (hA 10 27) (h0)) (.int .u8 (bOr .u8 ((f).toNat : Int) (Vt .u8 ((g).toNat : Int) ((h).toNat : Int))))
    ·rintro ρ' w' hs hf ⟨d1, a0⟩
     refine Vj [(0, (.slice A2 (List.length p1) c3)), (1, (.slice A6 (List.length p5) c7)), (5, (.int .u8 (bOr .u8 ((f).toNat : Int) (Vt .u8 ((g).toNat : Int) ((h).toNat : Int))))), (13, (.int .i64 ((List.length p1 : Nat) : Int))), (14, (.int .i64 a))] ⟨(hs 0 K).trans K, (hs 1 K).trans K, hf 11 5 K, (hs 13 K).trans K, (hs 14 K).trans K, trivial⟩ ?_
     obtain ⟨d2, c1⟩ : ∃ x, w' = x := ⟨_, rfl⟩
     rw [c1] at a0 ⊢
     refine aR ?_
     refine iR 2 2 [(28, (.int .i64 (IntKind.wrap .i64 (a + 1)))), (14, (.int .i64 (IntKind.wrap .i64 (a + 1))))] ?_
     refine iF ?_
     exact ⟨(G3 (bOr .u8 ((f).toNat : Int) (Vt .u8 ((g).toNat : Int) ((h).toNat : Int)))), (IntKind.wrap .i64 (a + 1)), ⟨(by first | exact (by simp only [Gv (u8_or _ _)]; rfl) | rfl), (by first | exact (by simp only [Gv (u8_or _ _)]; rfl) | rfl), (by first | exact (by simp only [Gv (u8_or _ _)]; rfl) | rfl), (by first | exact (by simp only [Gv (u8_or _ _)]; rfl) | rfl), (by first | exact (by simp only [Gv (u8_or _ _)]; rfl) | rfl), trivial⟩, SP.sel a0 [] rfl rfl, H⟩
   ·have H := cf H m
    refine At.exit K (id := 0) K ?_
    refine aQ ?_
    refine aR ?_
    refine iR 3 3 [(29, (.int .u8 ((f).toNat : Int))), (30, (.bool (((f).toNat : Int) == 0))), (4, (.bool (((f).toNat : Int) == 0)))] ?_
    refine iF ?_
    refine At.ret K ?_
    refine ⟨(.bool (((f).toNat : Int) == 0)), K, ?_⟩
    obtain rfl := Qm H
    exact ⟨rfl, SP.sel t [] rfl rfl⟩
  ·exact ⟨(0 : UInt8), 0, ⟨K, K, K, K, K, trivial⟩, SP.sel s [] rfl rfl, H⟩
end Go.Proofs.YtmgfanhcdfobhaaGreatDoor
namespace Go.Proofs.YtmgfanhcdfobhaaGreatDoor
open Go.RowKit
def Ua (a : Int) (b : Int) (c : Int) (d : Int) (e : (List Qk)) : Option (Option (Int × Int × Int × Int × U2)) :=
  ((Ni a b c d e).bind fun f => (cond (!f) (some none) (some (some (a, b, c, d, ([] : U2))))))
set_option maxRecDepth 100000 in
set_option maxHeartbeats 4000000 in
theorem Jg (A6 : Option Addr) (c7 : Nat) (a : Int) (c : Int) (f : Int) (g : Int) (d9 : (List Vp)) (w0 : World) (hL : B0 w0) (y : (dDS Nm E2).ok w0 (A6, c7, d9)) (r : (Option (Int × Int × Int × Int × U2))) (H : Ua a c f g (List.map stT d9) = some r) :
  Calls Tryz.prog 18 #[(.agg #[(.int .i64 a), (.int .i64 c), (.int .i64 f), (.int .i64 g), (.slice A6 (List.length (List.map stT d9)) c7)])] w0 (fun e w' => match r with | none => e = .returned (.pointer none) ∧ SP [] w0 w' [] | some o => ∃ (q : Nat) (s : Nat), e = .returned (pt q 0) ∧ SP [] w0 w' [Q7 q 79 #[(.int .i64 o.1), (.int .i64 o.2.1), (.int .i64 o.2.2.1), (.int .i64 o.2.2.2.1), (.slice A6 (List.length (List.map stT d9)) c7), (.map (some s))], Xg s o.2.2.2.2]) := by
 unfold Ua at H
 refine Qv (n := 10) Tryz.func18 K K K ?_
 have z := Q1 [] w0
 refine aQ ?_
 refine aR ?_
 refine iS 1 ?_
 refine Za (t := 24) (x := (.tmp 0)) (v := (.agg #[(.int .i64 a), (.int .i64 c), (.int .i64 f), (.int .i64 g), (.slice A6 (List.length (List.map stT d9)) c7)])) (d := (some 1)) (k := 0) K rfl K z ?_
 intro u w32 h
 refine iR 1 2 [(2, (.pointer none))] ?_
 refine iF ?_
 refine aQ ?_
 refine aQ ?_
 refine aR ?_
 refine iS 1 ?_
 refine sL 24 1 u 0 0 (.agg #[(.int .i64 a), (.int .i64 c), (.int .i64 f), (.int .i64 g), (.slice A6 (List.length (List.map stT d9)) c7)]) 3 h rfl ?_
 obtain ⟨i, a0, H⟩ := Qg H
 refine iS 2 ?_
 refine cF 43 #[(.tmp 3)] #[24] 4 Tryz.call43 (Bn A6 c7 a c f g d9 w32 (Xl hL (SP.keeps h)) (Dp.sp y h) i a0) ?_
 rintro e a3 ⟨rfl, w⟩
 refine ⟨_, rfl, ?_⟩
 have j := SP.call h w
 clear w
 refine iR 1 3 [(5, (.bool (!i)))] ?_
 refine iF ?_
 refine Zs K (o := (.tmp 5)) K (b := (!i)) K (fun l => ?_) (fun l => ?_)
 ·have H := ct H l
  refine aQ ?_
  refine aR ?_
  refine iR 1 1 [(2, (.pointer none))] ?_
  refine iF ?_
  refine At.ret K ?_
  refine ⟨(.pointer none), K, ?_⟩
  obtain rfl := Qm H
  exact ⟨rfl, SP.sel j [] rfl rfl⟩
 ·have H := cf H l
  refine At.skip K ?_
  refine aQ ?_
  refine aR ?_
  refine iS 1 ?_
  refine sL 24 1 u 0 0 (.agg #[(.int .i64 a), (.int .i64 c), (.int .i64 f), (.int .i64 g), (.slice A6 (List.length (List.map stT d9)) c7)]) 6 j rfl ?_
  refine iS 2 ?_
  refine Kd (T := 77) (dst := (some 7)) (o := 1) K rfl j ?_
  intro m a4 a1
  refine iR 1 3 [(8, (.agg #[(.int .i64 a), (.int .i64 c), (.int .i64 f), (.int .i64 g), (.slice A6 (List.length (List.map stT d9)) c7), (.map (some m))]))] ?_
  refine iS 4 ?_
  refine Za (t := 79) (x := (.tmp 8)) (v := (.agg #[(.int .i64 a), (.int .i64 c), (.int .i64 f), (.int .i64 g), (.slice A6 (List.length (List.map stT d9)) c7), (.map (some m))])) (d := (some 9)) (k := 3) K rfl K a1 ?_
  intro p a5 a2
  refine iR 1 5 [(2, (pt p 0))] ?_
  refine iF ?_
  refine At.ret K ?_
  refine ⟨(pt p 0), K, ?_⟩
  obtain rfl := Qm H
  exact ⟨p, m, rfl, SP.sel a2 [2,1] rfl rfl⟩
def Jc (f : (List UInt8)) (g : (List UInt8)) (h : Int) (q5 : (List UInt8)) (q7 : (List UInt8)) (q9 : Int) (c : Int) (d : Int) (e : Int) (i : (List Qk)) (a : U2) (j : Bool) : Option (Int × Int × Int × Int × U2 × Bool) :=
  ((chk (Nat.ble (List.length q5) 140737488355328 && Nat.ble (List.length q7) 140737488355328)).bind fun _ => ((chk (Nat.ble (List.length q5) 140737488355328 && Nat.ble (List.length q7) 140737488355328)).bind fun _ => ((some (Kw a (q5, q7) (IntKind.wrap .i64 ((Nx a (q5, q7)) + 1)))).bind fun b => ((chk (Nat.ble (List.length q5) 140737488355328 && Nat.ble (List.length q7) 140737488355328)).bind fun _ => (some (q9, c, d, e, b, ((Nx b (q5, q7)) == 1)))))))
set_option maxRecDepth 100000 in
set_option maxHeartbeats 4000000 in
theorem Gz {S : List Nat} (g4 : Nat) (g6 : Nat) (g8 : Nat) (u : Option Addr) (a0 : Nat) (a : Nat) (f : Nat) (j : Nat) (a1 : (List UInt8)) (a2 : (List UInt8)) (a3 : Int) (q5 : (List UInt8)) (q7 : (List UInt8)) (q9 : Int) (a4 : Int) (a5 : Int) (a6 : Int) (q : (List Vp)) (c : U2) (a8 : Bool) (w0 : World) (hO : SP S w0 w0 [Q7 g4 9 #[(.string ⟨List.toArray q5⟩)], Q7 g6 9 #[(.string ⟨List.toArray q7⟩)], Q7 g8 79 #[(.int .i64 q9), (.int .i64 a4), (.int .i64 a5), (.int .i64 a6), (.slice u (List.length (List.map stT q)) a0), (.map (some a))], Xg a c, Q7 f 29 #[(pt g8 0)], Q7 j 4 #[(.bool a8)]]) (e4 : ∀ w, Mod S w0 w → (dDS Nm E2).ok w (u, a0, q)) (r : (Int × Int × Int × Int × U2 × Bool)) (H : Jc a1 a2 a3 q5 q7 q9 a4 a5 a6 (List.map stT q) c a8 = some r) :
  Calls Tryz.prog 46 #[(.agg #[(.string ⟨List.toArray a1⟩), (.string ⟨List.toArray a2⟩), (.int .i64 a3)]), (pt g4 0), (pt g6 0), (pt f 0), (pt j 0)] w0 (fun e w' => e = .returned (.tuple #[]) ∧ SP S w0 w' [Q7 g4 9 #[(.string ⟨List.toArray q5⟩)], Q7 g6 9 #[(.string ⟨List.toArray q7⟩)], Q7 g8 79 #[(.int .i64 r.1), (.int .i64 r.2.1), (.int .i64 r.2.2.1), (.int .i64 r.2.2.2.1), (.slice u (List.length (List.map stT q)) a0), (.map (some a))], Xg a r.2.2.2.2.1, Q7 f 29 #[(pt g8 0)], Q7 j 4 #[(.bool r.2.2.2.2.2)]]) := by
 unfold Jc at H
 refine Qv (n := 26) Tryz.func46 K K K ?_
 have c0 := hO
 refine aQ ?_
 refine aR ?_
 refine iS 1 ?_
 refine Za (t := 48) (x := (.tmp 0)) (v := (.agg #[(.string ⟨List.toArray a1⟩), (.string ⟨List.toArray a2⟩), (.int .i64 a3)])) (d := (some 5)) (k := 0) K rfl K c0 ?_
 intro b0 e5 b3
 refine iF ?_
 refine aQ ?_
 refine aR ?_
 refine iS 1 ?_
 refine sL 9 1 g4 0 0 (.string ⟨List.toArray q5⟩) 7 b3 rfl ?_
 refine iS 2 ?_
 refine sL 9 2 g6 0 1 (.string ⟨List.toArray q7⟩) 8 b3 rfl ?_
 refine iR 1 3 [(9, (.agg (Qb Qw ([q5, q7] : List (List UInt8))).toArray))] ?_
 refine iS 4 ?_
 refine Qz (e := Qw) (l := (List.replicate 2 ([] : List UInt8))) (m := 2) (t := 83) (z := .agg (Qb Qw (List.replicate 2 ([] : List UInt8))).toArray) (d := (some 6)) (k := 3) K rfl K rfl rfl K b3 ?_
 intro p e6 c1
 refine iS 5 ?_
 refine Q8 (e := Qw) (l := (List.replicate 2 ([] : List UInt8))) (l' := ([q5, q7] : List (List UInt8))) (m := 2) (t := 83) (x := (.tmp 6)) (y := (.tmp 9)) (g := p) (i := 7) (d := none) (k := 4) K rfl K K rfl c1 rfl K ?_
 intro e7 c2
 refine iF ?_
 refine aQ ?_
 obtain ⟨b1, H⟩ := Vu H
 obtain ⟨b2, H⟩ := Vu H
 obtain ⟨s, hyl137, H⟩ := V2 H
 refine aG [GEq (pt g8 0), GEq (pt g8 0), GEq (pt g8 5), GEq (.map (some a)), GEq (.agg (Qb Qw ([q5, q7] : List (List UInt8))).toArray), GEq (.int .i64 (Nx c (q5, q7))), GEq (.int .i64 (IntKind.wrap .i64 ((Nx c (q5, q7)) + 1))), Ch, Ch, Ch] [7, 8, 9] [([], fun vs w => VL vs [] ∧ SP S w0 w [Q7 g4 9 #[(.string ⟨List.toArray q5⟩)], Q7 g6 9 #[(.string ⟨List.toArray q7⟩)], Q7 g8 79 #[(.int .i64 q9), (.int .i64 a4), (.int .i64 a5), (.int .i64 a6), (.slice u (List.length (List.map stT q)) a0), (.map (some a))], Xg a c, Q7 f 29 #[(pt g8 0)], Q7 j 4 #[(.bool a8)], Q7 b0 48 #[(.string ⟨List.toArray a1⟩), (.string ⟨List.toArray a2⟩), (.int .i64 a3)], Vb 83 Qw p 2 ([q5, q7] : List (List UInt8))]), ([7], fun vs w => ∃ (a9 : Nat), VL vs [(.tuple #[(.int .i64 (Nx c (q5, q7))), (.int .i64 ((a9 : Nat) : Int))])] ∧ SP S w0 w [Q7 g4 9 #[(.string ⟨List.toArray q5⟩)], Q7 g6 9 #[(.string ⟨List.toArray q7⟩)], Q7 g8 79 #[(.int .i64 q9), (.int .i64 a4), (.int .i64 a5), (.int .i64 a6), (.slice u (List.length (List.map stT q)) a0), (.map (some a))], I9 a c (q5, q7) a9, Q7 f 29 #[(pt g8 0)], Q7 j 4 #[(.bool a8)], Q7 b0 48 #[(.string ⟨List.toArray a1⟩), (.string ⟨List.toArray a2⟩), (.int .i64 a3)], Vb 83 Qw p 2 ([q5, q7] : List (List UInt8))]), ([7, 8], fun vs w => ∃ (a7 : Nat), VL vs [(.tuple #[(.int .i64 (Nx c (q5, q7))), (.int .i64 ((a7 : Nat) : Int))]), (.int .i64 ((a7 : Nat) : Int))] ∧ SP S w0 w [Q7 g4 9 #[(.string ⟨List.toArray q5⟩)], Q7 g6 9 #[(.string ⟨List.toArray q7⟩)], Q7 g8 79 #[(.int .i64 q9), (.int .i64 a4), (.int .i64 a5), (.int .i64 a6), (.slice u (List.length (List.map stT q)) a0), (.map (some a))], I9 a c (q5, q7) a7, Q7 f 29 #[(pt g8 0)], Q7 j 4 #[(.bool a8)], Q7 b0 48 #[(.string ⟨List.toArray a1⟩), (.string ⟨List.toArray a2⟩), (.int .i64 a3)], Vb 83 Qw p 2 ([q5, q7] : List (List UInt8))]), ([7, 8, 9], fun vs w => ∃ (b4 : Nat), VL vs [(.tuple #[(.int .i64 (Nx c (q5, q7))), (.int .i64 ((b4 : Nat) : Int))]), (.int .i64 ((b4 : Nat) : Int)), undef] ∧ SP S w0 w [Q7 g4 9 #[(.string ⟨List.toArray q5⟩)], Q7 g6 9 #[(.string ⟨List.toArray q7⟩)], Q7 g8 79 #[(.int .i64 q9), (.int .i64 a4), (.int .i64 a5), (.int .i64 a6), (.slice u (List.length (List.map stT q)) a0), (.map (some a))], Xg a s, Q7 f 29 #[(pt g8 0)], Q7 j 4 #[(.bool a8)], Q7 b0 48 #[(.string ⟨List.toArray a1⟩), (.string ⟨List.toArray a2⟩), (.int .i64 a3)], Vb 83 Qw p 2 ([q5, q7] : List (List UInt8))])] 10 3 ⟨trivial, SP.drew c2⟩ ?_ ?_
 iterate 10 refine And.intro ?_ ?_
 exact trivial
 ·refine oL 0 ?_
  ·rintro ρ' w' hs hah ⟨e8, c3⟩
   refine kM (kc (kS hs 3 (pt f 0)) k0) fun hkn => ?_
   refine sL 29 3 f 0 4 (pt g8 0) 10 c3 rfl ?_
   exact eK hkn
 ·exact oV (hC (hA 0 10) (h0)) (pt g8 0)
 ·exact oV (hC (hA 1 11) (h0)) (pt g8 5)
 ·refine oL 0 ?_
  ·rintro ρ' w' hs hah ⟨e9, c4⟩
   refine kM (kc (kA hah 2 12) k0) fun hkn => ?_
   refine sL 77 12 g8 5 2 (.map (some a)) 13 c4 rfl ?_
   exact eK hkn
 ·refine oL 0 ?_
  ·rintro ρ' w' hs hah ⟨f0, c5⟩
   refine kM (kc (kS hs 6 (pt p 0)) k0) fun hkn => ?_
   refine V9 (e := Qw) (l := ([q5, q7] : List (List UInt8))) (m := 2) (t := 83) (x := (.tmp 6)) (g := p) (i := 7) (d := (some 14)) (k := 4) K rfl K c5 rfl K K ?_
   exact eK hkn
 ·refine Owe.light K [0, 1, 2] K (Qd ?_ (Qd ?_ (Qd ?_ Q3)))
  ·rintro ρ' w' hs hah ⟨f1, c6⟩
   refine kM (kc (kA hah 3 13) (kc (kA hah 4 14) k0)) fun hkn => ?_
   refine D8 (T := 77) (kt := 83) (et := 3) (m := a) (L := c) (k := (q5, q7)) (x := (.tmp 13)) (ix := (.tmp 14)) (dst := (some 15)) (o := 5) K rfl K K K Dd (fun _ => rfl) (SP.get c6 (i := 3) rfl) (Ic b1).1 (Ic b1).2 ?_
   exact eK hkn
  ·rintro ρ' w' hs hah ⟨a9, ⟨f2, -⟩, c7⟩
   refine kM (kc (kA hah 3 13) (kc (kA hah 4 14) k0)) fun hkn => ?_
   refine Ew (T := 77) (kt := 83) (et := 3) (m := a) (L := c) (k := (q5, q7)) (x := (.tmp 13)) (ix := (.tmp 14)) (dst := (some 15)) (o := 5) K rfl K K K Dd (fun _ => rfl) (SP.get c7 (i := 3) rfl) (Ic b1).1 (Ic b1).2 ?_
   exact eK hkn
  ·rintro ρ' w' hs hah ⟨a7, ⟨f3, f4, -⟩, c8⟩
   refine kM (kc (kA hah 3 13) (kc (kA hah 4 14) k0)) fun hkn => ?_
   refine Ew (T := 77) (kt := 83) (et := 3) (m := a) (L := c) (k := (q5, q7)) (x := (.tmp 13)) (ix := (.tmp 14)) (dst := (some 15)) (o := 5) K rfl K K K Dd (fun _ => rfl) (SP.get c8 (i := 3) rfl) (Ic b1).1 (Ic b1).2 ?_
   exact eK hkn
 ·exact oV (hC (hA 5 15) (h0)) (.int .i64 (IntKind.wrap .i64 ((Nx c (q5, q7)) + 1)))
 ·refine oH 0 1 ?_
  ·rintro ρ' w' hs hah ⟨f5, c9⟩
   refine kM (kc (kA hah 3 13) (kc (kA hah 4 14) k0)) fun hkn => ?_
   refine H9 (T := 77) (kt := 83) (et := 3) (m := a) (L := c) (k := (q5, q7)) (x := (.tmp 13)) (ix := (.tmp 14)) (dst := (some 17)) (o := 7) (i := 3) K rfl K K K Dd (fun _ => rfl) c9 rfl (Ic b2).1 (Ic b2).2 ?_
   intro d0 f6 d1
   refine ⟨_, Qa hkn, trivial, ?_⟩
   exact (Exists.intro d0 (And.intro (And.intro rfl (trivial)) (d1)))
 ·refine oH 1 2 ?_
  ·rintro ρ' w' hs hah ⟨a9, ⟨b5, -⟩, d2⟩
   refine kN [(17, (.tuple #[(.int .i64 (Nx c (q5, q7))), (.int .i64 ((a9 : Nat) : Int))]))] ⟨(Yh (h := 7) K).symm.trans b5, trivial⟩ fun hkn => ?_
   refine Qj.run (k := 8) (v := (.int .i64 ((a9 : Nat) : Int))) K ?_
   refine ⟨_, Qa hkn, trivial, ?_⟩
   exact (Exists.intro a9 (And.intro (And.intro b5 (And.intro rfl (trivial))) (d2)))
 ·refine oH 2 3 ?_
  ·rintro ρ' w' hs hah ⟨a7, ⟨d3, b6, -⟩, d4⟩
   refine kN [(13, (.map (some a))), (18, (.int .i64 ((a7 : Nat) : Int))), (16, (.int .i64 (IntKind.wrap .i64 ((Nx c (q5, q7)) + 1))))] ⟨hah 3 13 K, (Yh (h := 8) K).symm.trans b6, hah 6 16 K, trivial⟩ fun hkn => ?_
   refine Ia (T := 77) (m := a) (L := c) (k := (q5, q7)) (x := (.tmp 13)) (ix := (.tmp 18)) (y := (.tmp 16)) (i := 3) (b := a7) (v := (IntKind.wrap .i64 ((Nx c (q5, q7)) + 1))) (dst := none) (o := 9) K rfl K K K d4 rfl (Ic b2).1 (Ic b2).2 ?_
   rw [hyl137]
   intro f7 d5
   refine ⟨_, Qa hkn, trivial, ?_⟩
   exact (Exists.intro a7 (And.intro (And.intro d3 (And.intro b6 (And.intro rfl (trivial)))) (d5)))
 ·rintro ρ' w' hs hf ⟨b4, ⟨f8, f9, g0, -⟩, b7⟩
  refine Vj [(3, (pt f 0)), (4, (pt j 0)), (6, (pt p 0))] ⟨(hs 3 K).trans K, (hs 4 K).trans K, (hs 6 K).trans K, trivial⟩ ?_
  obtain ⟨g1, d6⟩ : ∃ x, w' = x := ⟨_, rfl⟩
  rw [d6] at b7 ⊢
  obtain ⟨b8, H⟩ := Vu H
  refine aG [GEq (pt g8 0), GEq (pt g8 0), GEq (pt g8 5), GEq (.map (some a)), GEq (.agg (Qb Qw ([q5, q7] : List (List UInt8))).toArray), GEq (.int .i64 (Nx s (q5, q7))), GEq (.bool ((Nx s (q5, q7)) == 1)), Ch] [7] [sG [] [] S w0 [Q7 g4 9 #[(.string ⟨List.toArray q5⟩)], Q7 g6 9 #[(.string ⟨List.toArray q7⟩)], Q7 g8 79 #[(.int .i64 q9), (.int .i64 a4), (.int .i64 a5), (.int .i64 a6), (.slice u (List.length (List.map stT q)) a0), (.map (some a))], Xg a s, Q7 f 29 #[(pt g8 0)], Q7 j 4 #[(.bool a8)], Q7 b0 48 #[(.string ⟨List.toArray a1⟩), (.string ⟨List.toArray a2⟩), (.int .i64 a3)], Vb 83 Qw p 2 ([q5, q7] : List (List UInt8))], sG [7] [undef] S w0 [Q7 g4 9 #[(.string ⟨List.toArray q5⟩)], Q7 g6 9 #[(.string ⟨List.toArray q7⟩)], Q7 g8 79 #[(.int .i64 q9), (.int .i64 a4), (.int .i64 a5), (.int .i64 a6), (.slice u (List.length (List.map stT q)) a0), (.map (some a))], Xg a s, Q7 f 29 #[(pt g8 0)], Q7 j 4 #[(.bool ((Nx s (q5, q7)) == 1))], Q7 b0 48 #[(.string ⟨List.toArray a1⟩), (.string ⟨List.toArray a2⟩), (.int .i64 a3)], Vb 83 Qw p 2 ([q5, q7] : List (List UInt8))]] 8 1 ⟨trivial, SP.drew b7⟩ ?_ ?_
  iterate 8 refine And.intro ?_ ?_
  exact trivial
  ·refine oL 0 ?_
   ·rintro ρ' w' hs hah ⟨g2, d7⟩
    refine kM (kc (kS hs 3 (pt f 0)) k0) fun hkn => ?_
    refine sL 29 3 f 0 4 (pt g8 0) 19 d7 rfl ?_
    exact eK hkn
  ·exact oV (hC (hA 0 19) (h0)) (pt g8 0)
  ·exact oV (hC (hA 1 20) (h0)) (pt g8 5)
  ·refine oL 0 ?_
   ·rintro ρ' w' hs hah ⟨g3, d8⟩
    refine kM (kc (kA hah 2 21) k0) fun hkn => ?_
    refine sL 77 21 g8 5 2 (.map (some a)) 22 d8 rfl ?_
    exact eK hkn
  ·refine oL 0 ?_
   ·rintro ρ' w' hs hah ⟨g5, d9⟩
    refine kM (kc (kS hs 6 (pt p 0)) k0) fun hkn => ?_
    refine V9 (e := Qw) (l := ([q5, q7] : List (List UInt8))) (m := 2) (t := 83) (x := (.tmp 6)) (g := p) (i := 7) (d := (some 23)) (k := 4) K rfl K d9 rfl K K ?_
    exact eK hkn
  ·refine oL 0 ?_
   ·rintro ρ' w' hs hah ⟨g7, e0⟩
    refine kM (kc (kA hah 3 22) (kc (kA hah 4 23) k0)) fun hkn => ?_
    refine D8 (T := 77) (kt := 83) (et := 3) (m := a) (L := s) (k := (q5, q7)) (x := (.tmp 22)) (ix := (.tmp 23)) (dst := (some 24)) (o := 5) K rfl K K K Dd (fun _ => rfl) (SP.get e0 (i := 3) rfl) (Ic b8).1 (Ic b8).2 ?_
    exact eK hkn
  ·exact oV (hC (hA 5 24) (h0)) (.bool ((Nx s (q5, q7)) == 1))
  ·refine oH 0 1 ?_
   ·rintro ρ' w' hs hah ⟨g9, e1⟩
    refine kM (kc (kS hs 4 (pt j 0)) (kc (kA hah 6 25) k0)) fun hkn => ?_
    refine Qj.store (t := 4) (x := (.tmp 4)) (y := (.tmp 25)) (g := j) (off := 0) (i := 5) (v := (.bool ((Nx s (q5, q7)) == 1))) (cs' := #[(.bool ((Nx s (q5, q7)) == 1))]) (d := none) (k := 7) K rfl K K e1 rfl K ?_
    intro h1 e2
    refine ⟨_, Qa hkn, trivial, ?_⟩
    exact (And.intro (And.intro rfl (trivial)) (e2))
  ·rintro ρ' w' hs hf ⟨⟨h2, -⟩, b9⟩
   refine Vj [] trivial ?_
   obtain ⟨h3, e3⟩ : ∃ x, w' = x := ⟨_, rfl⟩
   rw [e3] at b9 ⊢
   refine ⟨(.tuple #[]), K, ?_⟩
   obtain rfl := Qm H
   exact ⟨rfl, SP.sel b9 [0,1,2,3,4,5] rfl rfl⟩
def Yy (a : Bool) : Option (Bool) :=
  (some (a))
def U5 (f : (List UInt8)) (g : (List UInt8)) (c : Int) (q5 : Int) (q6 : Int) (q7 : Int) (q8 : Int) (q9 : (List Qk)) (d : U2) (a : (List UInt8)) (b : (List UInt8)) (e : Int) (h : Bool) : Option (Bool) :=
  ((chk (Nat.ble (List.length a) 140737488355328 && Nat.ble (List.length b) 140737488355328)).bind fun _ => (cond ((Nx d (a, b)) == 0) (Yy (decide (e < c))) (Yy false)))
set_option maxRecDepth 100000 in
set_option maxHeartbeats 4000000 in
theorem Re {S : List Nat} (g4 : Nat) (a3 : Option Addr) (a4 : Nat) (f : Nat) (q : Nat) (s : Nat) (u : Nat) (a0 : Nat) (z : Nat) (a5 : (List UInt8)) (a6 : (List UInt8)) (j : Int) (q5 : Int) (q6 : Int) (q7 : Int) (q8 : Int) (a1 : (List Vp)) (c : U2) (a : (List UInt8)) (b : (List UInt8)) (h : Int) (a7 : Bool) (w0 : World) (hO : SP S w0 w0 [Q7 g4 79 #[(.int .i64 q5), (.int .i64 q6), (.int .i64 q7), (.int .i64 q8), (.slice a3 (List.length (List.map stT a1)) a4), (.map (some f))], Xg f c, Q7 q 29 #[(pt g4 0)], Q7 s 9 #[(.string ⟨List.toArray a⟩)], Q7 u 9 #[(.string ⟨List.toArray b⟩)], Q7 a0 2 #[(.int .i64 h)], Q7 z 4 #[(.bool a7)]]) (d5 : ∀ w, Mod S w0 w → (dDS Nm E2).ok w (a3, a4, a1)) (r : (Bool)) (H : U5 a5 a6 j q5 q6 q7 q8 (List.map stT a1) c a b h a7 = some r) :
  Calls Tryz.prog 49 #[(.agg #[(.string ⟨List.toArray a5⟩), (.string ⟨List.toArray a6⟩), (.int .i64 j)]), (pt q 0), (pt s 0), (pt u 0), (pt a0 0), (pt z 0)] w0 (fun e w' => e = .returned (.tuple #[]) ∧ SP S w0 w' [Q7 g4 79 #[(.int .i64 q5), (.int .i64 q6), (.int .i64 q7), (.int .i64 q8), (.slice a3 (List.length (List.map stT a1)) a4), (.map (some f))], Xg f c, Q7 q 29 #[(pt g4 0)], Q7 s 9 #[(.string ⟨List.toArray a⟩)], Q7 u 9 #[(.string ⟨List.toArray b⟩)], Q7 a0 2 #[(.int .i64 h)], Q7 z 4 #[(.bool r)]]) := by
 unfold U5 at H
 refine Qv (n := 22) Tryz.func49 K K K ?_
 have b4 := hO
 refine aQ ?_
 refine aR ?_
 refine iS 1 ?_
 refine Za (t := 48) (x := (.tmp 0)) (v := (.agg #[(.string ⟨List.toArray a5⟩), (.string ⟨List.toArray a6⟩), (.int .i64 j)])) (d := (some 6)) (k := 0) K rfl K b4 ?_
 intro a2 d6 b1
 refine iF ?_
 refine At.join (fun ρ w => ∃ (a9 : Bool), Zg ρ [] ∧ SP S w0 w [Q7 g4 79 #[(.int .i64 q5), (.int .i64 q6), (.int .i64 q7), (.int .i64 q8), (.slice a3 (List.length (List.map stT a1)) a4), (.map (some f))], Xg f c, Q7 q 29 #[(pt g4 0)], Q7 s 9 #[(.string ⟨List.toArray a⟩)], Q7 u 9 #[(.string ⟨List.toArray b⟩)], Q7 a0 2 #[(.int .i64 h)], Q7 z 4 #[(.bool a9)]] ∧ Yy a9 = some r) ?_ ?_
 ·obtain ⟨a8, H⟩ := Vu H
  rcases Bool.eq_false_or_eq_true ((Nx c (a, b)) == 0) with p | p
  ·have H := ct H p
   refine aG [GEq (pt g4 0), GEq (pt g4 0), GEq (pt g4 5), GEq (.map (some f)), GEq (.string ⟨List.toArray a⟩), GEq (.string ⟨List.toArray b⟩), GEq (.agg (Qb Qw ([a, b] : List (List UInt8))).toArray), GEq (.int .i64 (Nx c (a, b))), GEq (.bool ((Nx c (a, b)) == 0)), GEq (.bool ((Nx c (a, b)) == 0)), GEq (.int .i64 h), GEq (pt a2 2), GEq (.int .i64 j), GEq (.bool (decide (h < j))), GEq (.bool (decide (h < j))), Ch] [15] [sG [] [] S w0 [Q7 g4 79 #[(.int .i64 q5), (.int .i64 q6), (.int .i64 q7), (.int .i64 q8), (.slice a3 (List.length (List.map stT a1)) a4), (.map (some f))], Xg f c, Q7 q 29 #[(pt g4 0)], Q7 s 9 #[(.string ⟨List.toArray a⟩)], Q7 u 9 #[(.string ⟨List.toArray b⟩)], Q7 a0 2 #[(.int .i64 h)], Q7 z 4 #[(.bool a7)], Q7 a2 48 #[(.string ⟨List.toArray a5⟩), (.string ⟨List.toArray a6⟩), (.int .i64 j)]], sG [15] [undef] S w0 [Q7 g4 79 #[(.int .i64 q5), (.int .i64 q6), (.int .i64 q7), (.int .i64 q8), (.slice a3 (List.length (List.map stT a1)) a4), (.map (some f))], Xg f c, Q7 q 29 #[(pt g4 0)], Q7 s 9 #[(.string ⟨List.toArray a⟩)], Q7 u 9 #[(.string ⟨List.toArray b⟩)], Q7 a0 2 #[(.int .i64 h)], Q7 z 4 #[(.bool (decide (h < j)))], Q7 a2 48 #[(.string ⟨List.toArray a5⟩), (.string ⟨List.toArray a6⟩), (.int .i64 j)]]] 16 1 ⟨trivial, SP.drew b1⟩ ?_ ?_
   iterate 16 refine And.intro ?_ ?_
   exact trivial
   ·refine oL 0 ?_
    ·rintro ρ' w' hs hah ⟨d7, b5⟩
     refine kM (kc (kS hs 1 (pt q 0)) k0) fun hkn => ?_
     refine sL 29 1 q 0 2 (pt g4 0) 7 b5 rfl ?_
     exact eK hkn
   ·exact oV (hC (hA 0 7) (h0)) (pt g4 0)
   ·exact oV (hC (hA 1 8) (h0)) (pt g4 5)
   ·refine oL 0 ?_
    ·rintro ρ' w' hs hah ⟨d8, b6⟩
     refine kM (kc (kA hah 2 9) k0) fun hkn => ?_
     refine sL 77 9 g4 5 0 (.map (some f)) 10 b6 rfl ?_
     exact eK hkn
   ·refine oL 0 ?_
    ·rintro ρ' w' hs hah ⟨d9, b7⟩
     refine kM (kc (kS hs 2 (pt s 0)) k0) fun hkn => ?_
     refine sL 9 2 s 0 3 (.string ⟨List.toArray a⟩) 11 b7 rfl ?_
     exact eK hkn
   ·refine oL 0 ?_
    ·rintro ρ' w' hs hah ⟨e0, b8⟩
     refine kM (kc (kS hs 3 (pt u 0)) k0) fun hkn => ?_
     refine sL 9 3 u 0 4 (.string ⟨List.toArray b⟩) 12 b8 rfl ?_
     exact eK hkn
   ·exact oV (hC (hA 4 11) (hC (hA 5 12) (h0))) (.agg (Qb Qw ([a, b] : List (List UInt8))).toArray)
   ·refine oL 0 ?_
    ·rintro ρ' w' hs hah ⟨e1, b9⟩
     refine kM (kc (kA hah 3 10) (kc (kA hah 6 13) k0)) fun hkn => ?_
     refine D8 (T := 77) (kt := 83) (et := 3) (m := f) (L := c) (k := (a, b)) (x := (.tmp 10)) (ix := (.tmp 13)) (dst := (some 14)) (o := 7) K rfl K K K Dd (fun _ => rfl) (SP.get b9 (i := 1) rfl) (Ic a8).1 (Ic a8).2 ?_
     exact eK hkn
   ·exact oV (hC (hA 7 14) (h0)) (.bool ((Nx c (a, b)) == 0))
   ·exact oV (hC (hA 8 15) (h0)) (.bool ((Nx c (a, b)) == 0))
   ·refine oL 0 ?_
    ·rintro ρ' w' hs hah ⟨e2, c0⟩
     have e4 : ρ' 4 = (pt a0 0) := (hs 4 K).trans K
     have b0 := hah 9 16 K
     refine kN [(4, (pt a0 0)), (16, (.bool true))] ⟨e4, (Eq.trans b0 (congrArg Value.bool p)), trivial⟩ fun hkn => ?_
     refine sL 2 4 a0 0 5 (.int .i64 h) 17 c0 rfl ?_
     exact eK hkn
   ·exact oV (hC (hS 6 (pt a2 0)) (hC (hB 9 16 p) (h0))) (pt a2 2)
   ·refine oL 0 ?_
    ·rintro ρ' w' hs hah ⟨e3, c1⟩
     have c2 := hah 11 18 K
     have b0 := hah 9 16 K
     refine kN [(18, (pt a2 2)), (16, (.bool true))] ⟨c2, (Eq.trans b0 (congrArg Value.bool p)), trivial⟩ fun hkn => ?_
     refine sL 2 18 a2 2 7 (.int .i64 j) 19 c1 rfl ?_
     exact eK hkn
   ·exact oV (hC (hA 10 17) (hC (hA 12 19) (hC (hB 9 16 p) (h0)))) (.bool (decide (h < j)))
   ·exact oV (hC (hB 9 16 p) (hC (hA 13 20) (h0))) (.bool (decide (h < j)))
   ·refine oH 0 1 ?_
    ·rintro ρ' w' hs hah ⟨e5, c3⟩
     refine kM (kc (kS hs 5 (pt z 0)) (kc (kA hah 14 21) k0)) fun hkn => ?_
     refine Qj.store (t := 4) (x := (.tmp 5)) (y := (.tmp 21)) (g := z) (off := 0) (i := 6) (v := (.bool (decide (h < j)))) (cs' := #[(.bool (decide (h < j)))]) (d := none) (k := 15) K rfl K K c3 rfl K ?_
     intro e6 c4
     refine ⟨_, Qa hkn, trivial, ?_⟩
     exact (And.intro (And.intro rfl (trivial)) (c4))
   ·rintro ρ' w' hs hf ⟨⟨e7, -⟩, b2⟩
    refine Vj [] trivial ?_
    obtain ⟨e8, c5⟩ : ∃ x, w' = x := ⟨_, rfl⟩
    rw [c5] at b2 ⊢
    exact ⟨(decide (h < j)), trivial, SP.sel b2 [0, 1, 2, 3, 4, 5, 6] rfl rfl, H⟩
  ·have H := cf H p
   refine aG [GEq (pt g4 0), GEq (pt g4 0), GEq (pt g4 5), GEq (.map (some f)), GEq (.string ⟨List.toArray a⟩), GEq (.string ⟨List.toArray b⟩), GEq (.agg (Qb Qw ([a, b] : List (List UInt8))).toArray), GEq (.int .i64 (Nx c (a, b))), GEq (.bool ((Nx c (a, b)) == 0)), GEq (.bool ((Nx c (a, b)) == 0)), GEq undef, GEq undef, GEq undef, GEq undef, GEq (.bool false), Ch] [15] [sG [] [] S w0 [Q7 g4 79 #[(.int .i64 q5), (.int .i64 q6), (.int .i64 q7), (.int .i64 q8), (.slice a3 (List.length (List.map stT a1)) a4), (.map (some f))], Xg f c, Q7 q 29 #[(pt g4 0)], Q7 s 9 #[(.string ⟨List.toArray a⟩)], Q7 u 9 #[(.string ⟨List.toArray b⟩)], Q7 a0 2 #[(.int .i64 h)], Q7 z 4 #[(.bool a7)], Q7 a2 48 #[(.string ⟨List.toArray a5⟩), (.string ⟨List.toArray a6⟩), (.int .i64 j)]], sG [15] [undef] S w0 [Q7 g4 79 #[(.int .i64 q5), (.int .i64 q6), (.int .i64 q7), (.int .i64 q8), (.slice a3 (List.length (List.map stT a1)) a4), (.map (some f))], Xg f c, Q7 q 29 #[(pt g4 0)], Q7 s 9 #[(.string ⟨List.toArray a⟩)], Q7 u 9 #[(.string ⟨List.toArray b⟩)], Q7 a0 2 #[(.int .i64 h)], Q7 z 4 #[(.bool false)], Q7 a2 48 #[(.string ⟨List.toArray a5⟩), (.string ⟨List.toArray a6⟩), (.int .i64 j)]]] 16 1 ⟨trivial, SP.drew b1⟩ ?_ ?_
   iterate 16 refine And.intro ?_ ?_
   exact trivial
   ·refine oL 0 ?_
    ·rintro ρ' w' hs hah ⟨e9, c6⟩
     refine kM (kc (kS hs 1 (pt q 0)) k0) fun hkn => ?_
     refine sL 29 1 q 0 2 (pt g4 0) 7 c6 rfl ?_
     exact eK hkn
   ·exact oV (hC (hA 0 7) (h0)) (pt g4 0)
   ·exact oV (hC (hA 1 8) (h0)) (pt g4 5)
   ·refine oL 0 ?_
    ·rintro ρ' w' hs hah ⟨f0, c7⟩
     refine kM (kc (kA hah 2 9) k0) fun hkn => ?_
     refine sL 77 9 g4 5 0 (.map (some f)) 10 c7 rfl ?_
     exact eK hkn
   ·refine oL 0 ?_
    ·rintro ρ' w' hs hah ⟨f1, c8⟩
     refine kM (kc (kS hs 2 (pt s 0)) k0) fun hkn => ?_
     refine sL 9 2 s 0 3 (.string ⟨List.toArray a⟩) 11 c8 rfl ?_
     exact eK hkn
   ·refine oL 0 ?_
    ·rintro ρ' w' hs hah ⟨f2, c9⟩
     refine kM (kc (kS hs 3 (pt u 0)) k0) fun hkn => ?_
     refine sL 9 3 u 0 4 (.string ⟨List.toArray b⟩) 12 c9 rfl ?_
     exact eK hkn
   ·exact oV (hC (hA 4 11) (hC (hA 5 12) (h0))) (.agg (Qb Qw ([a, b] : List (List UInt8))).toArray)
   ·refine oL 0 ?_
    ·rintro ρ' w' hs hah ⟨f3, d0⟩
     refine kM (kc (kA hah 3 10) (kc (kA hah 6 13) k0)) fun hkn => ?_
     refine D8 (T := 77) (kt := 83) (et := 3) (m := f) (L := c) (k := (a, b)) (x := (.tmp 10)) (ix := (.tmp 13)) (dst := (some 14)) (o := 7) K rfl K K K Dd (fun _ => rfl) (SP.get d0 (i := 1) rfl) (Ic a8).1 (Ic a8).2 ?_
     exact eK hkn
   ·exact oV (hC (hA 7 14) (h0)) (.bool ((Nx c (a, b)) == 0))
   ·exact oV (hC (hA 8 15) (h0)) (.bool ((Nx c (a, b)) == 0))
   ·exact oW (hC (hB 9 16 p) (h0)) 17
   ·exact oW (hC (hB 9 16 p) (h0)) 18
   ·exact oW (hC (hB 9 16 p) (h0)) 19
   ·exact oW (hC (hB 9 16 p) (h0)) 20
   ·exact oV (hC (hB 9 16 p) (hC (hA 13 20) (h0))) (.bool false)
   ·refine oH 0 1 ?_
    ·rintro ρ' w' hs hah ⟨f4, d1⟩
     refine kM (kc (kS hs 5 (pt z 0)) (kc (kA hah 14 21) k0)) fun hkn => ?_
     refine Qj.store (t := 4) (x := (.tmp 5)) (y := (.tmp 21)) (g := z) (off := 0) (i := 6) (v := (.bool false)) (cs' := #[(.bool false)]) (d := none) (k := 15) K rfl K K d1 rfl K ?_
     intro f5 d2
     refine ⟨_, Qa hkn, trivial, ?_⟩
     exact (And.intro (And.intro rfl (trivial)) (d2))
   ·rintro ρ' w' hs hf ⟨⟨f6, -⟩, b3⟩
    refine Vj [] trivial ?_
    obtain ⟨f7, d3⟩ : ∃ x, w' = x := ⟨_, rfl⟩
    rw [d3] at b3 ⊢
    exact ⟨false, trivial, SP.sel b3 [0, 1, 2, 3, 4, 5, 6] rfl rfl, H⟩
 ·rintro ρ f8 ⟨a9, hk, d4, H⟩
  unfold Yy at H
  first | refine At.known [] hk ?_ | rw [← Q9 (l := []) hk]
  refine ⟨(.tuple #[]), K, ?_⟩
  obtain rfl := Qm H
  exact ⟨rfl, SP.sel d4 [0,1,2,3,4,5,6] rfl rfl⟩
def Jv (c : (List UInt8)) (a : (List UInt8)) (d : Int) (q5 : (List UInt8)) (q7 : (List UInt8)) (q9 : (List UInt8)) (e : (List UInt8)) : Option ((List UInt8)) :=
  ((chk (Nat.ble (List.length a) 281474976710656)).bind fun _ => ((R7 a ([q5, q7, q9] : List (List UInt8))).bind fun b => (some (b))))
set_option maxRecDepth 100000 in
set_option maxHeartbeats 4000000 in
theorem Rf {S : List Nat} (g4 : Nat) (g6 : Nat) (g8 : Nat) (b : Nat) (c : (List UInt8)) (a : (List UInt8)) (f : Int) (q5 : (List UInt8)) (q7 : (List UInt8)) (q9 : (List UInt8)) (j : (List UInt8)) (w0 : World) (hO : SP S w0 w0 [Q7 g4 9 #[(.string ⟨List.toArray q5⟩)], Q7 g6 9 #[(.string ⟨List.toArray q7⟩)], Q7 g8 9 #[(.string ⟨List.toArray q9⟩)], Q7 b 9 #[(.string ⟨List.toArray j⟩)]])  (r : ((List UInt8))) (H : Jv c a f q5 q7 q9 j = some r) :
  Calls Tryz.prog 50 #[(.agg #[(.string ⟨List.toArray c⟩), (.string ⟨List.toArray a⟩), (.int .i64 f)]), (pt g4 0), (pt g6 0), (pt g8 0), (pt b 0)] w0 (fun e w' => e = .returned (.tuple #[]) ∧ SP S w0 w' [Q7 g4 9 #[(.string ⟨List.toArray q5⟩)], Q7 g6 9 #[(.string ⟨List.toArray q7⟩)], Q7 g8 9 #[(.string ⟨List.toArray q9⟩)], Q7 b 9 #[(.string ⟨List.toArray r⟩)]]) := by
 unfold Jv at H
 refine Qv (n := 14) Tryz.func50 K K K ?_
 have a0 := hO
 refine aQ ?_
 refine aR ?_
 refine iS 1 ?_
 refine Za (t := 48) (x := (.tmp 0)) (v := (.agg #[(.string ⟨List.toArray c⟩), (.string ⟨List.toArray a⟩), (.int .i64 f)])) (d := (some 5)) (k := 0) K rfl K a0 ?_
 intro m a8 q
 refine iF ?_
 refine aR ?_
 refine iR 1 1 [(6, (pt m 1))] ?_
 refine iS 2 ?_
 refine sL 9 6 m 1 4 (.string ⟨List.toArray a⟩) 7 q rfl ?_
 obtain ⟨a1, H⟩ := Vu H
 refine iS 3 ?_
 refine G2 (S' := 9) (T := 52) (E := 5) (x := (.tmp 7)) (l := a) (d := (some 8)) (k := 2) K rfl K K K K (G4 a1) q ?_
 intro s u a2 w _
 have h : SP S w0 a2 [Q7 g4 9 #[(.string ⟨List.toArray q5⟩)], Q7 g6 9 #[(.string ⟨List.toArray q7⟩)], Q7 g8 9 #[(.string ⟨List.toArray q9⟩)], Q7 b 9 #[(.string ⟨List.toArray j⟩)], Q7 m 48 #[(.string ⟨List.toArray c⟩), (.string ⟨List.toArray a⟩), (.int .i64 f)], rdE eU8 (some ⟨s, 0, none⟩) u a] := w
 clear w
 refine iS 4 ?_
 refine sL 9 1 g4 0 0 (.string ⟨List.toArray q5⟩) 9 h rfl ?_
 refine iS 5 ?_
 refine sL 9 2 g6 0 1 (.string ⟨List.toArray q7⟩) 10 h rfl ?_
 refine iS 6 ?_
 refine sL 9 3 g8 0 2 (.string ⟨List.toArray q9⟩) 11 h rfl ?_
 refine iS 7 ?_
 refine V6 (e := Qw) (T := 53) (E := 9) (len := 3) (parts := #[(0, (.tmp 9)), (1, (.tmp 10)), (2, (.tmp 11))]) (cs := #[(.string ⟨List.toArray q5⟩), (.string ⟨List.toArray q7⟩), (.string ⟨List.toArray q9⟩)]) ([q5, q7, q9] : List (List UInt8)) (d := (some 12)) (k := 6) K rfl (fun _ => K) h rfl rfl rfl rfl ?_
 intro a3 a4 o
 obtain ⟨p, a5, H⟩ := Qg H
 refine iS 8 ?_
 refine cF 51 #[(.tmp 8), (.tmp 12)] #[52, 53] 13 Tryz.call51 (C4 (some ⟨s, 0, none⟩) u (some ⟨a3, 0, none⟩) (List.length ([q5, q7, q9] : List (List UInt8))) a ([q5, q7, q9] : List (List UInt8)) a4 (Hi (SP.get o (i := 5) rfl)) (Vm (SP.get o (i := 6) rfl)) p a5) ?_
 rintro e a9 ⟨rfl, z⟩
 refine ⟨_, rfl, ?_⟩
 have a6 := SP.call o z
 clear z
 refine iS 9 ?_
 refine Qj.store (t := 9) (x := (.tmp 4)) (y := (.tmp 13)) (g := b) (off := 0) (i := 3) (v := (.string ⟨List.toArray p⟩)) (cs' := #[(.string ⟨List.toArray p⟩)]) (d := none) (k := 8) K rfl K K a6 rfl K ?_
 intro b0 a7
 refine iF ?_
 refine ⟨(.tuple #[]), K, ?_⟩
 obtain rfl := Qm H
 exact ⟨rfl, SP.sel a7 [0,1,2,3] rfl rfl⟩
def Vx (a : Int) (b : Int) (c : Int) (d : Int) (e : U2) (f : Bool) : Option (Int × Int × Int × Int × U2 × Bool) :=
  (some (a, b, c, d, e, f))
def Zr (q2 : Int) (q3 : Int) (q4 : Int) (q5 : Int) (q6 : (List Qk)) (d : U2) (f : (List UInt8)) (g : (List UInt8)) (h : (List UInt8)) (i : (List UInt8)) (e : Bool) : Option (Int × Int × Int × Int × U2 × Bool) :=
  ((J9 q2 q3 q4 q5 q6 f).bind fun b => ((Js b.1 b.2.1 b.2.2.1 b.2.2.2.1 b.2.2.2.2.1 g).bind fun c => (cond c.2.2.2 ((Jc c.1 c.2.1 c.2.2.1 h i q2 q3 q4 q5 q6 d e).bind fun a => (Vx a.1 a.2.1 a.2.2.1 a.2.2.2.1 a.2.2.2.2.1 a.2.2.2.2.2)) (Vx q2 q3 q4 q5 d e))))
set_option maxRecDepth 100000 in
set_option maxHeartbeats 4000000 in
theorem Ux {S : List Nat} (g1 : Nat) (A7 : Option Addr) (c8 : Nat) (j : Nat) (p : Nat) (q : Nat) (s : Nat) (u : Nat) (q2 : Int) (q3 : Int) (q4 : Int) (q5 : Int) (m : (List Vp)) (a7 : U2) (a8 : (List UInt8)) (a9 : (List UInt8)) (a4 : (List UInt8)) (a5 : (List UInt8)) (b0 : Bool) (w0 : World) (hO : SP S w0 w0 [Q7 g1 79 #[(.int .i64 q2), (.int .i64 q3), (.int .i64 q4), (.int .i64 q5), (.slice A7 (List.length (List.map stT m)) c8), (.map (some j))], Xg j a7, Q7 p 9 #[(.string ⟨List.toArray a4⟩)], Q7 q 9 #[(.string ⟨List.toArray a5⟩)], Q7 s 29 #[(pt g1 0)], Q7 u 4 #[(.bool b0)]]) (c3 : ∀ w, Mod S w0 w → (dDS Nm E2).ok w (A7, c8, m)) (r : (Int × Int × Int × Int × U2 × Bool)) (H : Zr q2 q3 q4 q5 (List.map stT m) a7 a8 a9 a4 a5 b0 = some r) :
  Calls Tryz.prog 45 #[(pt g1 0), (.string ⟨List.toArray a8⟩), (.string ⟨List.toArray a9⟩), (.func (.func 46) #[] #[(pt p 0), (pt q 0), (pt s 0), (pt u 0)])] w0 (fun e w' => e = .returned (.tuple #[]) ∧ SP S w0 w' [Q7 g1 79 #[(.int .i64 r.1), (.int .i64 r.2.1), (.int .i64 r.2.2.1), (.int .i64 r.2.2.2.1), (.slice A7 (List.length (List.map stT m)) c8), (.map (some j))], Xg j r.2.2.2.2.1, Q7 p 9 #[(.string ⟨List.toArray a4⟩)], Q7 q 9 #[(.string ⟨List.toArray a5⟩)], Q7 s 29 #[(pt g1 0)], Q7 u 4 #[(.bool r.2.2.2.2.2)]]) := by
 unfold Zr at H
 refine Qv (n := 31) Tryz.func45 K K K ?_
 have b2 := hO
 refine aQ ?_
 refine aR ?_
 refine iR 3 3 [(13, (pt g1 0)), (14, (pt g1 0)), (15, (pt g1 0))] ?_
 refine iS 4 ?_
 refine sL 24 15 g1 0 0 (.agg #[(.int .i64 q2), (.int .i64 q3), (.int .i64 q4), (.int .i64 q5), (.slice A7 (List.length (List.map stT m)) c8)]) 16 b2 rfl ?_
 refine iR 1 5 [(17, (.string ⟨List.toArray a8⟩))] ?_
 obtain ⟨a, c7, H⟩ := Qg H
 refine iS 6 ?_
 refine cF 67 #[(.tmp 16), (.tmp 17)] #[24, 9] 18 Tryz.call67 (N4 (R := fun w => Mod S w0 w) A7 c8 q2 q3 q4 q5 m a8 w0 (fun w hb => Fx b2 hb) c3 a c7) ?_
 rintro e e1 ⟨a0, a1, a2, a3, rfl, c9, d0, c4⟩
 refine ⟨_, rfl, ?_⟩
 have d1 := SP.call b2 c4
 clear c4
 refine iR 3 9 [(12, (.tuple #[(.agg #[(.string ⟨List.toArray a.1⟩), (.int .i64 a.2.1), (.int .i64 a.2.2.1), (.slice a0 (List.length a.2.2.2.1) a1), (.slice a2 (List.length a.2.2.2.2.1) a3)]), (.bool a.2.2.2.2.2)])), (19, (.agg #[(.string ⟨List.toArray a.1⟩), (.int .i64 a.2.1), (.int .i64 a.2.2.1), (.slice a0 (List.length a.2.2.2.1) a1), (.slice a2 (List.length a.2.2.2.2.1) a3)])), (20, (.bool a.2.2.2.2.2))] ?_
 refine iS 10 ?_
 refine Qj.alloc (t := 44) (z := (.agg #[(.string ⟨List.toArray ([] : List UInt8)⟩), (.int .i64 0), (.int .i64 0), (.slice none (List.length ([] : List (Int × Int))) 0), (.slice none (List.length ([] : List ((List UInt8) × (List UInt8) × Int))) 0)])) (d := (some 8)) (k := 9) K rfl K d1 ?_
 intro b3 e2 d2
 refine iS 11 ?_
 refine Qj.store (t := 44) (x := (.tmp 8)) (y := (.tmp 19)) (g := b3) (off := 0) (i := 6) (v := (.agg #[(.string ⟨List.toArray a.1⟩), (.int .i64 a.2.1), (.int .i64 a.2.2.1), (.slice a0 (List.length a.2.2.2.1) a1), (.slice a2 (List.length a.2.2.2.2.1) a3)])) (cs' := #[(.string ⟨List.toArray a.1⟩), (.int .i64 a.2.1), (.int .i64 a.2.2.1), (.slice a0 (List.length a.2.2.2.1) a1), (.slice a2 (List.length a.2.2.2.2.1) a3)]) (d := none) (k := 10) K rfl K K d2 rfl K ?_
 intro b4 b1
 refine iR 1 12 [(9, (.bool a.2.2.2.2.2))] ?_
 refine iF ?_
 refine aQ ?_
 refine aR ?_
 refine iS 1 ?_
 refine sL 44 8 b3 0 6 (.agg #[(.string ⟨List.toArray a.1⟩), (.int .i64 a.2.1), (.int .i64 a.2.2.1), (.slice a0 (List.length a.2.2.2.1) a1), (.slice a2 (List.length a.2.2.2.2.1) a3)]) 22 b1 rfl ?_
 refine iR 1 2 [(23, (.string ⟨List.toArray a9⟩))] ?_
 obtain ⟨c, d3, H⟩ := Qg H
 refine iS 3 ?_
 refine cF 68 #[(.tmp 22), (.tmp 23)] #[44, 9] 24 Tryz.call68 (No a0 a1 a2 a3 a.1 a.2.1 a.2.2.1 a.2.2.2.1 a.2.2.2.2.1 a9 b4 (c9 b4 (SP.mod b1)) (d0 b4 (SP.mod b1)) c d3) ?_
 rintro e e3 ⟨rfl, c5⟩
 refine ⟨_, rfl, ?_⟩
 have d4 := SP.call b1 c5
 clear c5
 refine iR 3 6 [(21, (.tuple #[(.agg #[(.string ⟨List.toArray c.1⟩), (.string ⟨List.toArray c.2.1⟩), (.int .i64 c.2.2.1)]), (.bool c.2.2.2)])), (25, (.agg #[(.string ⟨List.toArray c.1⟩), (.string ⟨List.toArray c.2.1⟩), (.int .i64 c.2.2.1)])), (26, (.bool c.2.2.2))] ?_
 refine iS 7 ?_
 refine Qj.alloc (t := 48) (z := (.agg #[(.string ⟨List.toArray ([] : List UInt8)⟩), (.string ⟨List.toArray ([] : List UInt8)⟩), (.int .i64 0)])) (d := (some 10)) (k := 6) K rfl K d4 ?_
 intro b5 e4 d5
 refine iS 8 ?_
 refine Qj.store (t := 48) (x := (.tmp 10)) (y := (.tmp 25)) (g := b5) (off := 0) (i := 7) (v := (.agg #[(.string ⟨List.toArray c.1⟩), (.string ⟨List.toArray c.2.1⟩), (.int .i64 c.2.2.1)])) (cs' := #[(.string ⟨List.toArray c.1⟩), (.string ⟨List.toArray c.2.1⟩), (.int .i64 c.2.2.1)]) (d := none) (k := 7) K rfl K K d5 rfl K ?_
 intro d6 a6
 refine iR 1 9 [(11, (.bool c.2.2.2))] ?_
 refine iF ?_
 refine aQ ?_
 refine aR ?_
 refine iR 1 1 [(27, (.bool c.2.2.2))] ?_
 refine iF ?_
 refine At.join (fun ρ w => ∃ (b6 : Int) (b7 : Int) (b8 : Int) (b9 : Int) (c0 : U2) (c1 : Bool), Zg ρ [] ∧ SP S w0 w [Q7 g1 79 #[(.int .i64 b6), (.int .i64 b7), (.int .i64 b8), (.int .i64 b9), (.slice A7 (List.length (List.map stT m)) c8), (.map (some j))], Xg j c0, Q7 p 9 #[(.string ⟨List.toArray a4⟩)], Q7 q 9 #[(.string ⟨List.toArray a5⟩)], Q7 s 29 #[(pt g1 0)], Q7 u 4 #[(.bool c1)]] ∧ Vx b6 b7 b8 b9 c0 c1 = some r) ?_ ?_
 ·refine Zs K (o := (.tmp 27)) K (b := c.2.2.2) K (fun c2 => ?_) (fun c2 => ?_)
  ·have H := ct H c2
   refine aR ?_
   refine iR 1 1 [(28, (.func (.func 46) #[] #[(pt p 0), (pt q 0), (pt s 0), (pt u 0)]))] ?_
   refine iS 2 ?_
   refine sL 48 10 b5 0 7 (.agg #[(.string ⟨List.toArray c.1⟩), (.string ⟨List.toArray c.2.1⟩), (.int .i64 c.2.2.1)]) 29 a6 rfl ?_
   obtain ⟨h, d7, H⟩ := Qg H
   refine iS 3 ?_
   refine Y0 (f := 46) (fo := (.tmp 28)) (xs := #[(.tmp 29)]) (tys := #[48]) (first := #[]) (captured := #[(pt p 0), (pt q 0), (pt s 0), (pt u 0)]) (d := (some 30)) (k := 2) K rfl K K Tryz.call46 (Gz p q g1 A7 c8 j s u c.1 c.2.1 c.2.2.1 a4 a5 q2 q3 q4 q5 m a7 b0 d6 (Nc a6 [2, 3, 0, 1, 4, 5] rfl rfl) (fun w hm => c3 w (SP.through a6 (l := [2, 3, 0, 1, 4, 5]) rfl hm)) h d7) ?_
   rintro e d8 ⟨rfl, c6⟩
   refine ⟨_, rfl, ?_⟩
   have d9 : SP S w0 d8 [Q7 b3 44 #[(.string ⟨List.toArray a.1⟩), (.int .i64 a.2.1), (.int .i64 a.2.2.1), (.slice a0 (List.length a.2.2.2.1) a1), (.slice a2 (List.length a.2.2.2.2.1) a3)], Q7 b5 48 #[(.string ⟨List.toArray c.1⟩), (.string ⟨List.toArray c.2.1⟩), (.int .i64 c.2.2.1)], Q7 p 9 #[(.string ⟨List.toArray a4⟩)], Q7 q 9 #[(.string ⟨List.toArray a5⟩)], Q7 g1 79 #[(.int .i64 h.1), (.int .i64 h.2.1), (.int .i64 h.2.2.1), (.int .i64 h.2.2.2.1), (.slice A7 (List.length (List.map stT m)) c8), (.map (some j))], Xg j h.2.2.2.2.1, Q7 s 29 #[(pt g1 0)], Q7 u 4 #[(.bool h.2.2.2.2.2)]] := Yg a6 [2, 3, 0, 1, 4, 5] [6, 7] rfl rfl c6 rfl
   clear c6
   refine iF ?_
   exact ⟨h.1, h.2.1, h.2.2.1, h.2.2.2.1, h.2.2.2.2.1, h.2.2.2.2.2, trivial, SP.sel d9 [4, 5, 2, 3, 6, 7] rfl rfl, H⟩
  ·have H := cf H c2
   refine At.skip K ?_
   exact ⟨q2, q3, q4, q5, a7, b0, trivial, SP.sel a6 [0, 1, 2, 3, 4, 5] rfl rfl, H⟩
 ·rintro ρ e5 ⟨b6, b7, b8, b9, c0, c1, hk, e0, H⟩
  unfold Vx at H
  first | refine At.known [] hk ?_ | rw [← Q9 (l := []) hk]
  refine ⟨(.tuple #[]), K, ?_⟩
  obtain rfl := Qm H
  exact ⟨rfl, SP.sel e0 [0,1,2,3,4,5] rfl rfl⟩
def Zo (a : Bool) : Option (Bool) :=
  (some (a))
def X3 (q2 : Int) (q3 : Int) (q4 : Int) (q5 : Int) (q6 : (List Qk)) (d : U2) (e : (List UInt8)) (f : (List UInt8)) (g : (List UInt8)) (h : (List UInt8)) (i : Int) (c : Bool) : Option (Bool) :=
  ((J9 q2 q3 q4 q5 q6 e).bind fun a => ((Js a.1 a.2.1 a.2.2.1 a.2.2.2.1 a.2.2.2.2.1 f).bind fun b => (cond b.2.2.2 ((U5 b.1 b.2.1 b.2.2.1 q2 q3 q4 q5 q6 d g h i c).bind fun j => (Zo j)) (Zo c))))
set_option maxRecDepth 100000 in
set_option maxHeartbeats 4000000 in
theorem U6 {S : List Nat} (g1 : Nat) (A7 : Option Addr) (c8 : Nat) (h : Nat) (m : Nat) (p : Nat) (q : Nat) (s : Nat) (u : Nat) (q2 : Int) (q3 : Int) (q4 : Int) (q5 : Int) (j : (List Vp)) (a4 : U2) (a9 : (List UInt8)) (b0 : (List UInt8)) (a5 : (List UInt8)) (a6 : (List UInt8)) (a7 : Int) (b1 : Bool) (w0 : World) (hO : SP S w0 w0 [Q7 g1 79 #[(.int .i64 q2), (.int .i64 q3), (.int .i64 q4), (.int .i64 q5), (.slice A7 (List.length (List.map stT j)) c8), (.map (some h))], Xg h a4, Q7 m 29 #[(pt g1 0)], Q7 p 9 #[(.string ⟨List.toArray a5⟩)], Q7 q 9 #[(.string ⟨List.toArray a6⟩)], Q7 s 2 #[(.int .i64 a7)], Q7 u 4 #[(.bool b1)]]) (c0 : ∀ w, Mod S w0 w → (dDS Nm E2).ok w (A7, c8, j)) (r : (Bool)) (H : X3 q2 q3 q4 q5 (List.map stT j) a4 a9 b0 a5 a6 a7 b1 = some r) :
  Calls Tryz.prog 45 #[(pt g1 0), (.string ⟨List.toArray a9⟩), (.string ⟨List.toArray b0⟩), (.func (.func 49) #[] #[(pt m 0), (pt p 0), (pt q 0), (pt s 0), (pt u 0)])] w0 (fun e w' => e = .returned (.tuple #[]) ∧ SP S w0 w' [Q7 g1 79 #[(.int .i64 q2), (.int .i64 q3), (.int .i64 q4), (.int .i64 q5), (.slice A7 (List.length (List.map stT j)) c8), (.map (some h))], Xg h a4, Q7 m 29 #[(pt g1 0)], Q7 p 9 #[(.string ⟨List.toArray a5⟩)], Q7 q 9 #[(.string ⟨List.toArray a6⟩)], Q7 s 2 #[(.int .i64 a7)], Q7 u 4 #[(.bool r)]]) := by
 unfold X3 at H
 refine Qv (n := 31) Tryz.func45 K K K ?_
 have b3 := hO
 refine aQ ?_
 refine aR ?_
 refine iR 3 3 [(13, (pt g1 0)), (14, (pt g1 0)), (15, (pt g1 0))] ?_
 refine iS 4 ?_
 refine sL 24 15 g1 0 0 (.agg #[(.int .i64 q2), (.int .i64 q3), (.int .i64 q4), (.int .i64 q5), (.slice A7 (List.length (List.map stT j)) c8)]) 16 b3 rfl ?_
 refine iR 1 5 [(17, (.string ⟨List.toArray a9⟩))] ?_
 obtain ⟨a, c4, H⟩ := Qg H
 refine iS 6 ?_
 refine cF 67 #[(.tmp 16), (.tmp 17)] #[24, 9] 18 Tryz.call67 (N4 (R := fun w => Mod S w0 w) A7 c8 q2 q3 q4 q5 j a9 w0 (fun w hb => Fx b3 hb) c0 a c4) ?_
 rintro e d8 ⟨a0, a1, a2, a3, rfl, c5, c6, c1⟩
 refine ⟨_, rfl, ?_⟩
 have c7 := SP.call b3 c1
 clear c1
 refine iR 3 9 [(12, (.tuple #[(.agg #[(.string ⟨List.toArray a.1⟩), (.int .i64 a.2.1), (.int .i64 a.2.2.1), (.slice a0 (List.length a.2.2.2.1) a1), (.slice a2 (List.length a.2.2.2.2.1) a3)]), (.bool a.2.2.2.2.2)])), (19, (.agg #[(.string ⟨List.toArray a.1⟩), (.int .i64 a.2.1), (.int .i64 a.2.2.1), (.slice a0 (List.length a.2.2.2.1) a1), (.slice a2 (List.length a.2.2.2.2.1) a3)])), (20, (.bool a.2.2.2.2.2))] ?_
 refine iS 10 ?_
 refine Qj.alloc (t := 44) (z := (.agg #[(.string ⟨List.toArray ([] : List UInt8)⟩), (.int .i64 0), (.int .i64 0), (.slice none (List.length ([] : List (Int × Int))) 0), (.slice none (List.length ([] : List ((List UInt8) × (List UInt8) × Int))) 0)])) (d := (some 8)) (k := 9) K rfl K c7 ?_
 intro b4 d9 c9
 refine iS 11 ?_
 refine Qj.store (t := 44) (x := (.tmp 8)) (y := (.tmp 19)) (g := b4) (off := 0) (i := 7) (v := (.agg #[(.string ⟨List.toArray a.1⟩), (.int .i64 a.2.1), (.int .i64 a.2.2.1), (.slice a0 (List.length a.2.2.2.1) a1), (.slice a2 (List.length a.2.2.2.2.1) a3)])) (cs' := #[(.string ⟨List.toArray a.1⟩), (.int .i64 a.2.1), (.int .i64 a.2.2.1), (.slice a0 (List.length a.2.2.2.1) a1), (.slice a2 (List.length a.2.2.2.2.1) a3)]) (d := none) (k := 10) K rfl K K c9 rfl K ?_
 intro b5 b2
 refine iR 1 12 [(9, (.bool a.2.2.2.2.2))] ?_
 refine iF ?_
 refine aQ ?_
 refine aR ?_
 refine iS 1 ?_
 refine sL 44 8 b4 0 7 (.agg #[(.string ⟨List.toArray a.1⟩), (.int .i64 a.2.1), (.int .i64 a.2.2.1), (.slice a0 (List.length a.2.2.2.1) a1), (.slice a2 (List.length a.2.2.2.2.1) a3)]) 22 b2 rfl ?_
 refine iR 1 2 [(23, (.string ⟨List.toArray b0⟩))] ?_
 obtain ⟨c, d0, H⟩ := Qg H
 refine iS 3 ?_
 refine cF 68 #[(.tmp 22), (.tmp 23)] #[44, 9] 24 Tryz.call68 (No a0 a1 a2 a3 a.1 a.2.1 a.2.2.1 a.2.2.2.1 a.2.2.2.2.1 b0 b5 (c5 b5 (SP.mod b2)) (c6 b5 (SP.mod b2)) c d0) ?_
 rintro e e0 ⟨rfl, c2⟩
 refine ⟨_, rfl, ?_⟩
 have d1 := SP.call b2 c2
 clear c2
 refine iR 3 6 [(21, (.tuple #[(.agg #[(.string ⟨List.toArray c.1⟩), (.string ⟨List.toArray c.2.1⟩), (.int .i64 c.2.2.1)]), (.bool c.2.2.2)])), (25, (.agg #[(.string ⟨List.toArray c.1⟩), (.string ⟨List.toArray c.2.1⟩), (.int .i64 c.2.2.1)])), (26, (.bool c.2.2.2))] ?_
 refine iS 7 ?_
 refine Qj.alloc (t := 48) (z := (.agg #[(.string ⟨List.toArray ([] : List UInt8)⟩), (.string ⟨List.toArray ([] : List UInt8)⟩), (.int .i64 0)])) (d := (some 10)) (k := 6) K rfl K d1 ?_
 intro b6 e1 d2
 refine iS 8 ?_
 refine Qj.store (t := 48) (x := (.tmp 10)) (y := (.tmp 25)) (g := b6) (off := 0) (i := 8) (v := (.agg #[(.string ⟨List.toArray c.1⟩), (.string ⟨List.toArray c.2.1⟩), (.int .i64 c.2.2.1)])) (cs' := #[(.string ⟨List.toArray c.1⟩), (.string ⟨List.toArray c.2.1⟩), (.int .i64 c.2.2.1)]) (d := none) (k := 7) K rfl K K d2 rfl K ?_
 intro d3 a8
 refine iR 1 9 [(11, (.bool c.2.2.2))] ?_
 refine iF ?_
 refine aQ ?_
 refine aR ?_
 refine iR 1 1 [(27, (.bool c.2.2.2))] ?_
 refine iF ?_
 refine At.join (fun ρ w => ∃ (b7 : Bool), Zg ρ [] ∧ SP S w0 w [Q7 g1 79 #[(.int .i64 q2), (.int .i64 q3), (.int .i64 q4), (.int .i64 q5), (.slice A7 (List.length (List.map stT j)) c8), (.map (some h))], Xg h a4, Q7 m 29 #[(pt g1 0)], Q7 p 9 #[(.string ⟨List.toArray a5⟩)], Q7 q 9 #[(.string ⟨List.toArray a6⟩)], Q7 s 2 #[(.int .i64 a7)], Q7 u 4 #[(.bool b7)]] ∧ Zo b7 = some r) ?_ ?_
 ·refine Zs K (o := (.tmp 27)) K (b := c.2.2.2) K (fun b8 => ?_) (fun b8 => ?_)
  ·have H := ct H b8
   refine aR ?_
   refine iR 1 1 [(28, (.func (.func 49) #[] #[(pt m 0), (pt p 0), (pt q 0), (pt s 0), (pt u 0)]))] ?_
   refine iS 2 ?_
   refine sL 48 10 b6 0 8 (.agg #[(.string ⟨List.toArray c.1⟩), (.string ⟨List.toArray c.2.1⟩), (.int .i64 c.2.2.1)]) 29 a8 rfl ?_
   obtain ⟨b9, d4, H⟩ := Qg H
   refine iS 3 ?_
   refine Y0 (f := 49) (fo := (.tmp 28)) (xs := #[(.tmp 29)]) (tys := #[48]) (first := #[]) (captured := #[(pt m 0), (pt p 0), (pt q 0), (pt s 0), (pt u 0)]) (d := (some 30)) (k := 2) K rfl K K Tryz.call49 (Re g1 A7 c8 h m p q s u c.1 c.2.1 c.2.2.1 q2 q3 q4 q5 j a4 a5 a6 a7 b1 d3 (Nc a8 [0, 1, 2, 3, 4, 5, 6] rfl rfl) (fun w hm => c0 w (SP.through a8 (l := [0, 1, 2, 3, 4, 5, 6]) rfl hm)) b9 d4) ?_
   rintro e d5 ⟨rfl, c3⟩
   refine ⟨_, rfl, ?_⟩
   have d6 : SP S w0 d5 [Q7 b4 44 #[(.string ⟨List.toArray a.1⟩), (.int .i64 a.2.1), (.int .i64 a.2.2.1), (.slice a0 (List.length a.2.2.2.1) a1), (.slice a2 (List.length a.2.2.2.2.1) a3)], Q7 b6 48 #[(.string ⟨List.toArray c.1⟩), (.string ⟨List.toArray c.2.1⟩), (.int .i64 c.2.2.1)], Q7 g1 79 #[(.int .i64 q2), (.int .i64 q3), (.int .i64 q4), (.int .i64 q5), (.slice A7 (List.length (List.map stT j)) c8), (.map (some h))], Xg h a4, Q7 m 29 #[(pt g1 0)], Q7 p 9 #[(.string ⟨List.toArray a5⟩)], Q7 q 9 #[(.string ⟨List.toArray a6⟩)], Q7 s 2 #[(.int .i64 a7)], Q7 u 4 #[(.bool b9)]] := Yg a8 [0, 1, 2, 3, 4, 5, 6] [7, 8] rfl rfl c3 rfl
   clear c3
   refine iF ?_
   exact ⟨b9, trivial, SP.sel d6 [2, 3, 4, 5, 6, 7, 8] rfl rfl, H⟩
  ·have H := cf H b8
   refine At.skip K ?_
   exact ⟨b1, trivial, SP.sel a8 [0, 1, 2, 3, 4, 5, 6] rfl rfl, H⟩
 ·rintro ρ e2 ⟨b7, hk, d7, H⟩
  unfold Zo at H
  first | refine At.known [] hk ?_ | rw [← Q9 (l := []) hk]
  refine ⟨(.tuple #[]), K, ?_⟩
  obtain rfl := Qm H
  exact ⟨rfl, SP.sel d7 [0,1,2,3,4,5,6] rfl rfl⟩
def V4 (a : (List UInt8)) : Option ((List UInt8)) :=
  (some (a))
def Z5 (q2 : Int) (q3 : Int) (q4 : Int) (q5 : Int) (q6 : (List Qk)) (j : U2) (d : (List UInt8)) (e : (List UInt8)) (f : (List UInt8)) (g : (List UInt8)) (h : (List UInt8)) (c : (List UInt8)) : Option ((List UInt8)) :=
  ((J9 q2 q3 q4 q5 q6 d).bind fun a => ((Js a.1 a.2.1 a.2.2.1 a.2.2.2.1 a.2.2.2.2.1 e).bind fun b => (cond b.2.2.2 ((Jv b.1 b.2.1 b.2.2.1 f g h c).bind fun i => (V4 i)) (V4 c))))
set_option maxRecDepth 100000 in
set_option maxHeartbeats 4000000 in
theorem U7 {S : List Nat} (g1 : Nat) (A7 : Option Addr) (c8 : Nat) (h : Nat) (j : Nat) (m : Nat) (p : Nat) (q : Nat) (q2 : Int) (q3 : Int) (q4 : Int) (q5 : Int) (s : (List Vp)) (a6 : U2) (a7 : (List UInt8)) (a8 : (List UInt8)) (a3 : (List UInt8)) (a4 : (List UInt8)) (a5 : (List UInt8)) (a9 : (List UInt8)) (w0 : World) (hO : SP S w0 w0 [Q7 g1 79 #[(.int .i64 q2), (.int .i64 q3), (.int .i64 q4), (.int .i64 q5), (.slice A7 (List.length (List.map stT s)) c8), (.map (some h))], Xg h a6, Q7 j 9 #[(.string ⟨List.toArray a3⟩)], Q7 m 9 #[(.string ⟨List.toArray a4⟩)], Q7 p 9 #[(.string ⟨List.toArray a5⟩)], Q7 q 9 #[(.string ⟨List.toArray a9⟩)]]) (c2 : ∀ w, Mod S w0 w → (dDS Nm E2).ok w (A7, c8, s)) (r : ((List UInt8))) (H : Z5 q2 q3 q4 q5 (List.map stT s) a6 a7 a8 a3 a4 a5 a9 = some r) :
  Calls Tryz.prog 45 #[(pt g1 0), (.string ⟨List.toArray a7⟩), (.string ⟨List.toArray a8⟩), (.func (.func 50) #[] #[(pt j 0), (pt m 0), (pt p 0), (pt q 0)])] w0 (fun e w' => e = .returned (.tuple #[]) ∧ SP S w0 w' [Q7 g1 79 #[(.int .i64 q2), (.int .i64 q3), (.int .i64 q4), (.int .i64 q5), (.slice A7 (List.length (List.map stT s)) c8), (.map (some h))], Xg h a6, Q7 j 9 #[(.string ⟨List.toArray a3⟩)], Q7 m 9 #[(.string ⟨List.toArray a4⟩)], Q7 p 9 #[(.string ⟨List.toArray a5⟩)], Q7 q 9 #[(.string ⟨List.toArray r⟩)]]) := by
 unfold Z5 at H
 refine Qv (n := 31) Tryz.func45 K K K ?_
 have b2 := hO
 refine aQ ?_
 refine aR ?_
 refine iR 3 3 [(13, (pt g1 0)), (14, (pt g1 0)), (15, (pt g1 0))] ?_
 refine iS 4 ?_
 refine sL 24 15 g1 0 0 (.agg #[(.int .i64 q2), (.int .i64 q3), (.int .i64 q4), (.int .i64 q5), (.slice A7 (List.length (List.map stT s)) c8)]) 16 b2 rfl ?_
 refine iR 1 5 [(17, (.string ⟨List.toArray a7⟩))] ?_
 obtain ⟨a, c3, H⟩ := Qg H
 refine iS 6 ?_
 refine cF 67 #[(.tmp 16), (.tmp 17)] #[24, 9] 18 Tryz.call67 (N4 (R := fun w => Mod S w0 w) A7 c8 q2 q3 q4 q5 s a7 w0 (fun w hb => Fx b2 hb) c2 a c3) ?_
 rintro e d7 ⟨u, a0, a1, a2, rfl, c4, c5, b9⟩
 refine ⟨_, rfl, ?_⟩
 have c6 := SP.call b2 b9
 clear b9
 refine iR 3 9 [(12, (.tuple #[(.agg #[(.string ⟨List.toArray a.1⟩), (.int .i64 a.2.1), (.int .i64 a.2.2.1), (.slice u (List.length a.2.2.2.1) a0), (.slice a1 (List.length a.2.2.2.2.1) a2)]), (.bool a.2.2.2.2.2)])), (19, (.agg #[(.string ⟨List.toArray a.1⟩), (.int .i64 a.2.1), (.int .i64 a.2.2.1), (.slice u (List.length a.2.2.2.1) a0), (.slice a1 (List.length a.2.2.2.2.1) a2)])), (20, (.bool a.2.2.2.2.2))] ?_
 refine iS 10 ?_
 refine Qj.alloc (t := 44) (z := (.agg #[(.string ⟨List.toArray ([] : List UInt8)⟩), (.int .i64 0), (.int .i64 0), (.slice none (List.length ([] : List (Int × Int))) 0), (.slice none (List.length ([] : List ((List UInt8) × (List UInt8) × Int))) 0)])) (d := (some 8)) (k := 9) K rfl K c6 ?_
 intro b3 d8 c7
 refine iS 11 ?_
 refine Qj.store (t := 44) (x := (.tmp 8)) (y := (.tmp 19)) (g := b3) (off := 0) (i := 6) (v := (.agg #[(.string ⟨List.toArray a.1⟩), (.int .i64 a.2.1), (.int .i64 a.2.2.1), (.slice u (List.length a.2.2.2.1) a0), (.slice a1 (List.length a.2.2.2.2.1) a2)])) (cs' := #[(.string ⟨List.toArray a.1⟩), (.int .i64 a.2.1), (.int .i64 a.2.2.1), (.slice u (List.length a.2.2.2.1) a0), (.slice a1 (List.length a.2.2.2.2.1) a2)]) (d := none) (k := 10) K rfl K K c7 rfl K ?_
 intro b4 b0
 refine iR 1 12 [(9, (.bool a.2.2.2.2.2))] ?_
 refine iF ?_
 refine aQ ?_
 refine aR ?_
 refine iS 1 ?_
 refine sL 44 8 b3 0 6 (.agg #[(.string ⟨List.toArray a.1⟩), (.int .i64 a.2.1), (.int .i64 a.2.2.1), (.slice u (List.length a.2.2.2.1) a0), (.slice a1 (List.length a.2.2.2.2.1) a2)]) 22 b0 rfl ?_
 refine iR 1 2 [(23, (.string ⟨List.toArray a8⟩))] ?_
 obtain ⟨c, c9, H⟩ := Qg H
 refine iS 3 ?_
 refine cF 68 #[(.tmp 22), (.tmp 23)] #[44, 9] 24 Tryz.call68 (No u a0 a1 a2 a.1 a.2.1 a.2.2.1 a.2.2.2.1 a.2.2.2.2.1 a8 b4 (c4 b4 (SP.mod b0)) (c5 b4 (SP.mod b0)) c c9) ?_
 rintro e d9 ⟨rfl, c0⟩
 refine ⟨_, rfl, ?_⟩
 have d0 := SP.call b0 c0
 clear c0
 refine iR 3 6 [(21, (.tuple #[(.agg #[(.string ⟨List.toArray c.1⟩), (.string ⟨List.toArray c.2.1⟩), (.int .i64 c.2.2.1)]), (.bool c.2.2.2)])), (25, (.agg #[(.string ⟨List.toArray c.1⟩), (.string ⟨List.toArray c.2.1⟩), (.int .i64 c.2.2.1)])), (26, (.bool c.2.2.2))] ?_
 refine iS 7 ?_
 refine Qj.alloc (t := 48) (z := (.agg #[(.string ⟨List.toArray ([] : List UInt8)⟩), (.string ⟨List.toArray ([] : List UInt8)⟩), (.int .i64 0)])) (d := (some 10)) (k := 6) K rfl K d0 ?_
 intro b5 e0 d1
 refine iS 8 ?_
 refine Qj.store (t := 48) (x := (.tmp 10)) (y := (.tmp 25)) (g := b5) (off := 0) (i := 7) (v := (.agg #[(.string ⟨List.toArray c.1⟩), (.string ⟨List.toArray c.2.1⟩), (.int .i64 c.2.2.1)])) (cs' := #[(.string ⟨List.toArray c.1⟩), (.string ⟨List.toArray c.2.1⟩), (.int .i64 c.2.2.1)]) (d := none) (k := 7) K rfl K K d1 rfl K ?_
 intro d2 b1
 refine iR 1 9 [(11, (.bool c.2.2.2))] ?_
 refine iF ?_
 refine aQ ?_
 refine aR ?_
 refine iR 1 1 [(27, (.bool c.2.2.2))] ?_
 refine iF ?_
 refine At.join (fun ρ w => ∃ (b6 : (List UInt8)), Zg ρ [] ∧ SP S w0 w [Q7 g1 79 #[(.int .i64 q2), (.int .i64 q3), (.int .i64 q4), (.int .i64 q5), (.slice A7 (List.length (List.map stT s)) c8), (.map (some h))], Xg h a6, Q7 j 9 #[(.string ⟨List.toArray a3⟩)], Q7 m 9 #[(.string ⟨List.toArray a4⟩)], Q7 p 9 #[(.string ⟨List.toArray a5⟩)], Q7 q 9 #[(.string ⟨List.toArray b6⟩)]] ∧ V4 b6 = some r) ?_ ?_
 ·refine Zs K (o := (.tmp 27)) K (b := c.2.2.2) K (fun b7 => ?_) (fun b7 => ?_)
  ·have H := ct H b7
   refine aR ?_
   refine iR 1 1 [(28, (.func (.func 50) #[] #[(pt j 0), (pt m 0), (pt p 0), (pt q 0)]))] ?_
   refine iS 2 ?_
   refine sL 48 10 b5 0 7 (.agg #[(.string ⟨List.toArray c.1⟩), (.string ⟨List.toArray c.2.1⟩), (.int .i64 c.2.2.1)]) 29 b1 rfl ?_
   obtain ⟨b8, d3, H⟩ := Qg H
   refine iS 3 ?_
   refine Y0 (f := 50) (fo := (.tmp 28)) (xs := #[(.tmp 29)]) (tys := #[48]) (first := #[]) (captured := #[(pt j 0), (pt m 0), (pt p 0), (pt q 0)]) (d := (some 30)) (k := 2) K rfl K K Tryz.call50 (Rf j m p q c.1 c.2.1 c.2.2.1 a3 a4 a5 a9 d2 (Nc b1 [2, 3, 4, 5] rfl rfl) b8 d3) ?_
   rintro e d4 ⟨rfl, c1⟩
   refine ⟨_, rfl, ?_⟩
   have d5 : SP S w0 d4 [Q7 g1 79 #[(.int .i64 q2), (.int .i64 q3), (.int .i64 q4), (.int .i64 q5), (.slice A7 (List.length (List.map stT s)) c8), (.map (some h))], Xg h a6, Q7 b3 44 #[(.string ⟨List.toArray a.1⟩), (.int .i64 a.2.1), (.int .i64 a.2.2.1), (.slice u (List.length a.2.2.2.1) a0), (.slice a1 (List.length a.2.2.2.2.1) a2)], Q7 b5 48 #[(.string ⟨List.toArray c.1⟩), (.string ⟨List.toArray c.2.1⟩), (.int .i64 c.2.2.1)], Q7 j 9 #[(.string ⟨List.toArray a3⟩)], Q7 m 9 #[(.string ⟨List.toArray a4⟩)], Q7 p 9 #[(.string ⟨List.toArray a5⟩)], Q7 q 9 #[(.string ⟨List.toArray b8⟩)]] := Yg b1 [2, 3, 4, 5] [0, 1, 6, 7] rfl rfl c1 rfl
   clear c1
   refine iF ?_
   exact ⟨b8, trivial, SP.sel d5 [0, 1, 4, 5, 6, 7] rfl rfl, H⟩
  ·have H := cf H b7
   refine At.skip K ?_
   exact ⟨a9, trivial, SP.sel b1 [0, 1, 2, 3, 4, 5] rfl rfl, H⟩
 ·rintro ρ e1 ⟨b6, hk, d6, H⟩
  unfold V4 at H
  first | refine At.known [] hk ?_ | rw [← Q9 (l := []) hk]
  refine ⟨(.tuple #[]), K, ?_⟩
  obtain rfl := Qm H
  exact ⟨rfl, SP.sel d6 [0,1,2,3,4,5] rfl rfl⟩
def Xk (q2 : Int) (q3 : Int) (q4 : Int) (q5 : Int) (q6 : (List Qk)) (d : U2) (b : (List UInt8)) (c : (List UInt8)) : Option (Bool × Int × Int × Int × Int × U2) :=
  ((Zr q2 q3 q4 q5 q6 d b c b c false).bind fun a => (some (a.2.2.2.2.2, a.1, a.2.1, a.2.2.1, a.2.2.2.1, a.2.2.2.2.1)))
set_option maxRecDepth 100000 in
set_option maxHeartbeats 4000000 in
theorem Jt {S : List Nat} (g1 : Nat) (A7 : Option Addr) (c8 : Nat) (b : Nat) (q2 : Int) (q3 : Int) (q4 : Int) (q5 : Int) (h : (List Vp)) (s : U2) (c : (List UInt8)) (f : (List UInt8)) (w0 : World) (hO : SP S w0 w0 [Q7 g1 79 #[(.int .i64 q2), (.int .i64 q3), (.int .i64 q4), (.int .i64 q5), (.slice A7 (List.length (List.map stT h)) c8), (.map (some b))], Xg b s]) (a1 : ∀ w, Mod S w0 w → (dDS Nm E2).ok w (A7, c8, h)) (r : (Bool × Int × Int × Int × Int × U2)) (H : Xk q2 q3 q4 q5 (List.map stT h) s c f = some r) :
  Calls Tryz.prog 20 #[(pt g1 0), (.string ⟨List.toArray c⟩), (.string ⟨List.toArray f⟩)] w0 (fun e w' => e = .returned (.bool r.1) ∧ SP S w0 w' [Q7 g1 79 #[(.int .i64 r.2.1), (.int .i64 r.2.2.1), (.int .i64 r.2.2.2.1), (.int .i64 r.2.2.2.2.1), (.slice A7 (List.length (List.map stT h)) c8), (.map (some b))], Xg b r.2.2.2.2.2]) := by
 unfold Xk at H
 refine Qv (n := 14) Tryz.func20 K K K ?_
 have a2 := hO
 refine aQ ?_
 refine aR ?_
 refine iS 1 ?_
 refine Za (t := 29) (x := (.tmp 0)) (v := (pt g1 0)) (d := (some 3)) (k := 0) K rfl K a2 ?_
 intro o b0 a3
 refine iS 2 ?_
 refine Za (t := 9) (x := (.tmp 1)) (v := (.string ⟨List.toArray c⟩)) (d := (some 4)) (k := 1) K rfl K a3 ?_
 intro p b1 a4
 refine iS 3 ?_
 refine Za (t := 9) (x := (.tmp 2)) (v := (.string ⟨List.toArray f⟩)) (d := (some 5)) (k := 2) K rfl K a4 ?_
 intro q b2 a5
 refine iR 1 4 [(6, (.bool false))] ?_
 refine iF ?_
 refine aQ ?_
 refine aR ?_
 refine iS 1 ?_
 refine Qj.alloc (t := 4) (z := (.bool false)) (d := (some 7)) (k := 0) K rfl K a5 ?_
 intro m b3 a6
 refine iS 2 ?_
 refine Qj.store (t := 4) (x := (.tmp 7)) (y := (.const (.bool false))) (g := m) (off := 0) (i := 5) (v := (.bool false)) (cs' := #[(.bool false)]) (d := none) (k := 1) K rfl K K a6 rfl K ?_
 intro a7 j
 refine iF ?_
 refine aQ ?_
 refine aR ?_
 refine iS 1 ?_
 refine sL 29 3 o 0 2 (pt g1 0) 8 j rfl ?_
 refine iS 2 ?_
 refine sL 9 4 p 0 3 (.string ⟨List.toArray c⟩) 9 j rfl ?_
 refine iS 3 ?_
 refine sL 9 5 q 0 4 (.string ⟨List.toArray f⟩) 10 j rfl ?_
 refine iR 1 4 [(11, (.func (.func 46) #[] #[(pt p 0), (pt q 0), (pt o 0), (pt m 0)]))] ?_
 obtain ⟨a, a8, H⟩ := Qg H
 refine iS 5 ?_
 refine cF 45 #[(.tmp 8), (.tmp 9), (.tmp 10), (.tmp 11)] #[29, 9, 9, 84] 12 Tryz.call45 (Ux g1 A7 c8 b p q o m q2 q3 q4 q5 h s c f c f false a7 (Nc j [0, 1, 3, 4, 2, 5] rfl rfl) (fun w hm => a1 w (SP.through j (l := [0, 1, 3, 4, 2, 5]) rfl hm)) a a8) ?_
 rintro e a9 ⟨rfl, u⟩
 refine ⟨_, rfl, ?_⟩
 have a0 : SP S w0 a9 [Q7 g1 79 #[(.int .i64 a.1), (.int .i64 a.2.1), (.int .i64 a.2.2.1), (.int .i64 a.2.2.2.1), (.slice A7 (List.length (List.map stT h)) c8), (.map (some b))], Xg b a.2.2.2.2.1, Q7 p 9 #[(.string ⟨List.toArray c⟩)], Q7 q 9 #[(.string ⟨List.toArray f⟩)], Q7 o 29 #[(pt g1 0)], Q7 m 4 #[(.bool a.2.2.2.2.2)]] := Yg j [0, 1, 3, 4, 2, 5] [] rfl rfl u rfl
 clear u
 refine iF ?_
 refine aQ ?_
 refine aR ?_
 refine iS 1 ?_
 refine sL 4 7 m 0 5 (.bool a.2.2.2.2.2) 13 a0 rfl ?_
 refine iR 1 2 [(6, (.bool a.2.2.2.2.2))] ?_
 refine iF ?_
 refine At.ret K ?_
 refine ⟨(.bool a.2.2.2.2.2), K, ?_⟩
 obtain rfl := Qm H
 exact ⟨rfl, SP.sel a0 [0,1] rfl rfl⟩
def Jo (q2 : Int) (q3 : Int) (q4 : Int) (q5 : Int) (q6 : (List Qk)) (c : U2) (a : (List UInt8)) (b : (List UInt8)) (d : Int) : Option (Bool) :=
  ((X3 q2 q3 q4 q5 q6 c a b a b d false).bind fun e => (some (e)))
set_option maxRecDepth 100000 in
set_option maxHeartbeats 4000000 in
theorem Ub {S : List Nat} (g1 : Nat) (A7 : Option Addr) (c8 : Nat) (a : Nat) (q2 : Int) (q3 : Int) (q4 : Int) (q5 : Int) (f : (List Vp)) (j : U2) (b : (List UInt8)) (c : (List UInt8)) (m : Int) (w0 : World) (hO : SP S w0 w0 [Q7 g1 79 #[(.int .i64 q2), (.int .i64 q3), (.int .i64 q4), (.int .i64 q5), (.slice A7 (List.length (List.map stT f)) c8), (.map (some a))], Xg a j]) (a3 : ∀ w, Mod S w0 w → (dDS Nm E2).ok w (A7, c8, f)) (r : (Bool)) (H : Jo q2 q3 q4 q5 (List.map stT f) j b c m = some r) :
  Calls Tryz.prog 22 #[(pt g1 0), (.string ⟨List.toArray b⟩), (.string ⟨List.toArray c⟩), (.int .i64 m)] w0 (fun e w' => e = .returned (.bool r) ∧ SP S w0 w' [Q7 g1 79 #[(.int .i64 q2), (.int .i64 q3), (.int .i64 q4), (.int .i64 q5), (.slice A7 (List.length (List.map stT f)) c8), (.map (some a))], Xg a j]) := by
 unfold Jo at H
 refine Qv (n := 16) Tryz.func22 K K K ?_
 have a4 := hO
 refine aQ ?_
 refine aR ?_
 refine iS 1 ?_
 refine Za (t := 29) (x := (.tmp 0)) (v := (pt g1 0)) (d := (some 4)) (k := 0) K rfl K a4 ?_
 intro q b3 a5
 refine iS 2 ?_
 refine Za (t := 9) (x := (.tmp 1)) (v := (.string ⟨List.toArray b⟩)) (d := (some 5)) (k := 1) K rfl K a5 ?_
 intro s b4 a6
 refine iS 3 ?_
 refine Za (t := 9) (x := (.tmp 2)) (v := (.string ⟨List.toArray c⟩)) (d := (some 6)) (k := 2) K rfl K a6 ?_
 intro u b5 a7
 refine iS 4 ?_
 refine Za (t := 2) (x := (.tmp 3)) (v := (.int .i64 m)) (d := (some 7)) (k := 3) K rfl K a7 ?_
 intro a0 b6 a8
 refine iR 1 5 [(8, (.bool false))] ?_
 refine iF ?_
 refine aQ ?_
 refine aR ?_
 refine iS 1 ?_
 refine Qj.alloc (t := 4) (z := (.bool false)) (d := (some 9)) (k := 0) K rfl K a8 ?_
 intro o b7 a9
 refine iS 2 ?_
 refine Qj.store (t := 4) (x := (.tmp 9)) (y := (.const (.bool false))) (g := o) (off := 0) (i := 6) (v := (.bool false)) (cs' := #[(.bool false)]) (d := none) (k := 1) K rfl K K a9 rfl K ?_
 intro b0 h
 refine iF ?_
 refine aQ ?_
 refine aR ?_
 refine iS 1 ?_
 refine sL 29 4 q 0 2 (pt g1 0) 10 h rfl ?_
 refine iS 2 ?_
 refine sL 9 5 s 0 3 (.string ⟨List.toArray b⟩) 11 h rfl ?_
 refine iS 3 ?_
 refine sL 9 6 u 0 4 (.string ⟨List.toArray c⟩) 12 h rfl ?_
 refine iR 1 4 [(13, (.func (.func 49) #[] #[(pt q 0), (pt s 0), (pt u 0), (pt a0 0), (pt o 0)]))] ?_
 obtain ⟨p, b1, H⟩ := Qg H
 refine iS 5 ?_
 refine cF 45 #[(.tmp 10), (.tmp 11), (.tmp 12), (.tmp 13)] #[29, 9, 9, 84] 14 Tryz.call45 (U6 g1 A7 c8 a q s u a0 o q2 q3 q4 q5 f j b c b c m false b0 (Nc h [0, 1, 2, 3, 4, 5, 6] rfl rfl) (fun w hm => a3 w (SP.through h (l := [0, 1, 2, 3, 4, 5, 6]) rfl hm)) p b1) ?_
 rintro e b2 ⟨rfl, a1⟩
 refine ⟨_, rfl, ?_⟩
 have a2 : SP S w0 b2 [Q7 g1 79 #[(.int .i64 q2), (.int .i64 q3), (.int .i64 q4), (.int .i64 q5), (.slice A7 (List.length (List.map stT f)) c8), (.map (some a))], Xg a j, Q7 q 29 #[(pt g1 0)], Q7 s 9 #[(.string ⟨List.toArray b⟩)], Q7 u 9 #[(.string ⟨List.toArray c⟩)], Q7 a0 2 #[(.int .i64 m)], Q7 o 4 #[(.bool p)]] := Yg h [0, 1, 2, 3, 4, 5, 6] [] rfl rfl a1 rfl
 clear a1
 refine iF ?_
 refine aQ ?_
 refine aR ?_
 refine iS 1 ?_
 refine sL 4 9 o 0 6 (.bool p) 15 a2 rfl ?_
 refine iR 1 2 [(8, (.bool p))] ?_
 refine iF ?_
 refine At.ret K ?_
 refine ⟨(.bool p), K, ?_⟩
 obtain rfl := Qm H
 exact ⟨rfl, SP.sel a2 [0,1] rfl rfl⟩
def Z1 (q2 : Int) (q3 : Int) (q4 : Int) (q5 : Int) (q6 : (List Qk)) (c : U2) (a : (List UInt8)) (b : (List UInt8)) (d : (List UInt8)) : Option ((List UInt8)) :=
  ((Z5 q2 q3 q4 q5 q6 c a b a b d ([] : List UInt8)).bind fun e => (some (e)))
set_option maxRecDepth 100000 in
set_option maxHeartbeats 4000000 in
theorem X0 {S : List Nat} (g1 : Nat) (A7 : Option Addr) (c8 : Nat) (a : Nat) (q2 : Int) (q3 : Int) (q4 : Int) (q5 : Int) (f : (List Vp)) (h : U2) (b : (List UInt8)) (c : (List UInt8)) (j : (List UInt8)) (w0 : World) (hO : SP S w0 w0 [Q7 g1 79 #[(.int .i64 q2), (.int .i64 q3), (.int .i64 q4), (.int .i64 q5), (.slice A7 (List.length (List.map stT f)) c8), (.map (some a))], Xg a h]) (a2 : ∀ w, Mod S w0 w → (dDS Nm E2).ok w (A7, c8, f)) (r : ((List UInt8))) (H : Z1 q2 q3 q4 q5 (List.map stT f) h b c j = some r) :
  Calls Tryz.prog 24 #[(pt g1 0), (.string ⟨List.toArray b⟩), (.string ⟨List.toArray c⟩), (.string ⟨List.toArray j⟩)] w0 (fun e w' => e = .returned (.string ⟨List.toArray r⟩) ∧ SP S w0 w' [Q7 g1 79 #[(.int .i64 q2), (.int .i64 q3), (.int .i64 q4), (.int .i64 q5), (.slice A7 (List.length (List.map stT f)) c8), (.map (some a))], Xg a h]) := by
 unfold Z1 at H
 refine Qv (n := 16) Tryz.func24 K K K ?_
 have a3 := hO
 refine aQ ?_
 refine aR ?_
 refine iS 1 ?_
 refine Za (t := 9) (x := (.tmp 1)) (v := (.string ⟨List.toArray b⟩)) (d := (some 5)) (k := 0) K rfl K a3 ?_
 intro q b1 a4
 refine iS 2 ?_
 refine Za (t := 9) (x := (.tmp 2)) (v := (.string ⟨List.toArray c⟩)) (d := (some 6)) (k := 1) K rfl K a4 ?_
 intro s b2 a5
 refine iS 3 ?_
 refine Za (t := 9) (x := (.tmp 3)) (v := (.string ⟨List.toArray j⟩)) (d := (some 7)) (k := 2) K rfl K a5 ?_
 intro u b3 a6
 refine iR 1 4 [(8, (.string ⟨List.toArray ([] : List UInt8)⟩))] ?_
 refine iF ?_
 refine aQ ?_
 refine aR ?_
 refine iS 1 ?_
 refine Qj.alloc (t := 9) (z := (.string ⟨List.toArray ([] : List UInt8)⟩)) (d := (some 9)) (k := 0) K rfl K a6 ?_
 intro m b4 a7
 refine iS 2 ?_
 refine Qj.store (t := 9) (x := (.tmp 9)) (y := (.const (.string ⟨List.toArray ([] : List UInt8)⟩))) (g := m) (off := 0) (i := 5) (v := (.string ⟨List.toArray ([] : List UInt8)⟩)) (cs' := #[(.string ⟨List.toArray ([] : List UInt8)⟩)]) (d := none) (k := 1) K rfl K K a7 rfl K ?_
 intro a8 o
 refine iF ?_
 refine aQ ?_
 refine aR ?_
 refine iR 1 1 [(10, (pt g1 0))] ?_
 refine iS 2 ?_
 refine sL 9 5 q 0 2 (.string ⟨List.toArray b⟩) 11 o rfl ?_
 refine iS 3 ?_
 refine sL 9 6 s 0 3 (.string ⟨List.toArray c⟩) 12 o rfl ?_
 refine iR 1 4 [(13, (.func (.func 50) #[] #[(pt q 0), (pt s 0), (pt u 0), (pt m 0)]))] ?_
 obtain ⟨p, a9, H⟩ := Qg H
 refine iS 5 ?_
 refine cF 45 #[(.tmp 10), (.tmp 11), (.tmp 12), (.tmp 13)] #[29, 9, 9, 84] 14 Tryz.call45 (U7 g1 A7 c8 a q s u m q2 q3 q4 q5 f h b c b c j ([] : List UInt8) a8 (Nc o [0, 1, 2, 3, 4, 5] rfl rfl) (fun w hm => a2 w (SP.through o (l := [0, 1, 2, 3, 4, 5]) rfl hm)) p a9) ?_
 rintro e b0 ⟨rfl, a0⟩
 refine ⟨_, rfl, ?_⟩
 have a1 : SP S w0 b0 [Q7 g1 79 #[(.int .i64 q2), (.int .i64 q3), (.int .i64 q4), (.int .i64 q5), (.slice A7 (List.length (List.map stT f)) c8), (.map (some a))], Xg a h, Q7 q 9 #[(.string ⟨List.toArray b⟩)], Q7 s 9 #[(.string ⟨List.toArray c⟩)], Q7 u 9 #[(.string ⟨List.toArray j⟩)], Q7 m 9 #[(.string ⟨List.toArray p⟩)]] := Yg o [0, 1, 2, 3, 4, 5] [] rfl rfl a0 rfl
 clear a0
 refine iF ?_
 refine aQ ?_
 refine aR ?_
 refine iS 1 ?_
 refine sL 9 9 m 0 5 (.string ⟨List.toArray p⟩) 15 a1 rfl ?_
 refine iR 1 2 [(8, (.string ⟨List.toArray p⟩))] ?_
 refine iF ?_
 refine At.ret K ?_
 refine ⟨(.string ⟨List.toArray p⟩), K, ?_⟩
 obtain rfl := Qm H
 exact ⟨rfl, SP.sel a1 [0,1] rfl rfl⟩
def Jd (a : Bool) : Option (Int) :=
  (cond a (some (101)) (some (0)))
def Ye (q2 : Int) (q3 : Int) (q4 : Int) (q5 : Int) (q6 : (List Qk)) (b : U2) (c : (List UInt8)) (d : (List UInt8)) (f : (List UInt8)) (e : (List UInt8)) (g : Int) : Option (Int) :=
  ((Jo q2 q3 q4 q5 q6 b c d g).bind fun h => (cond (!h) (some (3)) ((Z1 q2 q3 q4 q5 q6 b c d f).bind fun a => (cond (a == ([] : List UInt8)) (Jd true) ((chk (Nat.ble (List.length a) 281474976710656)).bind fun _ => ((chk (Nat.ble (List.length e) 281474976710656)).bind fun _ => ((Cs a e).bind fun i => (Jd (!i)))))))))
set_option maxRecDepth 100000 in
set_option maxHeartbeats 4000000 in
theorem Ym {S : List Nat} (g1 : Nat) (A7 : Option Addr) (c8 : Nat) (c : Nat) (q2 : Int) (q3 : Int) (q4 : Int) (q5 : Int) (g : (List Vp)) (h : U2) (j : (List UInt8)) (m : (List UInt8)) (s : (List UInt8)) (p : (List UInt8)) (u : Int) (w0 : World) (hO : SP S w0 w0 [Q7 g1 79 #[(.int .i64 q2), (.int .i64 q3), (.int .i64 q4), (.int .i64 q5), (.slice A7 (List.length (List.map stT g)) c8), (.map (some c))], Xg c h]) (a8 : ∀ w, Mod S w0 w → (dDS Nm E2).ok w (A7, c8, g)) (r : (Int)) (H : Ye q2 q3 q4 q5 (List.map stT g) h j m s p u = some r) :
  Calls Tryz.prog 26 #[(pt g1 0), (.string ⟨List.toArray j⟩), (.string ⟨List.toArray m⟩), (.string ⟨List.toArray s⟩), (.string ⟨List.toArray p⟩), (.int .i64 u)] w0 (fun e w' => e = .returned (.int .i64 r) ∧ SP S w0 w' [Q7 g1 79 #[(.int .i64 q2), (.int .i64 q3), (.int .i64 q4), (.int .i64 q5), (.slice A7 (List.length (List.map stT g)) c8), (.map (some c))], Xg c h]) := by
 unfold Ye at H
 refine Qv (n := 35) Tryz.func26 K K K ?_
 have a0 := hO
 refine aQ ?_
 refine aR ?_
 refine iR 1 1 [(12, (.int .i64 0))] ?_
 refine iF ?_
 refine aQ ?_
 refine aQ ?_
 refine aR ?_
 refine iR 4 4 [(14, (pt g1 0)), (15, (.string ⟨List.toArray j⟩)), (16, (.string ⟨List.toArray m⟩)), (17, (.int .i64 u))] ?_
 obtain ⟨a1, c0, H⟩ := Qg H
 refine iS 5 ?_
 refine cF 22 #[(.tmp 14), (.tmp 15), (.tmp 16), (.tmp 17)] #[29, 9, 9, 2] 18 Tryz.call22 (Ub g1 A7 c8 c q2 q3 q4 q5 g h j m u w0 (Nc a0 [0, 1] rfl rfl) (fun w hm => a8 w (SP.through a0 (l := [0, 1]) rfl hm)) a1 c0) ?_
 rintro e a9 ⟨rfl, b0⟩
 refine ⟨_, rfl, ?_⟩
 have v : SP S w0 a9 [Q7 g1 79 #[(.int .i64 q2), (.int .i64 q3), (.int .i64 q4), (.int .i64 q5), (.slice A7 (List.length (List.map stT g)) c8), (.map (some c))], Xg c h] := Yg a0 [0, 1] [] rfl rfl b0 rfl
 clear b0
 refine iR 1 6 [(19, (.bool (!a1)))] ?_
 refine iF ?_
 refine Zs K (o := (.tmp 19)) K (b := (!a1)) K (fun a2 => ?_) (fun a2 => ?_)
 ·have H := ct H a2
  refine aQ ?_
  refine aR ?_
  refine iR 1 1 [(12, (.int .i64 3))] ?_
  refine iF ?_
  refine At.ret K ?_
  refine ⟨(.int .i64 3), K, ?_⟩
  obtain rfl := Qm H
  exact ⟨rfl, SP.sel v [0,1] rfl rfl⟩
 ·have H := cf H a2
  refine At.skip K ?_
  refine aQ ?_
  refine aQ ?_
  refine aR ?_
  refine iR 4 4 [(20, (pt g1 0)), (21, (.string ⟨List.toArray j⟩)), (22, (.string ⟨List.toArray m⟩)), (23, (.string ⟨List.toArray s⟩))] ?_
  obtain ⟨f, c1, H⟩ := Qg H
  refine iS 5 ?_
  refine cF 24 #[(.tmp 20), (.tmp 21), (.tmp 22), (.tmp 23)] #[29, 9, 9, 9] 24 Tryz.call24 (X0 g1 A7 c8 c q2 q3 q4 q5 g h j m s a9 (Nc v [0, 1] rfl rfl) (fun w hm => a8 w (SP.through v (l := [0, 1]) rfl hm)) f c1) ?_
  rintro e c2 ⟨rfl, b1⟩
  refine ⟨_, rfl, ?_⟩
  have b2 : SP S w0 c2 [Q7 g1 79 #[(.int .i64 q2), (.int .i64 q3), (.int .i64 q4), (.int .i64 q5), (.slice A7 (List.length (List.map stT g)) c8), (.map (some c))], Xg c h] := Yg v [0, 1] [] rfl rfl b1 rfl
  clear b1
  refine iR 1 6 [(13, (.string ⟨List.toArray f⟩))] ?_
  refine iF ?_
  refine aQ ?_
  refine At.join (fun ρ w => ∃ (q : Bool), Zg ρ [(34, (.bool q))] ∧ SP S w0 w [Q7 g1 79 #[(.int .i64 q2), (.int .i64 q3), (.int .i64 q4), (.int .i64 q5), (.slice A7 (List.length (List.map stT g)) c8), (.map (some c))], Xg c h] ∧ Jd q = some r) ?_ ?_
  ·refine aR ?_
   refine iR 1 1 [(25, (.string ⟨List.toArray f⟩))] ?_
   refine iS 2 ?_
   refine X6 (op := .eql) (T := 9) (T' := 9) (x := (.tmp 25)) (y := (.const (.string ⟨List.toArray ([] : List UInt8)⟩))) (a := f) (b := ([] : List UInt8)) (r := (.bool (f == ([] : List UInt8)))) (d := (some 26)) (k := 1) K rfl K K rfl ?_
   refine iR 1 3 [(27, (.bool (f == ([] : List UInt8))))] ?_
   refine In.guard (t := 27) (b := (f == ([] : List UInt8))) K (fun a3 => ?_) (fun a3 => ?_)
   ·have H := ct H a3
    refine iR 7 10 [(28, undef), (29, undef), (30, undef), (31, undef), (32, undef), (33, undef), (34, (.bool true))] ?_
    refine iF ?_
    exact ⟨true, ⟨K, trivial⟩, SP.sel b2 [0, 1] rfl rfl, H⟩
   ·have H := cf H a3
    refine iR 1 4 [(28, (.string ⟨List.toArray f⟩))] ?_
    obtain ⟨c3, H⟩ := Vu H
    refine iS 5 ?_
    refine G2 (S' := 9) (T := 52) (E := 5) (x := (.tmp 28)) (l := f) (d := (some 29)) (k := 4) K rfl K K K K (G4 c3) b2 ?_
    intro a4 a5 c4 b3 _
    have c5 : SP S w0 c4 [Q7 g1 79 #[(.int .i64 q2), (.int .i64 q3), (.int .i64 q4), (.int .i64 q5), (.slice A7 (List.length (List.map stT g)) c8), (.map (some c))], Xg c h, rdE eU8 (some ⟨a4, 0, none⟩) a5 f] := b3
    clear b3
    refine iR 1 6 [(30, (.string ⟨List.toArray p⟩))] ?_
    obtain ⟨c6, H⟩ := Vu H
    refine iS 7 ?_
    refine G2 (S' := 9) (T := 52) (E := 5) (x := (.tmp 30)) (l := p) (d := (some 31)) (k := 6) K rfl K K K K (G4 c6) c5 ?_
    intro b4 b5 b6 b7 _
    have a6 : SP S w0 b6 [Q7 g1 79 #[(.int .i64 q2), (.int .i64 q3), (.int .i64 q4), (.int .i64 q5), (.slice A7 (List.length (List.map stT g)) c8), (.map (some c))], Xg c h, rdE eU8 (some ⟨a4, 0, none⟩) a5 f, rdE eU8 (some ⟨b4, 0, none⟩) b5 p] := b7
    clear b7
    obtain ⟨z, c7, H⟩ := Qg H
    refine iS 8 ?_
    refine cF 52 #[(.tmp 29), (.tmp 31)] #[52, 52] 32 Tryz.call52 (Ey (some ⟨a4, 0, none⟩) a5 (some ⟨b4, 0, none⟩) b5 f p b6 (Hi (SP.get a6 (i := 2) rfl)) (Hi (SP.get a6 (i := 3) rfl)) z c7) ?_
    rintro e d0 ⟨rfl, b8⟩
    refine ⟨_, rfl, ?_⟩
    have c9 := SP.call a6 b8
    clear b8
    refine iR 2 10 [(33, (.bool (!z))), (34, (.bool (!z)))] ?_
    refine iF ?_
    exact ⟨(!z), ⟨K, trivial⟩, SP.sel c9 [0, 1] rfl rfl, H⟩
  ·rintro ρ d1 ⟨q, hk, b9, H⟩
   unfold Jd at H
   first | refine At.known [(34, (.bool q))] hk ?_ | rw [← Q9 (l := [(34, (.bool q))]) hk]
   refine Zs K (o := (.tmp 34)) K (b := q) K (fun a7 => ?_) (fun a7 => ?_)
   ·have H := ct H a7
    refine aQ ?_
    refine aR ?_
    refine iR 1 1 [(12, (.int .i64 101))] ?_
    refine iF ?_
    refine At.ret K ?_
    refine ⟨(.int .i64 101), K, ?_⟩
    obtain rfl := Qm H
    exact ⟨rfl, SP.sel b9 [0,1] rfl rfl⟩
   ·have H := cf H a7
    refine At.skip K ?_
    refine aQ ?_
    refine aR ?_
    refine iR 1 1 [(12, (.int .i64 0))] ?_
    refine iF ?_
    refine At.ret K ?_
    refine ⟨(.int .i64 0), K, ?_⟩
    obtain rfl := Qm H
    exact ⟨rfl, SP.sel b9 [0,1] rfl rfl⟩
end Go.Proofs.YtmgfanhcdfobhaaGreatDoor
namespace Go.Proofs.YtmgfanhcdfobhaaGreatDoor
open Go.RowKit
def Xm (b : Int → Option (Bool)) (p1 : (List (Int × (List UInt8) × (List UInt8) × (List UInt8) × (List UInt8) × Int))) (a : Int) (c : Bool) : Option (Bool) :=
  (cond c ((idx p1 a).bind fun d => ((idx p1 a).bind fun e => ((idx p1 a).bind fun f => ((idx p1 a).bind fun g => (cond (decide ((IntKind.wrap .i64 ((IntKind.wrap .i64 ((IntKind.wrap .i64 (((List.length d.2.1 : Nat) : Int) + ((List.length e.2.2.1 : Nat) : Int))) + ((List.length f.2.2.2.1 : Nat) : Int))) + ((List.length g.2.2.2.2.1 : Nat) : Int))) > 2000)) (some (true)) (b (IntKind.wrap .i64 (a + 1)))))))) (some ((decide (((List.length p1 : Nat) : Int) > 100)))))
def Zz (b : Int → Option (Bool)) (p1 : (List (Int × (List UInt8) × (List UInt8) × (List UInt8) × (List UInt8) × Int))) (a : Int) : Option (Bool) :=
  (cond (decide (a < ((List.length p1 : Nat) : Int))) (Xm b p1 a (decide (a < 200))) (Xm b p1 a false))
def Zf (p1 : (List (Int × (List UInt8) × (List UInt8) × (List UInt8) × (List UInt8) × Int))) : Nat → Int → Option (Bool)
  | 0, _ => none
  | f + 1, a => Zz  (Zf p1 f) p1 a
def Uc (p1 : (List (Int × (List UInt8) × (List UInt8) × (List UInt8) × (List UInt8) × Int))) : Option (Bool) :=
  (Zf p1 Zd 0)
set_option maxRecDepth 100000 in
set_option maxHeartbeats 4000000 in
theorem Rr (A2 : Option Addr) (c3 : Nat) (p1 : (List (Int × (List UInt8) × (List UInt8) × (List UInt8) × (List UInt8) × Int))) (w0 : World) (m : RdT (Qe (Qc .i64) (Qe Qw (Qe Qw (Qe Qw (Qe Qw (Qc .i64)))))) w0 A2 c3 p1) (r : (Bool)) (H : Uc p1 = some r) :
  Calls Tryz.prog 17 #[(.slice A2 (List.length p1) c3)] w0 (fun e w' => e = .returned (.bool r) ∧ SP [] w0 w' []) := by
 unfold Uc at H
 refine Qv (n := 45) Tryz.func17 K K K ?_
 have b7 := Q1 [] w0
 refine aQ ?_
 refine aR ?_
 refine iR 1 1 [(2, (.bool false))] ?_
 refine iF ?_
 refine aQ ?_
 refine aQ ?_
 refine aR ?_
 refine iR 1 1 [(3, (.int .i64 0))] ?_
 refine iF ?_
 refine Z4 K (id := 0) K ?_
 refine Ur K (fun f3 ρ w => ∃ (a : Int), Zg ρ [(0, (.slice A2 (List.length p1) c3)), (3, (.int .i64 a))] ∧ SP [] w0 w [] ∧ Zf p1 f3 a = some r) (by rintro ρ w ⟨a, hk, hs, H⟩; cases H) ?_ Zd ?_
 ·rintro f3 ρ g9 ⟨a, hk, z, H⟩
  refine At.known [(0, (.slice A2 (List.length p1) c3)), (3, (.int .i64 a))] hk ?_
  replace H := (show Zz (Zf p1 f3) p1 a = some r from H)
  unfold Zz at H
  refine aQ ?_
  refine aQ ?_
  refine At.join (fun ρ w => ∃ (p : Bool), Zg ρ [(0, (.slice A2 (List.length p1) c3)), (3, (.int .i64 a)), (11, (.bool p))] ∧ SP [] w0 w [] ∧ Xm (Zf p1 f3) p1 a p = some r) ?_ ?_
  ·refine aR ?_
   refine iR 5 5 [(4, (.int .i64 a)), (5, (.slice A2 (List.length p1) c3)), (6, (.int .i64 ((List.length p1 : Nat) : Int))), (7, (.bool (decide (a < ((List.length p1 : Nat) : Int))))), (8, (.bool (decide (a < ((List.length p1 : Nat) : Int)))))] ?_
   refine In.guard (t := 8) (b := (decide (a < ((List.length p1 : Nat) : Int)))) K (fun q => ?_) (fun q => ?_)
   ·have H := ct H q
    refine iR 3 8 [(9, (.int .i64 a)), (10, (.bool (decide (a < 200)))), (11, (.bool (decide (a < 200))))] ?_
    refine iF ?_
    exact ⟨(decide (a < 200)), ⟨K, K, K, trivial⟩, SP.sel z [] rfl rfl, H⟩
   ·have H := cf H q
    refine iR 3 8 [(9, undef), (10, undef), (11, (.bool false))] ?_
    refine iF ?_
    exact ⟨false, ⟨K, K, K, trivial⟩, SP.sel z [] rfl rfl, H⟩
  ·rintro ρ h1 ⟨p, hk, a0, H⟩
   unfold Xm at H
   first | refine At.known [(0, (.slice A2 (List.length p1) c3)), (3, (.int .i64 a)), (11, (.bool p))] hk ?_ | rw [← Q9 (l := [(0, (.slice A2 (List.length p1) c3)), (3, (.int .i64 a)), (11, (.bool p))]) hk]
   refine Zs K (o := (.tmp 11)) K (b := p) K (fun s => ?_) (fun s => ?_)
   ·have H := ct H s
    refine At.skip K ?_
    refine aQ ?_
    refine Z4 K (id := 1) K ?_
    refine aQ ?_
    obtain ⟨f, a1, a2, b8, H⟩ := Qn H
    obtain ⟨g, a3, a4, b9, H⟩ := Qn H
    obtain ⟨h, a5, a6, c0, H⟩ := Qn H
    obtain ⟨i, a7, a8, c1, H⟩ := Qn H
    refine aG [GEq (.slice A2 (List.length p1) c3), GEq (.int .i64 a), Vv A2 (Qe (Qc .i64) (Qe Qw (Qe Qw (Qe Qw (Qe Qw (Qc .i64)))))).sz a, Il A2 (Qe (Qc .i64) (Qe Qw (Qe Qw (Qe Qw (Qe Qw (Qc .i64)))))).sz a 1, GEq (.string ⟨List.toArray f.2.1⟩), GEq (.int .i64 ((List.length f.2.1 : Nat) : Int)), GEq (.slice A2 (List.length p1) c3), GEq (.int .i64 a), Vv A2 (Qe (Qc .i64) (Qe Qw (Qe Qw (Qe Qw (Qe Qw (Qc .i64)))))).sz a, Il A2 (Qe (Qc .i64) (Qe Qw (Qe Qw (Qe Qw (Qe Qw (Qc .i64)))))).sz a 2, GEq (.string ⟨List.toArray g.2.2.1⟩), GEq (.int .i64 ((List.length g.2.2.1 : Nat) : Int)), GEq (.int .i64 (IntKind.wrap .i64 (((List.length f.2.1 : Nat) : Int) + ((List.length g.2.2.1 : Nat) : Int)))), GEq (.slice A2 (List.length p1) c3), GEq (.int .i64 a), Vv A2 (Qe (Qc .i64) (Qe Qw (Qe Qw (Qe Qw (Qe Qw (Qc .i64)))))).sz a, Il A2 (Qe (Qc .i64) (Qe Qw (Qe Qw (Qe Qw (Qe Qw (Qc .i64)))))).sz a 3, GEq (.string ⟨List.toArray h.2.2.2.1⟩), GEq (.int .i64 ((List.length h.2.2.2.1 : Nat) : Int)), GEq (.int .i64 (IntKind.wrap .i64 ((IntKind.wrap .i64 (((List.length f.2.1 : Nat) : Int) + ((List.length g.2.2.1 : Nat) : Int))) + ((List.length h.2.2.2.1 : Nat) : Int)))), GEq (.slice A2 (List.length p1) c3), GEq (.int .i64 a), Vv A2 (Qe (Qc .i64) (Qe Qw (Qe Qw (Qe Qw (Qe Qw (Qc .i64)))))).sz a, Il A2 (Qe (Qc .i64) (Qe Qw (Qe Qw (Qe Qw (Qe Qw (Qc .i64)))))).sz a 4, GEq (.string ⟨List.toArray i.2.2.2.2.1⟩), GEq (.int .i64 ((List.length i.2.2.2.2.1 : Nat) : Int)), GEq (.int .i64 (IntKind.wrap .i64 ((IntKind.wrap .i64 ((IntKind.wrap .i64 (((List.length f.2.1 : Nat) : Int) + ((List.length g.2.2.1 : Nat) : Int))) + ((List.length h.2.2.2.1 : Nat) : Int))) + ((List.length i.2.2.2.2.1 : Nat) : Int)))), GEq (.bool (decide ((IntKind.wrap .i64 ((IntKind.wrap .i64 ((IntKind.wrap .i64 (((List.length f.2.1 : Nat) : Int) + ((List.length g.2.2.1 : Nat) : Int))) + ((List.length h.2.2.2.1 : Nat) : Int))) + ((List.length i.2.2.2.2.1 : Nat) : Int))) > 2000)))] [] (tG [] w0 [] [([], [])]) 28 0 ⟨trivial, SP.drew a0⟩ ?_ ?_
    iterate 28 refine And.intro ?_ ?_
    exact trivial
    ·exact oV (hC (hS 0 (.slice A2 (List.length p1) c3)) (h0)) (.slice A2 (List.length p1) c3)
    ·exact oV (hC (hS 3 (.int .i64 a)) (h0)) (.int .i64 a)
    ·refine oL 0 ?_
     ·rintro ρ' w' hs hah ⟨h2, c2⟩
      refine kM (kc (kA hah 0 14) (kc (kA hah 1 15) k0)) fun hkn => ?_
      refine Vi (e := (Qe (Qc .i64) (Qe Qw (Qe Qw (Qe Qw (Qe Qw (Qc .i64))))))) (l := p1) (A := A2) (c := c3) (T := 25) (E := 34) (x := (.tmp 14)) (ix := (.tmp 15)) (ki := .i64) (iz := a) (d := (some 16)) (k := 2) K rfl K K K K (RdT.sp m c2) a1 a2 ?_
      intro c4 c5 c6 h3 hc282
      exact ⟨rfl, _, Qa hkn, ⟨c4, c5, c6, rfl⟩⟩
    ·refine oL 0 ?_
     ·rintro ρ' w' hs hah ⟨h4, h5⟩
      obtain ⟨a9, b0, c7, c8⟩ := hah 2 16 K
      refine kM (kc c8 k0) fun hkn => ?_
      refine Qj.run (k := 3) (v := (.pointer (some ⟨a9, (b0 + Int.toNat a * (Qe (Qc .i64) (Qe Qw (Qe Qw (Qe Qw (Qe Qw (Qc .i64)))))).sz + 1), none⟩))) K ?_
      exact ⟨rfl, _, Qa hkn, ⟨a9, b0, c7, rfl⟩⟩
    ·refine oL 0 ?_
     ·rintro ρ' w' hs hah ⟨h6, c9⟩
      obtain ⟨d0, d1, d2, d3⟩ := hah 3 17 K
      refine kM (kc d3 k0) fun hkn => ?_
      refine sC 9 17 d0 (d1 + Int.toNat a * (Qe (Qc .i64) (Qe Qw (Qe Qw (Qe Qw (Qe Qw (Qc .i64)))))).sz + 1) (.string ⟨List.toArray f.2.1⟩) 18 (Qi (e := (Qe (Qc .i64) (Qe Qw (Qe Qw (Qe Qw (Qe Qw (Qc .i64))))))) (Qf (RdT.sp m c9) d2 a1 a2) b8 (j := 1) rfl) ?_
      exact eK hkn
    ·exact oV (hC (hA 4 18) (h0)) (.int .i64 ((List.length f.2.1 : Nat) : Int))
    ·exact oV (hC (hS 0 (.slice A2 (List.length p1) c3)) (h0)) (.slice A2 (List.length p1) c3)
    ·exact oV (hC (hS 3 (.int .i64 a)) (h0)) (.int .i64 a)
    ·refine oL 0 ?_
     ·rintro ρ' w' hs hah ⟨h7, d4⟩
      refine kM (kc (kA hah 6 20) (kc (kA hah 7 21) k0)) fun hkn => ?_
      refine Vi (e := (Qe (Qc .i64) (Qe Qw (Qe Qw (Qe Qw (Qe Qw (Qc .i64))))))) (l := p1) (A := A2) (c := c3) (T := 25) (E := 34) (x := (.tmp 20)) (ix := (.tmp 21)) (ki := .i64) (iz := a) (d := (some 22)) (k := 8) K rfl K K K K (RdT.sp m d4) a3 a4 ?_
      intro d5 d6 d7 h8 hc299
      exact ⟨rfl, _, Qa hkn, ⟨d5, d6, d7, rfl⟩⟩
    ·refine oL 0 ?_
     ·rintro ρ' w' hs hah ⟨h9, i0⟩
      obtain ⟨b1, b2, d8, d9⟩ := hah 8 22 K
      refine kM (kc d9 k0) fun hkn => ?_
      refine Qj.run (k := 9) (v := (.pointer (some ⟨b1, (b2 + Int.toNat a * (Qe (Qc .i64) (Qe Qw (Qe Qw (Qe Qw (Qe Qw (Qc .i64)))))).sz + 2), none⟩))) K ?_
      exact ⟨rfl, _, Qa hkn, ⟨b1, b2, d8, rfl⟩⟩
    ·refine oL 0 ?_
     ·rintro ρ' w' hs hah ⟨i1, e0⟩
      obtain ⟨e1, e2, e3, e4⟩ := hah 9 23 K
      refine kM (kc e4 k0) fun hkn => ?_
      refine sC 9 23 e1 (e2 + Int.toNat a * (Qe (Qc .i64) (Qe Qw (Qe Qw (Qe Qw (Qe Qw (Qc .i64)))))).sz + 2) (.string ⟨List.toArray g.2.2.1⟩) 24 (Qi (e := (Qe (Qc .i64) (Qe Qw (Qe Qw (Qe Qw (Qe Qw (Qc .i64))))))) (Qf (RdT.sp m e0) e3 a3 a4) b9 (j := 2) rfl) ?_
      exact eK hkn
    ·exact oV (hC (hA 10 24) (h0)) (.int .i64 ((List.length g.2.2.1 : Nat) : Int))
    ·exact oV (hC (hA 5 19) (hC (hA 11 25) (h0))) (.int .i64 (IntKind.wrap .i64 (((List.length f.2.1 : Nat) : Int) + ((List.length g.2.2.1 : Nat) : Int))))
    ·exact oV (hC (hS 0 (.slice A2 (List.length p1) c3)) (h0)) (.slice A2 (List.length p1) c3)
    ·exact oV (hC (hS 3 (.int .i64 a)) (h0)) (.int .i64 a)
    ·refine oL 0 ?_
     ·rintro ρ' w' hs hah ⟨i2, e5⟩
      refine kM (kc (kA hah 13 27) (kc (kA hah 14 28) k0)) fun hkn => ?_
      refine Vi (e := (Qe (Qc .i64) (Qe Qw (Qe Qw (Qe Qw (Qe Qw (Qc .i64))))))) (l := p1) (A := A2) (c := c3) (T := 25) (E := 34) (x := (.tmp 27)) (ix := (.tmp 28)) (ki := .i64) (iz := a) (d := (some 29)) (k := 15) K rfl K K K K (RdT.sp m e5) a5 a6 ?_
      intro e6 e7 e8 i3 hc316
      exact ⟨rfl, _, Qa hkn, ⟨e6, e7, e8, rfl⟩⟩
    ·refine oL 0 ?_
     ·rintro ρ' w' hs hah ⟨i4, i5⟩
      obtain ⟨b3, b4, e9, f0⟩ := hah 15 29 K
      refine kM (kc f0 k0) fun hkn => ?_
      refine Qj.run (k := 16) (v := (.pointer (some ⟨b3, (b4 + Int.toNat a * (Qe (Qc .i64) (Qe Qw (Qe Qw (Qe Qw (Qe Qw (Qc .i64)))))).sz + 3), none⟩))) K ?_
      exact ⟨rfl, _, Qa hkn, ⟨b3, b4, e9, rfl⟩⟩
    ·refine oL 0 ?_
     ·rintro ρ' w' hs hah ⟨i6, f1⟩
      obtain ⟨f2, f4, f5, f6⟩ := hah 16 30 K
      refine kM (kc f6 k0) fun hkn => ?_
      refine sC 9 30 f2 (f4 + Int.toNat a * (Qe (Qc .i64) (Qe Qw (Qe Qw (Qe Qw (Qe Qw (Qc .i64)))))).sz + 3) (.string ⟨List.toArray h.2.2.2.1⟩) 31 (Qi (e := (Qe (Qc .i64) (Qe Qw (Qe Qw (Qe Qw (Qe Qw (Qc .i64))))))) (Qf (RdT.sp m f1) f5 a5 a6) c0 (j := 3) rfl) ?_
      exact eK hkn
    ·exact oV (hC (hA 17 31) (h0)) (.int .i64 ((List.length h.2.2.2.1 : Nat) : Int))
    ·exact oV (hC (hA 12 26) (hC (hA 18 32) (h0))) (.int .i64 (IntKind.wrap .i64 ((IntKind.wrap .i64 (((List.length f.2.1 : Nat) : Int) + ((List.length g.2.2.1 : Nat) : Int))) + ((List.length h.2.2.2.1 : Nat) : Int))))
    ·exact oV (hC (hS 0 (.slice A2 (List.length p1) c3)) (h0)) (.slice A2 (List.length p1) c3)
    ·exact oV (hC (hS 3 (.int .i64 a)) (h0)) (.int .i64 a)
    ·refine oL 0 ?_
     ·rintro ρ' w' hs hah ⟨i7, f7⟩
      refine kM (kc (kA hah 20 34) (kc (kA hah 21 35) k0)) fun hkn => ?_
      refine Vi (e := (Qe (Qc .i64) (Qe Qw (Qe Qw (Qe Qw (Qe Qw (Qc .i64))))))) (l := p1) (A := A2) (c := c3) (T := 25) (E := 34) (x := (.tmp 34)) (ix := (.tmp 35)) (ki := .i64) (iz := a) (d := (some 36)) (k := 22) K rfl K K K K (RdT.sp m f7) a7 a8 ?_
      intro f8 f9 g0 i8 hc333
      exact ⟨rfl, _, Qa hkn, ⟨f8, f9, g0, rfl⟩⟩
    ·refine oL 0 ?_
     ·rintro ρ' w' hs hah ⟨i9, j0⟩
      obtain ⟨b5, b6, g1, g2⟩ := hah 22 36 K
      refine kM (kc g2 k0) fun hkn => ?_
      refine Qj.run (k := 23) (v := (.pointer (some ⟨b5, (b6 + Int.toNat a * (Qe (Qc .i64) (Qe Qw (Qe Qw (Qe Qw (Qe Qw (Qc .i64)))))).sz + 4), none⟩))) K ?_
      exact ⟨rfl, _, Qa hkn, ⟨b5, b6, g1, rfl⟩⟩
    ·refine oL 0 ?_
     ·rintro ρ' w' hs hah ⟨j1, g3⟩
      obtain ⟨g4, g5, g6, g7⟩ := hah 23 37 K
      refine kM (kc g7 k0) fun hkn => ?_
      refine sC 9 37 g4 (g5 + Int.toNat a * (Qe (Qc .i64) (Qe Qw (Qe Qw (Qe Qw (Qe Qw (Qc .i64)))))).sz + 4) (.string ⟨List.toArray i.2.2.2.2.1⟩) 38 (Qi (e := (Qe (Qc .i64) (Qe Qw (Qe Qw (Qe Qw (Qe Qw (Qc .i64))))))) (Qf (RdT.sp m g3) g6 a7 a8) c1 (j := 4) rfl) ?_
      exact eK hkn
    ·exact oV (hC (hA 24 38) (h0)) (.int .i64 ((List.length i.2.2.2.2.1 : Nat) : Int))
    ·exact oV (hC (hA 19 33) (hC (hA 25 39) (h0))) (.int .i64 (IntKind.wrap .i64 ((IntKind.wrap .i64 ((IntKind.wrap .i64 (((List.length f.2.1 : Nat) : Int) + ((List.length g.2.2.1 : Nat) : Int))) + ((List.length h.2.2.2.1 : Nat) : Int))) + ((List.length i.2.2.2.2.1 : Nat) : Int))))
    ·exact oV (hC (hA 26 40) (h0)) (.bool (decide ((IntKind.wrap .i64 ((IntKind.wrap .i64 ((IntKind.wrap .i64 (((List.length f.2.1 : Nat) : Int) + ((List.length g.2.2.1 : Nat) : Int))) + ((List.length h.2.2.2.1 : Nat) : Int))) + ((List.length i.2.2.2.2.1 : Nat) : Int))) > 2000)))
    ·rintro ρ' w' hs hf ⟨j2, u⟩
     refine Vj [(0, (.slice A2 (List.length p1) c3)), (3, (.int .i64 a)), (41, (.bool (decide ((IntKind.wrap .i64 ((IntKind.wrap .i64 ((IntKind.wrap .i64 (((List.length f.2.1 : Nat) : Int) + ((List.length g.2.2.1 : Nat) : Int))) + ((List.length h.2.2.2.1 : Nat) : Int))) + ((List.length i.2.2.2.2.1 : Nat) : Int))) > 2000))))] ⟨(hs 0 K).trans K, (hs 3 K).trans K, hf 27 41 K, trivial⟩ ?_
     obtain ⟨j3, g8⟩ : ∃ x, w' = x := ⟨_, rfl⟩
     rw [g8] at u ⊢
     refine Zs K (o := (.tmp 41)) K (b := (decide ((IntKind.wrap .i64 ((IntKind.wrap .i64 ((IntKind.wrap .i64 (((List.length f.2.1 : Nat) : Int) + ((List.length g.2.2.1 : Nat) : Int))) + ((List.length h.2.2.2.1 : Nat) : Int))) + ((List.length i.2.2.2.2.1 : Nat) : Int))) > 2000))) K (fun y => ?_) (fun y => ?_)
     ·have H := ct H y
      refine aQ ?_
      refine aR ?_
      refine iR 1 1 [(2, (.bool true))] ?_
      refine iF ?_
      refine At.ret K ?_
      refine ⟨(.bool true), K, ?_⟩
      obtain rfl := Qm H
      exact ⟨rfl, SP.sel u [] rfl rfl⟩
     ·have H := cf H y
      refine At.skip K ?_
      refine aR ?_
      refine iR 3 3 [(12, (.int .i64 a)), (13, (.int .i64 (IntKind.wrap .i64 (a + 1)))), (3, (.int .i64 (IntKind.wrap .i64 (a + 1))))] ?_
      refine iF ?_
      exact ⟨(IntKind.wrap .i64 (a + 1)), ⟨K, K, trivial⟩, SP.sel u [] rfl rfl, H⟩
   ·have H := cf H s
    refine At.exit K (id := 0) K ?_
    refine aQ ?_
    refine aR ?_
    refine iR 4 4 [(42, (.slice A2 (List.length p1) c3)), (43, (.int .i64 ((List.length p1 : Nat) : Int))), (44, (.bool (decide (((List.length p1 : Nat) : Int) > 100)))), (2, (.bool (decide (((List.length p1 : Nat) : Int) > 100))))] ?_
    refine iF ?_
    refine At.ret K ?_
    refine ⟨(.bool (decide (((List.length p1 : Nat) : Int) > 100))), K, ?_⟩
    obtain rfl := Qm H
    exact ⟨rfl, SP.sel a0 [] rfl rfl⟩
 ·exact ⟨0, ⟨K, K, trivial⟩, SP.sel b7 [] rfl rfl, H⟩
end Go.Proofs.YtmgfanhcdfobhaaGreatDoor
namespace Go.Proofs.YtmgfanhcdfobhaaGreatDoor
theorem Ke {α : Type} {P : α → Bool} {l : List α} {i : Nat} (hi : i < l.length) (hn : (l.take i).any P = false) (hx : P l[i] = true) : l.findIdx? P = some i := by
  rw [List.findIdx?_eq_some_iff_getElem]
  refine ⟨hi, hx, fun j hj => ?_⟩
  rw [List.any_eq_false] at hn
  have := hn l[j] (by rw [List.mem_take_iff_getElem]; exact ⟨j, by omega, rfl⟩)
  simpa using this
theorem Kf {α : Type} {P : α → Bool} {l : List α} (hn : l.any P = false) : l.findIdx? P = none := by
  rw [List.findIdx?_eq_none_iff]
  intro x hx
  rw [List.any_eq_false] at hn
  simpa using hn x hx
theorem Kg {α : Type} {P : α → Bool} {l : List α} {i : Nat} (hi : i < l.length) (hn : (l.take i).any P = false) (hx : P l[i] = false) : (l.take (i + 1)).any P = false := by
  rw [List.take_add_one, List.getElem?_eq_getElem hi, List.any_append, hn]
  simp [hx]
def ixI (o : Option Nat) : Int := match o with | some i => (i : Int) | none => -1
theorem Li (l : List Qk) (P : Qk → Bool) (p : Str → Int → Int → List Kn → List Cz → Option Bool) (hp : ∀ x : Qk, p x.1 x.2.1 x.2.2.1 x.2.2.2.1 x.2.2.2.2 = some (P x)) (hl : l.length ≤ 140737488355328) :
    ∀ (d i f : Nat), d = l.length - i → i ≤ l.length → d < f → (l.take i).any P = false → Qp l p f (i : Int) = some (ixI (l.findIdx? P)) := by
  intro d
  induction d with
  | zero =>
    intro i f hd hi hf hn
    obtain ⟨f, rfl⟩ : ∃ g, f = g + 1 := ⟨f - 1, by omega⟩
    show Qr (Qp l p f) l p (i : Int) = _
    unfold Qr
    rw [List.take_of_length_le (by omega)] at hn
    rw [show decide ((i : Int) < ((l.length : Nat) : Int)) = false from decide_eq_false (by omega), cond_false, Kf hn]
    rfl
  | succ d ih =>
    intro i f hd hi hf hn
    obtain ⟨f, rfl⟩ : ∃ g, f = g + 1 := ⟨f - 1, by omega⟩
    have hlt : i < l.length := by omega
    show Qr (Qp l p f) l p (i : Int) = _
    unfold Qr
    rw [show decide ((i : Int) < ((l.length : Nat) : Int)) = true from decide_eq_true (by omega), cond_true, Ul hlt, Option.bind_some, hp, Option.bind_some]
    cases hx : P l[i] with
    | true => rw [cond_true, Ke hlt hn hx]; rfl
    | false =>
      rw [cond_false, show ((i : Int) + 1) = ((i + 1 : Nat) : Int) by omega, Xh (by omega)]
      exact ih (i + 1) f (by omega) (by omega) (by omega) (Kg hlt hn hx)
theorem Lj (l : List Cz) (P : Cz → Bool) (p : Str → Str → Int → Option Bool) (hp : ∀ x : Cz, p x.1 x.2.1 x.2.2 = some (P x)) (hl : l.length ≤ 140737488355328) :
    ∀ (d i f : Nat), d = l.length - i → i ≤ l.length → d < f → (l.take i).any P = false → Qq l p f (i : Int) = some (ixI (l.findIdx? P)) := by
  intro d
  induction d with
  | zero =>
    intro i f hd hi hf hn
    obtain ⟨f, rfl⟩ : ∃ g, f = g + 1 := ⟨f - 1, by omega⟩
    show Qs (Qq l p f) l p (i : Int) = _
    unfold Qs
    rw [List.take_of_length_le (by omega)] at hn
    rw [show decide ((i : Int) < ((l.length : Nat) : Int)) = false from decide_eq_false (by omega), cond_false, Kf hn]
    rfl
  | succ d ih =>
    intro i f hd hi hf hn
    obtain ⟨f, rfl⟩ : ∃ g, f = g + 1 := ⟨f - 1, by omega⟩
    have hlt : i < l.length := by omega
    show Qs (Qq l p f) l p (i : Int) = _
    unfold Qs
    rw [show decide ((i : Int) < ((l.length : Nat) : Int)) = true from decide_eq_true (by omega), cond_true, Ul hlt, Option.bind_some, hp, Option.bind_some]
    cases hx : P l[i] with
    | true => rw [cond_true, Ke hlt hn hx]; rfl
    | false =>
      rw [cond_false, show ((i : Int) + 1) = ((i + 1 : Nat) : Int) by omega, Xh (by omega)]
      exact ih (i + 1) f (by omega) (by omega) (by omega) (Kg hlt hn hx)
theorem pl_lt' {l : List Qk} {nm : Str} {k : Nat} (h : pl l nm = some k) : k < l.length := (List.findIdx?_eq_some_iff_getElem.1 h).1
theorem lFind (w g i e : Int) (l : List Qk) (nm : Str) (hl : l.length ≤ 140737488355328) : J9 w g i e l nm = some (Cl l nm) := by
  have h := Li l (fun x => x.1 == nm) (fun y0 y1 y2 y3 y4 => Uw y0 y1 y2 y3 y4 nm) (fun x => rfl) hl l.length 0 Zd (by omega) (by omega) (by unfold Zd; omega) rfl
  unfold J9 Va
  rw [show ((0 : Nat) : Int) = 0 from rfl] at h
  rw [h, Option.bind_some]
  unfold Cl
  show _ = some (match pl l nm with | some k => _ | none => _)
  rw [show l.findIdx? (fun x => x.1 == nm) = pl l nm from rfl]
  cases hp : pl l nm with
  | none => rfl
  | some k =>
    have hk := pl_lt' hp
    have hg : l.getD k F0 = l[k] := by simp [List.getD, hk]
    rw [show decide (ixI (some k) < 0) = false from decide_eq_false (by show ¬ ((k : Nat) : Int) < 0; omega), cond_false]
    show (idx l ((k : Nat) : Int)).bind _ = _
    rw [Ul hk, Option.bind_some]
    simp only [hg]
def tix (l : List Cz) (nm : Str) : Option Nat := l.findIdx? (fun x => x.1 == nm)
def Lk : Cz := ([], [], 0)
def Lp (l : List Cz) (nm : Str) : Str × Str × Int × Bool := match tix l nm with
  | some k => ((l.getD k Lk).1, (l.getD k Lk).2.1, (l.getD k Lk).2.2, true)
  | none => ([], [], 0, false)
theorem tix_lt {l : List Cz} {nm : Str} {k : Nat} (h : tix l nm = some k) : k < l.length := (List.findIdx?_eq_some_iff_getElem.1 h).1
theorem lTok (n : Str) (a b : Int) (ns : List Kn) (l : List Cz) (nm : Str) (hl : l.length ≤ 140737488355328) : Js n a b ns l nm = some (Lp l nm) := by
  have h := Lj l (fun x => x.1 == nm) (fun y0 y1 y2 => Uh y0 y1 y2 nm) (fun x => rfl) hl l.length 0 Zd (by omega) (by omega) (by unfold Zd; omega) rfl
  unfold Js Vc
  rw [show ((0 : Nat) : Int) = 0 from rfl] at h
  rw [h, Option.bind_some]
  unfold Lp
  rw [show l.findIdx? (fun x => x.1 == nm) = tix l nm from rfl]
  cases hp : tix l nm with
  | none => rfl
  | some k =>
    have hk := tix_lt hp
    have hg : l.getD k Lk = l[k] := by simp [List.getD, hk]
    rw [show decide (ixI (some k) < 0) = false from decide_eq_false (by show ¬ ((k : Nat) : Int) < 0; omega), cond_false]
    show (idx l ((k : Nat) : Int)).bind _ = _
    rw [Ul hk, Option.bind_some]
    simp only [hg]
theorem rTok_loop (l : List Cz) (nm : Str) (hl : l.length ≤ 9000) : ∀ (d i f : Nat), d = l.length - i → i ≤ l.length → d < f → (l.take i).any (fun x => x.1 == nm) = false → Zv l nm f (i : Int) = some (Lp l nm) := by
  intro d
  induction d with
  | zero =>
    intro i f hd hi hf hn
    obtain ⟨f, rfl⟩ : ∃ g, f = g + 1 := ⟨f - 1, by omega⟩
    show Zu (Zv l nm f) l nm (i : Int) = _
    unfold Zu Lp tix
    rw [List.take_of_length_le (by omega)] at hn
    rw [show decide ((i : Int) < ((l.length : Nat) : Int)) = false from decide_eq_false (by omega), cond_false, Kf hn]
  | succ d ih =>
    intro i f hd hi hf hn
    obtain ⟨f, rfl⟩ : ∃ g, f = g + 1 := ⟨f - 1, by omega⟩
    have hlt : i < l.length := by omega
    show Zu (Zv l nm f) l nm (i : Int) = _
    unfold Zu
    rw [show decide ((i : Int) < ((l.length : Nat) : Int)) = true from decide_eq_true (by omega), cond_true, Ul hlt, Option.bind_some]
    cases hx : (l[i].1 == nm) with
    | true =>
      have hg : l.getD i Lk = l[i] := by simp [List.getD, hlt]
      rw [cond_true, Option.bind_some]
      unfold Lp tix
      rw [Ke hlt hn hx]
      simp only [hg]
    | false =>
      rw [cond_false, show ((i : Int) + 1) = ((i + 1 : Nat) : Int) by omega, Xh (by omega)]
      exact ih (i + 1) f (by omega) (by omega) (by omega) (Kg hlt hn hx)
theorem rTok (n : Str) (a b : Int) (ns : List Kn) (l : List Cz) (nm : Str) (hl : l.length ≤ 9000) : J3 n a b ns l nm = some (Lp l nm) :=
  rTok_loop l nm hl l.length 0 Zd (by omega) (by omega) (by unfold Zd; omega) rfl
structure VC (l : List Qk) : Prop where
  len : l.length ≤ 9000
  q : ∀ t ∈ l, TenQ t
  s : ∀ t ∈ l, TenS t
  o : ∀ t ∈ l, Hw t = true
def Ha (l : List Qk) (t k : Str) : Str × Str × Int × Bool := Lp (Cl l t).2.2.2.2.1 k
def E8 (l : List Qk) (t k n : Str) : Str := cond (Ha l t k).2.2.2 (Cd (Ha l t k).2.1 [t, k, n]) []
def vRevB (l : List Qk) (M : U2) (t k : Str) : Bool := (Ha l t k).2.2.2 && (Nx M (t, k) == 0)
def vRevM (l : List Qk) (M : U2) (t k : Str) : U2 := cond (Ha l t k).2.2.2 (Kw M (t, k) (Nx M (t, k) + 1)) M
section
variable {l : List Qk} (hv : VC l)
include hv
theorem Ct (t : Str) : (Cl l t).2.2.2.2.1.length ≤ 9000 := by
  unfold Cl
  cases hp : pl l t with
  | none => simp
  | some k =>
    have hk := pl_lt' hp
    have hg : l.getD k F0 = l[k] := by simp [List.getD, hk]
    simp only [hg]
    exact (hv.s _ (List.getElem_mem hk)).2.2.1
theorem Kh {t k : Str} (h : (Ha l t k).2.2.2 = true) : (Ha l t k).2.1.length ≤ 32 ∧ 0 ≤ (Ha l t k).2.2.1 ∧ (Ha l t k).2.2.1 ≤ 1099511627776 ∧ t.length ≤ 20 ∧ k.length ≤ 20 := by
  unfold Ha at h ⊢
  unfold Cl at h ⊢
  cases hp : pl l t with
  | none =>
    rw [hp] at h
    simp [Lp, tix] at h
  | some i =>
    have hi := pl_lt' hp
    have hg : l.getD i F0 = l[i] := by simp [List.getD, hi]
    rw [hp] at h
    simp only [hg] at h ⊢
    have ho := hv.o _ (List.getElem_mem hi)
    have hname : l[i].1 = t := by
      have := (List.findIdx?_eq_some_iff_getElem.1 hp).2.1
      simpa using this
    unfold Hw at ho
    simp only [Bool.and_eq_true, List.all_eq_true] at ho
    have hn := ho.2.1.1
    unfold Ei at hn
    simp only [Bool.and_eq_true, decide_eq_true_eq] at hn
    unfold Lp at h ⊢
    cases hp2 : tix l[i].2.2.2.2 k with
    | none => rw [hp2] at h; cases h
    | some j =>
      have hj := tix_lt hp2
      have hg2 : l[i].2.2.2.2.getD j Lk = l[i].2.2.2.2[j] := by simp [List.getD, hj]
      simp only [hg2]
      have hk := ho.1.2 _ (List.getElem_mem hj)
      have hname2 : l[i].2.2.2.2[j].1 = k := by
        have := (List.findIdx?_eq_some_iff_getElem.1 hp2).2.1
        simpa using this
      unfold K4 Ei at hk
      simp only [Bool.and_eq_true, decide_eq_true_eq] at hk
      rw [hname2] at hk
      rw [hname] at hn
      exact ⟨hk.2.1.2, hk.2.2.1, hk.2.2.2, hn.1.1.1.2, hk.1.1.1.1.2⟩
variable (w g i e : Int) (M : U2) (t k : Str)
theorem pVWant (n : Str) : Z1 w g i e l M t k n = some (E8 l t k n) := by
  unfold Z1 Z5 V4
  rw [lFind _ _ _ _ _ _ (by have := hv.len; omega), Option.bind_some, lTok _ _ _ _ _ _ (by have := Ct hv t; omega), Option.bind_some]
  rw [show Lp (Cl l t).2.2.2.2.1 k = Ha l t k from rfl]
  unfold E8
  cases h : (Ha l t k).2.2.2 with
  | false => rfl
  | true =>
    obtain ⟨h1, _⟩ := Kh hv h
    rw [cond_true, cond_true]
    unfold Jv
    rw [show Nat.ble (Ha l t k).2.1.length 281474976710656 = true by simp; omega]
    simp only [chk, Option.bind_some]
    rw [Lg _ (by omega) _ (by simp)]
    rfl
theorem pVRevoke (hM : 0 ≤ Nx M (t, k) ∧ Nx M (t, k) ≤ 1000000) : Xk w g i e l M t k = some (vRevB l M t k, w, g, i, e, vRevM l M t k) := by
  unfold Xk Zr Vx
  rw [lFind _ _ _ _ _ _ (by have := hv.len; omega), Option.bind_some, lTok _ _ _ _ _ _ (by have := Ct hv t; omega), Option.bind_some]
  rw [show Lp (Cl l t).2.2.2.2.1 k = Ha l t k from rfl]
  unfold vRevB vRevM
  cases h : (Ha l t k).2.2.2 with
  | false => rfl
  | true =>
    obtain ⟨_, _, _, h1, h2⟩ := Kh hv h
    rw [cond_true]
    unfold Jc
    rw [show (Nat.ble t.length 140737488355328 && Nat.ble k.length 140737488355328) = true by simp; omega]
    simp only [chk, Option.bind_some, cond_true, Bool.true_and]
    rw [Dh (by omega), Ex, if_pos rfl]
    rw [show (Nx M (t, k) + 1 == 1) = (Nx M (t, k) == 0) by rw [Bool.eq_iff_iff, beq_iff_eq, beq_iff_eq]; omega]
end
theorem pVNew (w g i e : Int) (l : List Qk) (hl : l.length ≤ 140737488355328) (hq : ∀ t ∈ l, TenQ t) : Ua w g i e l = some (cond (Fz w g i e l) (some (w, g, i, e, [])) none) := by
  unfold Ua
  rw [lCfg w g i e l hl hq, Option.bind_some]
  cases Fz w g i e l <;> rfl
theorem vc_of {w g i e : Int} {l : List Qk} (hk : Fz w g i e l = true) (hl : l.length ≤ 9000) (hq : ∀ t ∈ l, TenQ t) (hs : ∀ t ∈ l, TenS t) : VC l := by
  refine ⟨hl, hq, hs, ?_⟩
  unfold Fz at hk
  simp only [Bool.and_eq_true, List.all_eq_true] at hk
  exact hk.2.2.1
end Go.Proofs.YtmgfanhcdfobhaaGreatDoor
namespace Go.Proofs.YtmgfanhcdfobhaaGreatDoor
open Go.RowKit
def U3  : Option Unit :=
  (some ())
set_option maxRecDepth 100000 in
set_option maxHeartbeats 4000000 in
theorem Ds   (w0 : World)  (r : Unit) (H : U3  = some r) :
  Calls Tryz.prog 42 #[] w0 (fun e w' => ∃ (g7 : Nat) (b : Nat), e = .returned (.agg #[(.int .i64 9), (.int .i64 9), (.int .i64 9), (.int .i64 9), (.slice (some ⟨b, 0, none⟩) (List.length ([(([97, 110, 110] : List UInt8), 0, 0, ([] : List (Int × Int)), ([(([107] : List UInt8), ([115] : List UInt8), 5)] : List ((List UInt8) × (List UInt8) × Int)))] : List Qk)) (List.length ([(([97, 110, 110] : List UInt8), 0, 0, ([] : List (Int × Int)), ([(([107] : List UInt8), ([115] : List UInt8), 5)] : List ((List UInt8) × (List UInt8) × Int)))] : List Qk)))]) ∧ SP [] w0 w' [Ja 48 (Qe Qw (Qe Qw (Qc .i64))) (some ⟨g7, 0, none⟩) (List.length ([(([107] : List UInt8), ([115] : List UInt8), 5)] : List ((List UInt8) × (List UInt8) × Int))) ([(([107] : List UInt8), ([115] : List UInt8), 5)] : List ((List UInt8) × (List UInt8) × Int)), Ja 44 Nm (some ⟨b, 0, none⟩) (List.length ([(([97, 110, 110] : List UInt8), 0, 0, ([] : List (Int × Int)), ([(([107] : List UInt8), ([115] : List UInt8), 5)] : List ((List UInt8) × (List UInt8) × Int)))] : List Qk)) ([(([97, 110, 110] : List UInt8), 0, 0, (none, 0, ([] : List (Int × Int))), ((some ⟨g7, 0, none⟩), (List.length ([(([107] : List UInt8), ([115] : List UInt8), 5)] : List ((List UInt8) × (List UInt8) × Int))), ([(([107] : List UInt8), ([115] : List UInt8), 5)] : List ((List UInt8) × (List UInt8) × Int))))] : List Vp)]) := by
 unfold U3 at H
 refine Qv (n := 6) Tryz.func42 K K K ?_
 have f := Q1 [] w0
 refine aQ ?_
 refine aR ?_
 refine iS 1 ?_
 refine Qj.alloc (t := 24) (z := (.agg #[(.int .i64 0), (.int .i64 0), (.int .i64 0), (.int .i64 0), (.slice none (List.length ([] : List Qk)) 0)])) (d := (some 0)) (k := 0) K rfl K f ?_
 intro g3 w4 h
 refine iF ?_
 refine aQ ?_
 refine aR ?_
 refine iR 1 1 [(1, (.agg #[(.string ⟨List.toArray ([107] : List UInt8)⟩), (.string ⟨List.toArray ([115] : List UInt8)⟩), (.int .i64 5)]))] ?_
 refine iS 2 ?_
 refine V6 (e := (Qe Qw (Qe Qw (Qc .i64)))) (T := 42) (E := 48) (len := 1) (parts := #[(0, (.tmp 1))]) (cs := #[(.string ⟨List.toArray ([107] : List UInt8)⟩), (.string ⟨List.toArray ([115] : List UInt8)⟩), (.int .i64 5)]) ([(([107] : List UInt8), ([115] : List UInt8), 5)] : List ((List UInt8) × (List UInt8) × Int)) (d := (some 2)) (k := 1) K rfl (fun _ => K) h rfl rfl rfl rfl ?_
 intro g7 w8 j
 refine iR 1 3 [(3, (.agg #[(.string ⟨List.toArray ([97, 110, 110] : List UInt8)⟩), (.int .i64 0), (.int .i64 0), (.slice none (List.length ([] : List (Int × Int))) 0), (.slice (some ⟨g7, 0, none⟩) (List.length ([(([107] : List UInt8), ([115] : List UInt8), 5)] : List ((List UInt8) × (List UInt8) × Int))) (List.length ([(([107] : List UInt8), ([115] : List UInt8), 5)] : List ((List UInt8) × (List UInt8) × Int))))]))] ?_
 refine iS 4 ?_
 refine V6 (e := Nm) (T := 22) (E := 44) (len := 1) (parts := #[(0, (.tmp 3))]) (cs := #[(.string ⟨List.toArray ([97, 110, 110] : List UInt8)⟩), (.int .i64 0), (.int .i64 0), (.slice none (List.length ([] : List (Int × Int))) 0), (.slice (some ⟨g7, 0, none⟩) (List.length ([(([107] : List UInt8), ([115] : List UInt8), 5)] : List ((List UInt8) × (List UInt8) × Int))) (List.length ([(([107] : List UInt8), ([115] : List UInt8), 5)] : List ((List UInt8) × (List UInt8) × Int))))]) ([(([97, 110, 110] : List UInt8), 0, 0, (none, 0, ([] : List (Int × Int))), ((some ⟨g7, 0, none⟩), (List.length ([(([107] : List UInt8), ([115] : List UInt8), 5)] : List ((List UInt8) × (List UInt8) × Int))), ([(([107] : List UInt8), ([115] : List UInt8), 5)] : List ((List UInt8) × (List UInt8) × Int))))] : List Vp) (d := (some 4)) (k := 3) K rfl (fun _ => K) j rfl rfl rfl rfl ?_
 intro b m l
 refine iR 1 5 [(5, (.agg #[(.int .i64 9), (.int .i64 9), (.int .i64 9), (.int .i64 9), (.slice (some ⟨b, 0, none⟩) (List.length ([(([97, 110, 110] : List UInt8), 0, 0, ([] : List (Int × Int)), ([(([107] : List UInt8), ([115] : List UInt8), 5)] : List ((List UInt8) × (List UInt8) × Int)))] : List Qk)) (List.length ([(([97, 110, 110] : List UInt8), 0, 0, ([] : List (Int × Int)), ([(([107] : List UInt8), ([115] : List UInt8), 5)] : List ((List UInt8) × (List UInt8) × Int)))] : List Qk)))]))] ?_
 refine iS 6 ?_
 refine Qj.store (t := 24) (x := (.tmp 0)) (y := (.tmp 5)) (g := g3) (off := 0) (i := 0) (v := (.agg #[(.int .i64 9), (.int .i64 9), (.int .i64 9), (.int .i64 9), (.slice (some ⟨b, 0, none⟩) (List.length ([(([97, 110, 110] : List UInt8), 0, 0, ([] : List (Int × Int)), ([(([107] : List UInt8), ([115] : List UInt8), 5)] : List ((List UInt8) × (List UInt8) × Int)))] : List Qk)) (List.length ([(([97, 110, 110] : List UInt8), 0, 0, ([] : List (Int × Int)), ([(([107] : List UInt8), ([115] : List UInt8), 5)] : List ((List UInt8) × (List UInt8) × Int)))] : List Qk)))])) (cs' := #[(.int .i64 9), (.int .i64 9), (.int .i64 9), (.int .i64 9), (.slice (some ⟨b, 0, none⟩) (List.length ([(([97, 110, 110] : List UInt8), 0, 0, ([] : List (Int × Int)), ([(([107] : List UInt8), ([115] : List UInt8), 5)] : List ((List UInt8) × (List UInt8) × Int)))] : List Qk)) (List.length ([(([97, 110, 110] : List UInt8), 0, 0, ([] : List (Int × Int)), ([(([107] : List UInt8), ([115] : List UInt8), 5)] : List ((List UInt8) × (List UInt8) × Int)))] : List Qk)))]) (d := none) (k := 5) K rfl K K l rfl K ?_
 intro o c
 refine iF ?_
 refine At.ret K ?_
 refine ⟨(.agg #[(.int .i64 9), (.int .i64 9), (.int .i64 9), (.int .i64 9), (.slice (some ⟨b, 0, none⟩) (List.length ([(([97, 110, 110] : List UInt8), 0, 0, ([] : List (Int × Int)), ([(([107] : List UInt8), ([115] : List UInt8), 5)] : List ((List UInt8) × (List UInt8) × Int)))] : List Qk)) (List.length ([(([97, 110, 110] : List UInt8), 0, 0, ([] : List (Int × Int)), ([(([107] : List UInt8), ([115] : List UInt8), 5)] : List ((List UInt8) × (List UInt8) × Int)))] : List Qk)))]), Bz K (Rx (a := 0) (t := 24) (g := g3) (off := 0) K (SP.get c (i := 0) rfl) K), ?_⟩
 exact ⟨g7, b, rfl, SP.sel c [1, 2] rfl rfl⟩
def Vf (a : Bool) : Option (Bool) :=
  (some (a))
def Yi (a : (Int × Int × Int × Int × U2)) (e : Bool) : Option (Bool) :=
  (cond e (some (false)) ((Y9 ([(115 : UInt8)] : List UInt8) ([([97, 110, 110] : List UInt8), ([107] : List UInt8), ([110] : List UInt8)] : List (List UInt8))).bind fun d => ((Ye a.1 a.2.1 a.2.2.1 a.2.2.2.1 ([(([97, 110, 110] : List UInt8), 0, 0, ([] : List (Int × Int)), ([(([107] : List UInt8), ([115] : List UInt8), 5)] : List ((List UInt8) × (List UInt8) × Int)))] : List Qk) a.2.2.2.2 ([97, 110, 110] : List UInt8) ([107] : List UInt8) ([110] : List UInt8) d 4).bind fun f => ((Ye a.1 a.2.1 a.2.2.1 a.2.2.2.1 ([(([97, 110, 110] : List UInt8), 0, 0, ([] : List (Int × Int)), ([(([107] : List UInt8), ([115] : List UInt8), 5)] : List ((List UInt8) × (List UInt8) × Int)))] : List Qk) a.2.2.2.2 ([97, 110, 110] : List UInt8) ([107] : List UInt8) ([110] : List UInt8) d 5).bind fun g => ((Ye a.1 a.2.1 a.2.2.1 a.2.2.2.1 ([(([97, 110, 110] : List UInt8), 0, 0, ([] : List (Int × Int)), ([(([107] : List UInt8), ([115] : List UInt8), 5)] : List ((List UInt8) × (List UInt8) × Int)))] : List Qk) a.2.2.2.2 ([97, 110, 110] : List UInt8) ([107] : List UInt8) ([109] : List UInt8) d 4).bind fun h => ((Jo a.1 a.2.1 a.2.2.1 a.2.2.2.1 ([(([97, 110, 110] : List UInt8), 0, 0, ([] : List (Int × Int)), ([(([107] : List UInt8), ([115] : List UInt8), 5)] : List ((List UInt8) × (List UInt8) × Int)))] : List Qk) a.2.2.2.2 ([97, 110, 110] : List UInt8) ([107] : List UInt8) 4).bind fun i => ((Xk a.1 a.2.1 a.2.2.1 a.2.2.2.1 ([(([97, 110, 110] : List UInt8), 0, 0, ([] : List (Int × Int)), ([(([107] : List UInt8), ([115] : List UInt8), 5)] : List ((List UInt8) × (List UInt8) × Int)))] : List Qk) a.2.2.2.2 ([97, 110, 110] : List UInt8) ([107] : List UInt8)).bind fun c => ((Xk c.2.1 c.2.2.1 c.2.2.2.1 c.2.2.2.2.1 ([(([97, 110, 110] : List UInt8), 0, 0, ([] : List (Int × Int)), ([(([107] : List UInt8), ([115] : List UInt8), 5)] : List ((List UInt8) × (List UInt8) × Int)))] : List Qk) c.2.2.2.2.2 ([97, 110, 110] : List UInt8) ([107] : List UInt8)).bind fun b => ((Ye b.2.1 b.2.2.1 b.2.2.2.1 b.2.2.2.2.1 ([(([97, 110, 110] : List UInt8), 0, 0, ([] : List (Int × Int)), ([(([107] : List UInt8), ([115] : List UInt8), 5)] : List ((List UInt8) × (List UInt8) × Int)))] : List Qk) b.2.2.2.2.2 ([97, 110, 110] : List UInt8) ([107] : List UInt8) ([110] : List UInt8) d 4).bind fun j => (cond (f == 0) (cond (g == 3) (cond (h == 101) (cond i (cond c.1 (cond (!b.1) (cond (j == 3) ((Z1 b.2.1 b.2.2.1 b.2.2.2.1 b.2.2.2.2.1 ([(([97, 110, 110] : List UInt8), 0, 0, ([] : List (Int × Int)), ([(([107] : List UInt8), ([115] : List UInt8), 5)] : List ((List UInt8) × (List UInt8) × Int)))] : List Qk) b.2.2.2.2.2 ([97, 110, 110] : List UInt8) ([107] : List UInt8) ([110] : List UInt8)).bind fun k => (cond (k == d) ((Z1 b.2.1 b.2.2.1 b.2.2.2.1 b.2.2.2.2.1 ([(([97, 110, 110] : List UInt8), 0, 0, ([] : List (Int × Int)), ([(([107] : List UInt8), ([115] : List UInt8), 5)] : List ((List UInt8) × (List UInt8) × Int)))] : List Qk) b.2.2.2.2.2 ([97, 110, 110] : List UInt8) ([122] : List UInt8) ([110] : List UInt8)).bind fun l => (cond (l == ([] : List UInt8)) ((Jo b.2.1 b.2.2.1 b.2.2.2.1 b.2.2.2.2.1 ([(([97, 110, 110] : List UInt8), 0, 0, ([] : List (Int × Int)), ([(([107] : List UInt8), ([115] : List UInt8), 5)] : List ((List UInt8) × (List UInt8) × Int)))] : List Qk) b.2.2.2.2.2 ([97, 110, 110] : List UInt8) ([107] : List UInt8) 0).bind fun m => (Vf (!m))) (Vf false))) (Vf false))) (Vf false)) (Vf false)) (Vf false)) (Vf false)) (Vf false)) (Vf false)) (Vf false)))))))))))
def Jp  : Option (Bool) :=
  ((U3 ).bind fun z1 => ((Ua 9 9 9 9 ([(([97, 110, 110] : List UInt8), 0, 0, ([] : List (Int × Int)), ([(([107] : List UInt8), ([115] : List UInt8), 5)] : List ((List UInt8) × (List UInt8) × Int)))] : List Qk)).bind fun z9 => (optE z9 (some (false)) (fun a => ((Ua 0 0 0 0 ([] : List Qk)).bind fun b => (optE b (Yi a false) (fun c => (Yi a true))))))))
set_option maxRecDepth 100000 in
set_option maxHeartbeats 4000000 in
theorem Df   (w0 : World) (hL : B0 w0)  (r : (Bool)) (H : Jp  = some r) :
  Calls Tryz.prog 15 #[] w0 (fun e w' => e = .returned (.bool r) ∧ SP [] w0 w' []) := by
 unfold Jp at H
 refine Qv (n := 81) Tryz.func15 K K K ?_
 have g1 := Q1 [] w0
 refine aQ ?_
 refine aR ?_
 refine iR 1 1 [(0, (.bool false))] ?_
 refine iF ?_
 refine aQ ?_
 refine aR ?_
 obtain ⟨z1, g2, H⟩ := Qg H
 refine iS 1 ?_
 refine cF 42 #[] #[] 10 Tryz.call42 (Ds   w0  z1 g2) ?_
 rintro e w3 ⟨g5, g6, rfl, d2⟩
 refine ⟨_, rfl, ?_⟩
 have z := SP.call g1 d2
 clear d2
 obtain ⟨z9, d3, H⟩ := Qg H
 rcases z9 with _ | f
 ·have H := optN H
  refine iS 2 ?_
  refine cF 18 #[(.tmp 10)] #[24] 11 Tryz.call18 (Jg (some ⟨g6, 0, none⟩) (List.length ([(([97, 110, 110] : List UInt8), 0, 0, ([] : List (Int × Int)), ([(([107] : List UInt8), ([115] : List UInt8), 5)] : List ((List UInt8) × (List UInt8) × Int)))] : List Qk)) 9 9 9 9 ([(([97, 110, 110] : List UInt8), 0, 0, (none, 0, ([] : List (Int × Int))), ((some ⟨g5, 0, none⟩), (List.length ([(([107] : List UInt8), ([115] : List UInt8), 5)] : List ((List UInt8) × (List UInt8) × Int))), ([(([107] : List UInt8), ([115] : List UInt8), 5)] : List ((List UInt8) × (List UInt8) × Int))))] : List Vp) w3 (Xl hL (SP.keeps z)) (C1 (Vm (SP.get z (i := 1) rfl)) (Gn (Y2 Us (Y2 Us (Y2 Us (Y2 (N2 (RdT.nil (Qe (Qc .u32) (Qc .i64)) w3)) (N2 (Vm (SP.get z (i := 0) rfl))))))) Dj)) none d3) ?_
  rintro e i9 ⟨rfl, d4⟩
  refine ⟨_, rfl, ?_⟩
  have g3 := SP.call z d4
  clear d4
  refine iR 1 3 [(1, (.pointer none))] ?_
  refine iF ?_
  refine aQ ?_
  refine aQ ?_
  refine aR ?_
  refine iR 7 7 [(12, (.pointer none)), (13, (.bool true)), (14, (.bool true)), (15, undef), (16, undef), (17, undef), (18, (.bool true))] ?_
  refine iF ?_
  refine Zs K (o := (.tmp 18)) K (b := true) K (fun d5 => ?_) (fun d5 => ?_)
  rotate_left
  ·cases d5
  refine aQ ?_
  refine aR ?_
  refine iR 1 1 [(0, (.bool false))] ?_
  refine iF ?_
  refine At.ret K ?_
  refine ⟨(.bool false), K, ?_⟩
  obtain rfl := Qm H
  exact ⟨rfl, SP.sel g3 [] rfl rfl⟩
 ·have H := optS H
  refine iS 2 ?_
  refine cF 18 #[(.tmp 10)] #[24] 11 Tryz.call18 (Jg (some ⟨g6, 0, none⟩) (List.length ([(([97, 110, 110] : List UInt8), 0, 0, ([] : List (Int × Int)), ([(([107] : List UInt8), ([115] : List UInt8), 5)] : List ((List UInt8) × (List UInt8) × Int)))] : List Qk)) 9 9 9 9 ([(([97, 110, 110] : List UInt8), 0, 0, (none, 0, ([] : List (Int × Int))), ((some ⟨g5, 0, none⟩), (List.length ([(([107] : List UInt8), ([115] : List UInt8), 5)] : List ((List UInt8) × (List UInt8) × Int))), ([(([107] : List UInt8), ([115] : List UInt8), 5)] : List ((List UInt8) × (List UInt8) × Int))))] : List Vp) w3 (Xl hL (SP.keeps z)) (C1 (Vm (SP.get z (i := 1) rfl)) (Gn (Y2 Us (Y2 Us (Y2 Us (Y2 (N2 (RdT.nil (Qe (Qc .u32) (Qc .i64)) w3)) (N2 (Vm (SP.get z (i := 0) rfl))))))) Dj)) (some f) d3) ?_
  rintro e b2 ⟨j, m, rfl, d6⟩
  refine ⟨_, rfl, ?_⟩
  have b3 := SP.call z d6
  clear d6
  refine iR 1 3 [(1, (pt j 0))] ?_
  refine iF ?_
  refine aQ ?_
  refine aQ ?_
  refine At.join (fun ρ w => ∃ (a3 : Bool), Zg ρ [(1, (pt j 0)), (18, (.bool a3))] ∧ SP [] w0 w [Ja 44 Nm (some ⟨g6, 0, none⟩) (List.length ([(([97, 110, 110] : List UInt8), 0, 0, ([] : List (Int × Int)), ([(([107] : List UInt8), ([115] : List UInt8), 5)] : List ((List UInt8) × (List UInt8) × Int)))] : List Qk)) ([(([97, 110, 110] : List UInt8), 0, 0, (none, 0, ([] : List (Int × Int))), ((some ⟨g5, 0, none⟩), (List.length ([(([107] : List UInt8), ([115] : List UInt8), 5)] : List ((List UInt8) × (List UInt8) × Int))), ([(([107] : List UInt8), ([115] : List UInt8), 5)] : List ((List UInt8) × (List UInt8) × Int))))] : List Vp), Ja 48 (Qe Qw (Qe Qw (Qc .i64))) (some ⟨g5, 0, none⟩) (List.length ([(([107] : List UInt8), ([115] : List UInt8), 5)] : List ((List UInt8) × (List UInt8) × Int))) ([(([107] : List UInt8), ([115] : List UInt8), 5)] : List ((List UInt8) × (List UInt8) × Int)), Q7 j 79 #[(.int .i64 f.1), (.int .i64 f.2.1), (.int .i64 f.2.2.1), (.int .i64 f.2.2.2.1), (.slice (some ⟨g6, 0, none⟩) (List.length ([(([97, 110, 110] : List UInt8), 0, 0, ([] : List (Int × Int)), ([(([107] : List UInt8), ([115] : List UInt8), 5)] : List ((List UInt8) × (List UInt8) × Int)))] : List Qk)) (List.length ([(([97, 110, 110] : List UInt8), 0, 0, ([] : List (Int × Int)), ([(([107] : List UInt8), ([115] : List UInt8), 5)] : List ((List UInt8) × (List UInt8) × Int)))] : List Qk))), (.map (some m))], Xg m f.2.2.2.2] ∧ Yi f a3 = some r) ?_ ?_
  ·refine aR ?_
   refine iR 4 4 [(12, (pt j 0)), (13, (.bool false)), (14, (.bool false)), (15, (.agg #[(.int .i64 0), (.int .i64 0), (.int .i64 0), (.int .i64 0), (.slice none (List.length ([] : List Qk)) 0)]))] ?_
   obtain ⟨g4, d7, H⟩ := Qg H
   rcases g4 with _ | g7
   ·have H := optN H
    refine iS 5 ?_
    refine cF 18 #[(.tmp 15)] #[24] 16 Tryz.call18 (Jg none 0 0 0 0 0 ([] : List Vp) b2 (Xl hL (SP.keeps b3)) (Di Nm E2 b2) none d7) ?_
    rintro e j0 ⟨rfl, d8⟩
    refine ⟨_, rfl, ?_⟩
    have g8 := SP.call b3 d8
    clear d8
    refine iR 2 7 [(17, (.bool false)), (18, (.bool false))] ?_
    refine iF ?_
    exact ⟨false, ⟨K, K, trivial⟩, SP.sel g8 [1, 0, 2, 3] rfl rfl, H⟩
   ·have H := optS H
    refine iS 5 ?_
    refine cF 18 #[(.tmp 15)] #[24] 16 Tryz.call18 (Jg none 0 0 0 0 0 ([] : List Vp) b2 (Xl hL (SP.keeps b3)) (Di Nm E2 b2) (some g7) d7) ?_
    rintro e j1 ⟨j2, j3, rfl, d9⟩
    refine ⟨_, rfl, ?_⟩
    have g9 := SP.call b3 d9
    clear d9
    refine iR 2 7 [(17, (.bool true)), (18, (.bool true))] ?_
    refine iF ?_
    exact ⟨true, ⟨K, K, trivial⟩, SP.sel g9 [1, 0, 2, 3] rfl rfl, H⟩
  ·rintro ρ j4 ⟨a3, hk, e0, H⟩
   unfold Yi at H
   first | refine At.known [(1, (pt j 0)), (18, (.bool a3))] hk ?_ | rw [← Q9 (l := [(1, (pt j 0)), (18, (.bool a3))]) hk]
   refine Zs K (o := (.tmp 18)) K (b := a3) K (fun c1 => ?_) (fun c1 => ?_)
   ·have H := ct H c1
    refine aQ ?_
    refine aR ?_
    refine iR 1 1 [(0, (.bool false))] ?_
    refine iF ?_
    refine At.ret K ?_
    refine ⟨(.bool false), K, ?_⟩
    obtain rfl := Qm H
    exact ⟨rfl, SP.sel e0 [] rfl rfl⟩
   ·have H := cf H c1
    refine At.skip K ?_
    refine aQ ?_
    refine aR ?_
    refine iS 1 ?_
    refine V6 (e := eU8) (T := 52) (E := 5) (len := 1) (parts := #[(0, (.const (.int .u8 (115))))]) (cs := #[(.int .u8 115)]) ([(115 : UInt8)] : List UInt8) (d := (some 19)) (k := 0) K rfl (fun _ => K) e0 (J1 (Or.inl rfl) rfl) rfl rfl rfl ?_
    intro s j5 h1
    refine iS 2 ?_
    refine Qj.mark (T := 52) (E := 5) (x := (.tmp 19)) (g := s) (c := (List.length ([(115 : UInt8)] : List UInt8))) (i := 4) (l := ([(115 : UInt8)] : List UInt8)) (d := (some 20)) (k := 1) K rfl K K K h1 rfl ?_
    intro j6 h2
    refine iS 3 ?_
    refine V6 (e := Qw) (T := 53) (E := 9) (len := 3) (parts := #[(0, (.const (.string ⟨List.toArray ([97, 110, 110] : List UInt8)⟩))), (1, (.const (.string ⟨List.toArray ([107] : List UInt8)⟩))), (2, (.const (.string ⟨List.toArray ([110] : List UInt8)⟩)))]) (cs := #[(.string ⟨List.toArray ([97, 110, 110] : List UInt8)⟩), (.string ⟨List.toArray ([107] : List UInt8)⟩), (.string ⟨List.toArray ([110] : List UInt8)⟩)]) ([([97, 110, 110] : List UInt8), ([107] : List UInt8), ([110] : List UInt8)] : List (List UInt8)) (d := (some 21)) (k := 2) K rfl (fun _ => K) h2 rfl rfl rfl rfl ?_
    intro u h3 c2
    obtain ⟨p, h4, H⟩ := Qg H
    refine iS 4 ?_
    refine cF 30 #[(.tmp 20), (.tmp 21)] #[52, 53] 22 Tryz.call30 (Nv (some ⟨s, 0, none⟩) (List.length ([(115 : UInt8)] : List UInt8)) (some ⟨u, 0, none⟩) (List.length ([([97, 110, 110] : List UInt8), ([107] : List UInt8), ([110] : List UInt8)] : List (List UInt8))) ([(115 : UInt8)] : List UInt8) ([([97, 110, 110] : List UInt8), ([107] : List UInt8), ([110] : List UInt8)] : List (List UInt8)) h3 (Hi (SP.get c2 (i := 4) rfl)) (Vm (SP.get c2 (i := 5) rfl)) p h4) ?_
    rintro e h5 ⟨rfl, e1⟩
    refine ⟨_, rfl, ?_⟩
    have b4 := SP.call c2 e1
    clear e1
    refine iR 1 5 [(2, (.string ⟨List.toArray p⟩))] ?_
    refine iF ?_
    refine aQ ?_
    refine aR ?_
    refine iR 2 2 [(23, (pt j 0)), (24, (.string ⟨List.toArray p⟩))] ?_
    obtain ⟨a4, h6, H⟩ := Qg H
    refine iS 3 ?_
    refine cF 26 #[(.tmp 23), (.const (.string ⟨List.toArray ([97, 110, 110] : List UInt8)⟩)), (.const (.string ⟨List.toArray ([107] : List UInt8)⟩)), (.const (.string ⟨List.toArray ([110] : List UInt8)⟩)), (.tmp 24), (.const (.int .i64 (4)))] #[29, 9, 9, 9, 9, 2] 25 Tryz.call26 (Ym j (some ⟨g6, 0, none⟩) (List.length ([(([97, 110, 110] : List UInt8), 0, 0, ([] : List (Int × Int)), ([(([107] : List UInt8), ([115] : List UInt8), 5)] : List ((List UInt8) × (List UInt8) × Int)))] : List Qk)) m f.1 f.2.1 f.2.2.1 f.2.2.2.1 ([(([97, 110, 110] : List UInt8), 0, 0, (none, 0, ([] : List (Int × Int))), ((some ⟨g5, 0, none⟩), (List.length ([(([107] : List UInt8), ([115] : List UInt8), 5)] : List ((List UInt8) × (List UInt8) × Int))), ([(([107] : List UInt8), ([115] : List UInt8), 5)] : List ((List UInt8) × (List UInt8) × Int))))] : List Vp) f.2.2.2.2 ([97, 110, 110] : List UInt8) ([107] : List UInt8) ([110] : List UInt8) p 4 h5 (Nc b4 [2, 3] rfl rfl) (fun w hm => C1 (Vm (SP.still b4 (l := [2, 3]) (i := 0) rfl rfl rfl hm)) (Gn (Y2 Us (Y2 Us (Y2 Us (Y2 (Di (Qe (Qc .u32) (Qc .i64)) dT w) (N2 (Vm (SP.still b4 (l := [2, 3]) (i := 1) rfl rfl rfl hm))))))) Dj)) a4 h6) ?_
    rintro e e2 ⟨rfl, e3⟩
    refine ⟨_, rfl, ?_⟩
    have b5 : SP [] w0 e2 [Ja 44 Nm (some ⟨g6, 0, none⟩) (List.length ([(([97, 110, 110] : List UInt8), 0, 0, ([] : List (Int × Int)), ([(([107] : List UInt8), ([115] : List UInt8), 5)] : List ((List UInt8) × (List UInt8) × Int)))] : List Qk)) ([(([97, 110, 110] : List UInt8), 0, 0, (none, 0, ([] : List (Int × Int))), ((some ⟨g5, 0, none⟩), (List.length ([(([107] : List UInt8), ([115] : List UInt8), 5)] : List ((List UInt8) × (List UInt8) × Int))), ([(([107] : List UInt8), ([115] : List UInt8), 5)] : List ((List UInt8) × (List UInt8) × Int))))] : List Vp), Ja 48 (Qe Qw (Qe Qw (Qc .i64))) (some ⟨g5, 0, none⟩) (List.length ([(([107] : List UInt8), ([115] : List UInt8), 5)] : List ((List UInt8) × (List UInt8) × Int))) ([(([107] : List UInt8), ([115] : List UInt8), 5)] : List ((List UInt8) × (List UInt8) × Int)), rdE eU8 (some ⟨s, 0, none⟩) (List.length ([(115 : UInt8)] : List UInt8)) ([(115 : UInt8)] : List UInt8), Ja 9 Qw (some ⟨u, 0, none⟩) (List.length ([([97, 110, 110] : List UInt8), ([107] : List UInt8), ([110] : List UInt8)] : List (List UInt8))) ([([97, 110, 110] : List UInt8), ([107] : List UInt8), ([110] : List UInt8)] : List (List UInt8)), Q7 j 79 #[(.int .i64 f.1), (.int .i64 f.2.1), (.int .i64 f.2.2.1), (.int .i64 f.2.2.2.1), (.slice (some ⟨g6, 0, none⟩) (List.length ([(([97, 110, 110] : List UInt8), 0, 0, ([] : List (Int × Int)), ([(([107] : List UInt8), ([115] : List UInt8), 5)] : List ((List UInt8) × (List UInt8) × Int)))] : List Qk)) (List.length ([(([97, 110, 110] : List UInt8), 0, 0, ([] : List (Int × Int)), ([(([107] : List UInt8), ([115] : List UInt8), 5)] : List ((List UInt8) × (List UInt8) × Int)))] : List Qk))), (.map (some m))], Xg m f.2.2.2.2] := Yg b4 [2, 3] [0, 1, 4, 5] rfl rfl e3 rfl
    clear e3
    refine iR 1 4 [(3, (.int .i64 a4))] ?_
    refine iF ?_
    refine aQ ?_
    refine aR ?_
    refine iR 2 2 [(26, (pt j 0)), (27, (.string ⟨List.toArray p⟩))] ?_
    obtain ⟨a0, h7, H⟩ := Qg H
    refine iS 3 ?_
    refine cF 26 #[(.tmp 26), (.const (.string ⟨List.toArray ([97, 110, 110] : List UInt8)⟩)), (.const (.string ⟨List.toArray ([107] : List UInt8)⟩)), (.const (.string ⟨List.toArray ([110] : List UInt8)⟩)), (.tmp 27), (.const (.int .i64 (5)))] #[29, 9, 9, 9, 9, 2] 28 Tryz.call26 (Ym j (some ⟨g6, 0, none⟩) (List.length ([(([97, 110, 110] : List UInt8), 0, 0, ([] : List (Int × Int)), ([(([107] : List UInt8), ([115] : List UInt8), 5)] : List ((List UInt8) × (List UInt8) × Int)))] : List Qk)) m f.1 f.2.1 f.2.2.1 f.2.2.2.1 ([(([97, 110, 110] : List UInt8), 0, 0, (none, 0, ([] : List (Int × Int))), ((some ⟨g5, 0, none⟩), (List.length ([(([107] : List UInt8), ([115] : List UInt8), 5)] : List ((List UInt8) × (List UInt8) × Int))), ([(([107] : List UInt8), ([115] : List UInt8), 5)] : List ((List UInt8) × (List UInt8) × Int))))] : List Vp) f.2.2.2.2 ([97, 110, 110] : List UInt8) ([107] : List UInt8) ([110] : List UInt8) p 5 e2 (Nc b5 [4, 5] rfl rfl) (fun w hm => C1 (Vm (SP.still b5 (l := [4, 5]) (i := 0) rfl rfl rfl hm)) (Gn (Y2 Us (Y2 Us (Y2 Us (Y2 (Di (Qe (Qc .u32) (Qc .i64)) dT w) (N2 (Vm (SP.still b5 (l := [4, 5]) (i := 1) rfl rfl rfl hm))))))) Dj)) a0 h7) ?_
    rintro e e4 ⟨rfl, e5⟩
    refine ⟨_, rfl, ?_⟩
    have b6 : SP [] w0 e4 [Ja 44 Nm (some ⟨g6, 0, none⟩) (List.length ([(([97, 110, 110] : List UInt8), 0, 0, ([] : List (Int × Int)), ([(([107] : List UInt8), ([115] : List UInt8), 5)] : List ((List UInt8) × (List UInt8) × Int)))] : List Qk)) ([(([97, 110, 110] : List UInt8), 0, 0, (none, 0, ([] : List (Int × Int))), ((some ⟨g5, 0, none⟩), (List.length ([(([107] : List UInt8), ([115] : List UInt8), 5)] : List ((List UInt8) × (List UInt8) × Int))), ([(([107] : List UInt8), ([115] : List UInt8), 5)] : List ((List UInt8) × (List UInt8) × Int))))] : List Vp), Ja 48 (Qe Qw (Qe Qw (Qc .i64))) (some ⟨g5, 0, none⟩) (List.length ([(([107] : List UInt8), ([115] : List UInt8), 5)] : List ((List UInt8) × (List UInt8) × Int))) ([(([107] : List UInt8), ([115] : List UInt8), 5)] : List ((List UInt8) × (List UInt8) × Int)), rdE eU8 (some ⟨s, 0, none⟩) (List.length ([(115 : UInt8)] : List UInt8)) ([(115 : UInt8)] : List UInt8), Ja 9 Qw (some ⟨u, 0, none⟩) (List.length ([([97, 110, 110] : List UInt8), ([107] : List UInt8), ([110] : List UInt8)] : List (List UInt8))) ([([97, 110, 110] : List UInt8), ([107] : List UInt8), ([110] : List UInt8)] : List (List UInt8)), Q7 j 79 #[(.int .i64 f.1), (.int .i64 f.2.1), (.int .i64 f.2.2.1), (.int .i64 f.2.2.2.1), (.slice (some ⟨g6, 0, none⟩) (List.length ([(([97, 110, 110] : List UInt8), 0, 0, ([] : List (Int × Int)), ([(([107] : List UInt8), ([115] : List UInt8), 5)] : List ((List UInt8) × (List UInt8) × Int)))] : List Qk)) (List.length ([(([97, 110, 110] : List UInt8), 0, 0, ([] : List (Int × Int)), ([(([107] : List UInt8), ([115] : List UInt8), 5)] : List ((List UInt8) × (List UInt8) × Int)))] : List Qk))), (.map (some m))], Xg m f.2.2.2.2] := Yg b5 [4, 5] [0, 1, 2, 3] rfl rfl e5 rfl
    clear e5
    refine iR 1 4 [(4, (.int .i64 a0))] ?_
    refine iF ?_
    refine aQ ?_
    refine aR ?_
    refine iR 2 2 [(29, (pt j 0)), (30, (.string ⟨List.toArray p⟩))] ?_
    obtain ⟨a1, h8, H⟩ := Qg H
    refine iS 3 ?_
    refine cF 26 #[(.tmp 29), (.const (.string ⟨List.toArray ([97, 110, 110] : List UInt8)⟩)), (.const (.string ⟨List.toArray ([107] : List UInt8)⟩)), (.const (.string ⟨List.toArray ([109] : List UInt8)⟩)), (.tmp 30), (.const (.int .i64 (4)))] #[29, 9, 9, 9, 9, 2] 31 Tryz.call26 (Ym j (some ⟨g6, 0, none⟩) (List.length ([(([97, 110, 110] : List UInt8), 0, 0, ([] : List (Int × Int)), ([(([107] : List UInt8), ([115] : List UInt8), 5)] : List ((List UInt8) × (List UInt8) × Int)))] : List Qk)) m f.1 f.2.1 f.2.2.1 f.2.2.2.1 ([(([97, 110, 110] : List UInt8), 0, 0, (none, 0, ([] : List (Int × Int))), ((some ⟨g5, 0, none⟩), (List.length ([(([107] : List UInt8), ([115] : List UInt8), 5)] : List ((List UInt8) × (List UInt8) × Int))), ([(([107] : List UInt8), ([115] : List UInt8), 5)] : List ((List UInt8) × (List UInt8) × Int))))] : List Vp) f.2.2.2.2 ([97, 110, 110] : List UInt8) ([107] : List UInt8) ([109] : List UInt8) p 4 e4 (Nc b6 [4, 5] rfl rfl) (fun w hm => C1 (Vm (SP.still b6 (l := [4, 5]) (i := 0) rfl rfl rfl hm)) (Gn (Y2 Us (Y2 Us (Y2 Us (Y2 (Di (Qe (Qc .u32) (Qc .i64)) dT w) (N2 (Vm (SP.still b6 (l := [4, 5]) (i := 1) rfl rfl rfl hm))))))) Dj)) a1 h8) ?_
    rintro e e6 ⟨rfl, e7⟩
    refine ⟨_, rfl, ?_⟩
    have b7 : SP [] w0 e6 [Ja 44 Nm (some ⟨g6, 0, none⟩) (List.length ([(([97, 110, 110] : List UInt8), 0, 0, ([] : List (Int × Int)), ([(([107] : List UInt8), ([115] : List UInt8), 5)] : List ((List UInt8) × (List UInt8) × Int)))] : List Qk)) ([(([97, 110, 110] : List UInt8), 0, 0, (none, 0, ([] : List (Int × Int))), ((some ⟨g5, 0, none⟩), (List.length ([(([107] : List UInt8), ([115] : List UInt8), 5)] : List ((List UInt8) × (List UInt8) × Int))), ([(([107] : List UInt8), ([115] : List UInt8), 5)] : List ((List UInt8) × (List UInt8) × Int))))] : List Vp), Ja 48 (Qe Qw (Qe Qw (Qc .i64))) (some ⟨g5, 0, none⟩) (List.length ([(([107] : List UInt8), ([115] : List UInt8), 5)] : List ((List UInt8) × (List UInt8) × Int))) ([(([107] : List UInt8), ([115] : List UInt8), 5)] : List ((List UInt8) × (List UInt8) × Int)), rdE eU8 (some ⟨s, 0, none⟩) (List.length ([(115 : UInt8)] : List UInt8)) ([(115 : UInt8)] : List UInt8), Ja 9 Qw (some ⟨u, 0, none⟩) (List.length ([([97, 110, 110] : List UInt8), ([107] : List UInt8), ([110] : List UInt8)] : List (List UInt8))) ([([97, 110, 110] : List UInt8), ([107] : List UInt8), ([110] : List UInt8)] : List (List UInt8)), Q7 j 79 #[(.int .i64 f.1), (.int .i64 f.2.1), (.int .i64 f.2.2.1), (.int .i64 f.2.2.2.1), (.slice (some ⟨g6, 0, none⟩) (List.length ([(([97, 110, 110] : List UInt8), 0, 0, ([] : List (Int × Int)), ([(([107] : List UInt8), ([115] : List UInt8), 5)] : List ((List UInt8) × (List UInt8) × Int)))] : List Qk)) (List.length ([(([97, 110, 110] : List UInt8), 0, 0, ([] : List (Int × Int)), ([(([107] : List UInt8), ([115] : List UInt8), 5)] : List ((List UInt8) × (List UInt8) × Int)))] : List Qk))), (.map (some m))], Xg m f.2.2.2.2] := Yg b6 [4, 5] [0, 1, 2, 3] rfl rfl e7 rfl
    clear e7
    refine iR 1 4 [(5, (.int .i64 a1))] ?_
    refine iF ?_
    refine aQ ?_
    refine aR ?_
    refine iR 1 1 [(32, (pt j 0))] ?_
    obtain ⟨a5, h9, H⟩ := Qg H
    refine iS 2 ?_
    refine cF 22 #[(.tmp 32), (.const (.string ⟨List.toArray ([97, 110, 110] : List UInt8)⟩)), (.const (.string ⟨List.toArray ([107] : List UInt8)⟩)), (.const (.int .i64 (4)))] #[29, 9, 9, 2] 33 Tryz.call22 (Ub j (some ⟨g6, 0, none⟩) (List.length ([(([97, 110, 110] : List UInt8), 0, 0, ([] : List (Int × Int)), ([(([107] : List UInt8), ([115] : List UInt8), 5)] : List ((List UInt8) × (List UInt8) × Int)))] : List Qk)) m f.1 f.2.1 f.2.2.1 f.2.2.2.1 ([(([97, 110, 110] : List UInt8), 0, 0, (none, 0, ([] : List (Int × Int))), ((some ⟨g5, 0, none⟩), (List.length ([(([107] : List UInt8), ([115] : List UInt8), 5)] : List ((List UInt8) × (List UInt8) × Int))), ([(([107] : List UInt8), ([115] : List UInt8), 5)] : List ((List UInt8) × (List UInt8) × Int))))] : List Vp) f.2.2.2.2 ([97, 110, 110] : List UInt8) ([107] : List UInt8) 4 e6 (Nc b7 [4, 5] rfl rfl) (fun w hm => C1 (Vm (SP.still b7 (l := [4, 5]) (i := 0) rfl rfl rfl hm)) (Gn (Y2 Us (Y2 Us (Y2 Us (Y2 (Di (Qe (Qc .u32) (Qc .i64)) dT w) (N2 (Vm (SP.still b7 (l := [4, 5]) (i := 1) rfl rfl rfl hm))))))) Dj)) a5 h9) ?_
    rintro e e8 ⟨rfl, e9⟩
    refine ⟨_, rfl, ?_⟩
    have b8 : SP [] w0 e8 [Ja 44 Nm (some ⟨g6, 0, none⟩) (List.length ([(([97, 110, 110] : List UInt8), 0, 0, ([] : List (Int × Int)), ([(([107] : List UInt8), ([115] : List UInt8), 5)] : List ((List UInt8) × (List UInt8) × Int)))] : List Qk)) ([(([97, 110, 110] : List UInt8), 0, 0, (none, 0, ([] : List (Int × Int))), ((some ⟨g5, 0, none⟩), (List.length ([(([107] : List UInt8), ([115] : List UInt8), 5)] : List ((List UInt8) × (List UInt8) × Int))), ([(([107] : List UInt8), ([115] : List UInt8), 5)] : List ((List UInt8) × (List UInt8) × Int))))] : List Vp), Ja 48 (Qe Qw (Qe Qw (Qc .i64))) (some ⟨g5, 0, none⟩) (List.length ([(([107] : List UInt8), ([115] : List UInt8), 5)] : List ((List UInt8) × (List UInt8) × Int))) ([(([107] : List UInt8), ([115] : List UInt8), 5)] : List ((List UInt8) × (List UInt8) × Int)), rdE eU8 (some ⟨s, 0, none⟩) (List.length ([(115 : UInt8)] : List UInt8)) ([(115 : UInt8)] : List UInt8), Ja 9 Qw (some ⟨u, 0, none⟩) (List.length ([([97, 110, 110] : List UInt8), ([107] : List UInt8), ([110] : List UInt8)] : List (List UInt8))) ([([97, 110, 110] : List UInt8), ([107] : List UInt8), ([110] : List UInt8)] : List (List UInt8)), Q7 j 79 #[(.int .i64 f.1), (.int .i64 f.2.1), (.int .i64 f.2.2.1), (.int .i64 f.2.2.2.1), (.slice (some ⟨g6, 0, none⟩) (List.length ([(([97, 110, 110] : List UInt8), 0, 0, ([] : List (Int × Int)), ([(([107] : List UInt8), ([115] : List UInt8), 5)] : List ((List UInt8) × (List UInt8) × Int)))] : List Qk)) (List.length ([(([97, 110, 110] : List UInt8), 0, 0, ([] : List (Int × Int)), ([(([107] : List UInt8), ([115] : List UInt8), 5)] : List ((List UInt8) × (List UInt8) × Int)))] : List Qk))), (.map (some m))], Xg m f.2.2.2.2] := Yg b7 [4, 5] [0, 1, 2, 3] rfl rfl e9 rfl
    clear e9
    refine iR 1 3 [(6, (.bool a5))] ?_
    refine iF ?_
    refine aQ ?_
    refine aR ?_
    refine iR 1 1 [(34, (pt j 0))] ?_
    obtain ⟨q, i0, H⟩ := Qg H
    refine iS 2 ?_
    refine cF 20 #[(.tmp 34), (.const (.string ⟨List.toArray ([97, 110, 110] : List UInt8)⟩)), (.const (.string ⟨List.toArray ([107] : List UInt8)⟩))] #[29, 9, 9] 35 Tryz.call20 (Jt j (some ⟨g6, 0, none⟩) (List.length ([(([97, 110, 110] : List UInt8), 0, 0, ([] : List (Int × Int)), ([(([107] : List UInt8), ([115] : List UInt8), 5)] : List ((List UInt8) × (List UInt8) × Int)))] : List Qk)) m f.1 f.2.1 f.2.2.1 f.2.2.2.1 ([(([97, 110, 110] : List UInt8), 0, 0, (none, 0, ([] : List (Int × Int))), ((some ⟨g5, 0, none⟩), (List.length ([(([107] : List UInt8), ([115] : List UInt8), 5)] : List ((List UInt8) × (List UInt8) × Int))), ([(([107] : List UInt8), ([115] : List UInt8), 5)] : List ((List UInt8) × (List UInt8) × Int))))] : List Vp) f.2.2.2.2 ([97, 110, 110] : List UInt8) ([107] : List UInt8) e8 (Nc b8 [4, 5] rfl rfl) (fun w hm => C1 (Vm (SP.still b8 (l := [4, 5]) (i := 0) rfl rfl rfl hm)) (Gn (Y2 Us (Y2 Us (Y2 Us (Y2 (Di (Qe (Qc .u32) (Qc .i64)) dT w) (N2 (Vm (SP.still b8 (l := [4, 5]) (i := 1) rfl rfl rfl hm))))))) Dj)) q i0) ?_
    rintro e f0 ⟨rfl, f1⟩
    refine ⟨_, rfl, ?_⟩
    have b9 : SP [] w0 f0 [Ja 44 Nm (some ⟨g6, 0, none⟩) (List.length ([(([97, 110, 110] : List UInt8), 0, 0, ([] : List (Int × Int)), ([(([107] : List UInt8), ([115] : List UInt8), 5)] : List ((List UInt8) × (List UInt8) × Int)))] : List Qk)) ([(([97, 110, 110] : List UInt8), 0, 0, (none, 0, ([] : List (Int × Int))), ((some ⟨g5, 0, none⟩), (List.length ([(([107] : List UInt8), ([115] : List UInt8), 5)] : List ((List UInt8) × (List UInt8) × Int))), ([(([107] : List UInt8), ([115] : List UInt8), 5)] : List ((List UInt8) × (List UInt8) × Int))))] : List Vp), Ja 48 (Qe Qw (Qe Qw (Qc .i64))) (some ⟨g5, 0, none⟩) (List.length ([(([107] : List UInt8), ([115] : List UInt8), 5)] : List ((List UInt8) × (List UInt8) × Int))) ([(([107] : List UInt8), ([115] : List UInt8), 5)] : List ((List UInt8) × (List UInt8) × Int)), rdE eU8 (some ⟨s, 0, none⟩) (List.length ([(115 : UInt8)] : List UInt8)) ([(115 : UInt8)] : List UInt8), Ja 9 Qw (some ⟨u, 0, none⟩) (List.length ([([97, 110, 110] : List UInt8), ([107] : List UInt8), ([110] : List UInt8)] : List (List UInt8))) ([([97, 110, 110] : List UInt8), ([107] : List UInt8), ([110] : List UInt8)] : List (List UInt8)), Q7 j 79 #[(.int .i64 q.2.1), (.int .i64 q.2.2.1), (.int .i64 q.2.2.2.1), (.int .i64 q.2.2.2.2.1), (.slice (some ⟨g6, 0, none⟩) (List.length ([(([97, 110, 110] : List UInt8), 0, 0, ([] : List (Int × Int)), ([(([107] : List UInt8), ([115] : List UInt8), 5)] : List ((List UInt8) × (List UInt8) × Int)))] : List Qk)) (List.length ([(([97, 110, 110] : List UInt8), 0, 0, ([] : List (Int × Int)), ([(([107] : List UInt8), ([115] : List UInt8), 5)] : List ((List UInt8) × (List UInt8) × Int)))] : List Qk))), (.map (some m))], Xg m q.2.2.2.2.2] := Yg b8 [4, 5] [0, 1, 2, 3] rfl rfl f1 rfl
    clear f1
    refine iR 1 3 [(7, (.bool q.1))] ?_
    refine iF ?_
    refine aQ ?_
    refine aR ?_
    refine iR 1 1 [(36, (pt j 0))] ?_
    obtain ⟨h, i1, H⟩ := Qg H
    refine iS 2 ?_
    refine cF 20 #[(.tmp 36), (.const (.string ⟨List.toArray ([97, 110, 110] : List UInt8)⟩)), (.const (.string ⟨List.toArray ([107] : List UInt8)⟩))] #[29, 9, 9] 37 Tryz.call20 (Jt j (some ⟨g6, 0, none⟩) (List.length ([(([97, 110, 110] : List UInt8), 0, 0, ([] : List (Int × Int)), ([(([107] : List UInt8), ([115] : List UInt8), 5)] : List ((List UInt8) × (List UInt8) × Int)))] : List Qk)) m q.2.1 q.2.2.1 q.2.2.2.1 q.2.2.2.2.1 ([(([97, 110, 110] : List UInt8), 0, 0, (none, 0, ([] : List (Int × Int))), ((some ⟨g5, 0, none⟩), (List.length ([(([107] : List UInt8), ([115] : List UInt8), 5)] : List ((List UInt8) × (List UInt8) × Int))), ([(([107] : List UInt8), ([115] : List UInt8), 5)] : List ((List UInt8) × (List UInt8) × Int))))] : List Vp) q.2.2.2.2.2 ([97, 110, 110] : List UInt8) ([107] : List UInt8) f0 (Nc b9 [4, 5] rfl rfl) (fun w hm => C1 (Vm (SP.still b9 (l := [4, 5]) (i := 0) rfl rfl rfl hm)) (Gn (Y2 Us (Y2 Us (Y2 Us (Y2 (Di (Qe (Qc .u32) (Qc .i64)) dT w) (N2 (Vm (SP.still b9 (l := [4, 5]) (i := 1) rfl rfl rfl hm))))))) Dj)) h i1) ?_
    rintro e f2 ⟨rfl, f3⟩
    refine ⟨_, rfl, ?_⟩
    have c0 : SP [] w0 f2 [Ja 44 Nm (some ⟨g6, 0, none⟩) (List.length ([(([97, 110, 110] : List UInt8), 0, 0, ([] : List (Int × Int)), ([(([107] : List UInt8), ([115] : List UInt8), 5)] : List ((List UInt8) × (List UInt8) × Int)))] : List Qk)) ([(([97, 110, 110] : List UInt8), 0, 0, (none, 0, ([] : List (Int × Int))), ((some ⟨g5, 0, none⟩), (List.length ([(([107] : List UInt8), ([115] : List UInt8), 5)] : List ((List UInt8) × (List UInt8) × Int))), ([(([107] : List UInt8), ([115] : List UInt8), 5)] : List ((List UInt8) × (List UInt8) × Int))))] : List Vp), Ja 48 (Qe Qw (Qe Qw (Qc .i64))) (some ⟨g5, 0, none⟩) (List.length ([(([107] : List UInt8), ([115] : List UInt8), 5)] : List ((List UInt8) × (List UInt8) × Int))) ([(([107] : List UInt8), ([115] : List UInt8), 5)] : List ((List UInt8) × (List UInt8) × Int)), rdE eU8 (some ⟨s, 0, none⟩) (List.length ([(115 : UInt8)] : List UInt8)) ([(115 : UInt8)] : List UInt8), Ja 9 Qw (some ⟨u, 0, none⟩) (List.length ([([97, 110, 110] : List UInt8), ([107] : List UInt8), ([110] : List UInt8)] : List (List UInt8))) ([([97, 110, 110] : List UInt8), ([107] : List UInt8), ([110] : List UInt8)] : List (List UInt8)), Q7 j 79 #[(.int .i64 h.2.1), (.int .i64 h.2.2.1), (.int .i64 h.2.2.2.1), (.int .i64 h.2.2.2.2.1), (.slice (some ⟨g6, 0, none⟩) (List.length ([(([97, 110, 110] : List UInt8), 0, 0, ([] : List (Int × Int)), ([(([107] : List UInt8), ([115] : List UInt8), 5)] : List ((List UInt8) × (List UInt8) × Int)))] : List Qk)) (List.length ([(([97, 110, 110] : List UInt8), 0, 0, ([] : List (Int × Int)), ([(([107] : List UInt8), ([115] : List UInt8), 5)] : List ((List UInt8) × (List UInt8) × Int)))] : List Qk))), (.map (some m))], Xg m h.2.2.2.2.2] := Yg b9 [4, 5] [0, 1, 2, 3] rfl rfl f3 rfl
    clear f3
    refine iR 1 3 [(8, (.bool h.1))] ?_
    refine iF ?_
    refine aQ ?_
    refine aR ?_
    refine iR 2 2 [(38, (pt j 0)), (39, (.string ⟨List.toArray p⟩))] ?_
    obtain ⟨a2, i2, H⟩ := Qg H
    refine iS 3 ?_
    refine cF 26 #[(.tmp 38), (.const (.string ⟨List.toArray ([97, 110, 110] : List UInt8)⟩)), (.const (.string ⟨List.toArray ([107] : List UInt8)⟩)), (.const (.string ⟨List.toArray ([110] : List UInt8)⟩)), (.tmp 39), (.const (.int .i64 (4)))] #[29, 9, 9, 9, 9, 2] 40 Tryz.call26 (Ym j (some ⟨g6, 0, none⟩) (List.length ([(([97, 110, 110] : List UInt8), 0, 0, ([] : List (Int × Int)), ([(([107] : List UInt8), ([115] : List UInt8), 5)] : List ((List UInt8) × (List UInt8) × Int)))] : List Qk)) m h.2.1 h.2.2.1 h.2.2.2.1 h.2.2.2.2.1 ([(([97, 110, 110] : List UInt8), 0, 0, (none, 0, ([] : List (Int × Int))), ((some ⟨g5, 0, none⟩), (List.length ([(([107] : List UInt8), ([115] : List UInt8), 5)] : List ((List UInt8) × (List UInt8) × Int))), ([(([107] : List UInt8), ([115] : List UInt8), 5)] : List ((List UInt8) × (List UInt8) × Int))))] : List Vp) h.2.2.2.2.2 ([97, 110, 110] : List UInt8) ([107] : List UInt8) ([110] : List UInt8) p 4 f2 (Nc c0 [4, 5] rfl rfl) (fun w hm => C1 (Vm (SP.still c0 (l := [4, 5]) (i := 0) rfl rfl rfl hm)) (Gn (Y2 Us (Y2 Us (Y2 Us (Y2 (Di (Qe (Qc .u32) (Qc .i64)) dT w) (N2 (Vm (SP.still c0 (l := [4, 5]) (i := 1) rfl rfl rfl hm))))))) Dj)) a2 i2) ?_
    rintro e f4 ⟨rfl, f5⟩
    refine ⟨_, rfl, ?_⟩
    have v : SP [] w0 f4 [Ja 44 Nm (some ⟨g6, 0, none⟩) (List.length ([(([97, 110, 110] : List UInt8), 0, 0, ([] : List (Int × Int)), ([(([107] : List UInt8), ([115] : List UInt8), 5)] : List ((List UInt8) × (List UInt8) × Int)))] : List Qk)) ([(([97, 110, 110] : List UInt8), 0, 0, (none, 0, ([] : List (Int × Int))), ((some ⟨g5, 0, none⟩), (List.length ([(([107] : List UInt8), ([115] : List UInt8), 5)] : List ((List UInt8) × (List UInt8) × Int))), ([(([107] : List UInt8), ([115] : List UInt8), 5)] : List ((List UInt8) × (List UInt8) × Int))))] : List Vp), Ja 48 (Qe Qw (Qe Qw (Qc .i64))) (some ⟨g5, 0, none⟩) (List.length ([(([107] : List UInt8), ([115] : List UInt8), 5)] : List ((List UInt8) × (List UInt8) × Int))) ([(([107] : List UInt8), ([115] : List UInt8), 5)] : List ((List UInt8) × (List UInt8) × Int)), rdE eU8 (some ⟨s, 0, none⟩) (List.length ([(115 : UInt8)] : List UInt8)) ([(115 : UInt8)] : List UInt8), Ja 9 Qw (some ⟨u, 0, none⟩) (List.length ([([97, 110, 110] : List UInt8), ([107] : List UInt8), ([110] : List UInt8)] : List (List UInt8))) ([([97, 110, 110] : List UInt8), ([107] : List UInt8), ([110] : List UInt8)] : List (List UInt8)), Q7 j 79 #[(.int .i64 h.2.1), (.int .i64 h.2.2.1), (.int .i64 h.2.2.2.1), (.int .i64 h.2.2.2.2.1), (.slice (some ⟨g6, 0, none⟩) (List.length ([(([97, 110, 110] : List UInt8), 0, 0, ([] : List (Int × Int)), ([(([107] : List UInt8), ([115] : List UInt8), 5)] : List ((List UInt8) × (List UInt8) × Int)))] : List Qk)) (List.length ([(([97, 110, 110] : List UInt8), 0, 0, ([] : List (Int × Int)), ([(([107] : List UInt8), ([115] : List UInt8), 5)] : List ((List UInt8) × (List UInt8) × Int)))] : List Qk))), (.map (some m))], Xg m h.2.2.2.2.2] := Yg c0 [4, 5] [0, 1, 2, 3] rfl rfl f5 rfl
    clear f5
    refine iR 1 4 [(9, (.int .i64 a2))] ?_
    refine iF ?_
    refine aQ ?_
    refine At.join (fun ρ w => ∃ (a6 : Bool), Zg ρ [(0, (.bool a6))] ∧ SP [] w0 w [] ∧ Vf a6 = some r) ?_ ?_
    ·refine aR ?_
     refine iR 3 3 [(41, (.int .i64 a4)), (42, (.bool (a4 == 0))), (43, (.bool (a4 == 0)))] ?_
     refine In.guard (t := 43) (b := (a4 == 0)) K (fun c3 => ?_) (fun c3 => ?_)
     ·have H := ct H c3
      refine iR 4 7 [(44, (.int .i64 a0)), (45, (.bool (a0 == 3))), (46, (.bool (a0 == 3))), (47, (.bool (a0 == 3)))] ?_
      refine In.guard (t := 47) (b := (a0 == 3)) K (fun c4 => ?_) (fun c4 => ?_)
      ·have H := ct H c4
       refine iR 4 11 [(48, (.int .i64 a1)), (49, (.bool (a1 == 101))), (50, (.bool (a1 == 101))), (51, (.bool (a1 == 101)))] ?_
       refine In.guard (t := 51) (b := (a1 == 101)) K (fun c5 => ?_) (fun c5 => ?_)
       ·have H := ct H c5
        refine iR 3 14 [(52, (.bool a5)), (53, (.bool a5)), (54, (.bool a5))] ?_
        refine In.guard (t := 54) (b := a5) K (fun c6 => ?_) (fun c6 => ?_)
        ·have H := ct H c6
         refine iR 3 17 [(55, (.bool q.1)), (56, (.bool q.1)), (57, (.bool q.1))] ?_
         refine In.guard (t := 57) (b := q.1) K (fun c7 => ?_) (fun c7 => ?_)
         ·have H := ct H c7
          refine iR 4 21 [(58, (.bool h.1)), (59, (.bool (!h.1))), (60, (.bool (!h.1))), (61, (.bool (!h.1)))] ?_
          refine In.guard (t := 61) (b := (!h.1)) K (fun c8 => ?_) (fun c8 => ?_)
          ·have H := ct H c8
           refine iR 4 25 [(62, (.int .i64 a2)), (63, (.bool (a2 == 3))), (64, (.bool (a2 == 3))), (65, (.bool (a2 == 3)))] ?_
           refine In.guard (t := 65) (b := (a2 == 3)) K (fun c9 => ?_) (fun c9 => ?_)
           ·have H := ct H c9
            refine iR 1 26 [(66, (pt j 0))] ?_
            obtain ⟨a7, i3, H⟩ := Qg H
            refine iS 27 ?_
            refine cF 24 #[(.tmp 66), (.const (.string ⟨List.toArray ([97, 110, 110] : List UInt8)⟩)), (.const (.string ⟨List.toArray ([107] : List UInt8)⟩)), (.const (.string ⟨List.toArray ([110] : List UInt8)⟩))] #[29, 9, 9, 9] 67 Tryz.call24 (X0 j (some ⟨g6, 0, none⟩) (List.length ([(([97, 110, 110] : List UInt8), 0, 0, ([] : List (Int × Int)), ([(([107] : List UInt8), ([115] : List UInt8), 5)] : List ((List UInt8) × (List UInt8) × Int)))] : List Qk)) m h.2.1 h.2.2.1 h.2.2.2.1 h.2.2.2.2.1 ([(([97, 110, 110] : List UInt8), 0, 0, (none, 0, ([] : List (Int × Int))), ((some ⟨g5, 0, none⟩), (List.length ([(([107] : List UInt8), ([115] : List UInt8), 5)] : List ((List UInt8) × (List UInt8) × Int))), ([(([107] : List UInt8), ([115] : List UInt8), 5)] : List ((List UInt8) × (List UInt8) × Int))))] : List Vp) h.2.2.2.2.2 ([97, 110, 110] : List UInt8) ([107] : List UInt8) ([110] : List UInt8) f4 (Nc v [4, 5] rfl rfl) (fun w hm => C1 (Vm (SP.still v (l := [4, 5]) (i := 0) rfl rfl rfl hm)) (Gn (Y2 Us (Y2 Us (Y2 Us (Y2 (Di (Qe (Qc .u32) (Qc .i64)) dT w) (N2 (Vm (SP.still v (l := [4, 5]) (i := 1) rfl rfl rfl hm))))))) Dj)) a7 i3) ?_
            rintro e f6 ⟨rfl, f7⟩
            refine ⟨_, rfl, ?_⟩
            have a9 : SP [] w0 f6 [Ja 44 Nm (some ⟨g6, 0, none⟩) (List.length ([(([97, 110, 110] : List UInt8), 0, 0, ([] : List (Int × Int)), ([(([107] : List UInt8), ([115] : List UInt8), 5)] : List ((List UInt8) × (List UInt8) × Int)))] : List Qk)) ([(([97, 110, 110] : List UInt8), 0, 0, (none, 0, ([] : List (Int × Int))), ((some ⟨g5, 0, none⟩), (List.length ([(([107] : List UInt8), ([115] : List UInt8), 5)] : List ((List UInt8) × (List UInt8) × Int))), ([(([107] : List UInt8), ([115] : List UInt8), 5)] : List ((List UInt8) × (List UInt8) × Int))))] : List Vp), Ja 48 (Qe Qw (Qe Qw (Qc .i64))) (some ⟨g5, 0, none⟩) (List.length ([(([107] : List UInt8), ([115] : List UInt8), 5)] : List ((List UInt8) × (List UInt8) × Int))) ([(([107] : List UInt8), ([115] : List UInt8), 5)] : List ((List UInt8) × (List UInt8) × Int)), rdE eU8 (some ⟨s, 0, none⟩) (List.length ([(115 : UInt8)] : List UInt8)) ([(115 : UInt8)] : List UInt8), Ja 9 Qw (some ⟨u, 0, none⟩) (List.length ([([97, 110, 110] : List UInt8), ([107] : List UInt8), ([110] : List UInt8)] : List (List UInt8))) ([([97, 110, 110] : List UInt8), ([107] : List UInt8), ([110] : List UInt8)] : List (List UInt8)), Q7 j 79 #[(.int .i64 h.2.1), (.int .i64 h.2.2.1), (.int .i64 h.2.2.2.1), (.int .i64 h.2.2.2.2.1), (.slice (some ⟨g6, 0, none⟩) (List.length ([(([97, 110, 110] : List UInt8), 0, 0, ([] : List (Int × Int)), ([(([107] : List UInt8), ([115] : List UInt8), 5)] : List ((List UInt8) × (List UInt8) × Int)))] : List Qk)) (List.length ([(([97, 110, 110] : List UInt8), 0, 0, ([] : List (Int × Int)), ([(([107] : List UInt8), ([115] : List UInt8), 5)] : List ((List UInt8) × (List UInt8) × Int)))] : List Qk))), (.map (some m))], Xg m h.2.2.2.2.2] := Yg v [4, 5] [0, 1, 2, 3] rfl rfl f7 rfl
            clear f7
            refine iR 1 28 [(68, (.string ⟨List.toArray p⟩))] ?_
            refine iS 29 ?_
            refine X6 (op := .eql) (T := 9) (T' := 9) (x := (.tmp 67)) (y := (.tmp 68)) (a := a7) (b := p) (r := (.bool (a7 == p))) (d := (some 69)) (k := 28) K rfl K K rfl ?_
            refine iR 2 31 [(70, (.bool (a7 == p))), (71, (.bool (a7 == p)))] ?_
            refine In.guard (t := 71) (b := (a7 == p)) K (fun d0 => ?_) (fun d0 => ?_)
            ·have H := ct H d0
             refine iR 1 32 [(72, (pt j 0))] ?_
             obtain ⟨a8, i4, H⟩ := Qg H
             refine iS 33 ?_
             refine cF 24 #[(.tmp 72), (.const (.string ⟨List.toArray ([97, 110, 110] : List UInt8)⟩)), (.const (.string ⟨List.toArray ([122] : List UInt8)⟩)), (.const (.string ⟨List.toArray ([110] : List UInt8)⟩))] #[29, 9, 9, 9] 73 Tryz.call24 (X0 j (some ⟨g6, 0, none⟩) (List.length ([(([97, 110, 110] : List UInt8), 0, 0, ([] : List (Int × Int)), ([(([107] : List UInt8), ([115] : List UInt8), 5)] : List ((List UInt8) × (List UInt8) × Int)))] : List Qk)) m h.2.1 h.2.2.1 h.2.2.2.1 h.2.2.2.2.1 ([(([97, 110, 110] : List UInt8), 0, 0, (none, 0, ([] : List (Int × Int))), ((some ⟨g5, 0, none⟩), (List.length ([(([107] : List UInt8), ([115] : List UInt8), 5)] : List ((List UInt8) × (List UInt8) × Int))), ([(([107] : List UInt8), ([115] : List UInt8), 5)] : List ((List UInt8) × (List UInt8) × Int))))] : List Vp) h.2.2.2.2.2 ([97, 110, 110] : List UInt8) ([122] : List UInt8) ([110] : List UInt8) f6 (Nc a9 [4, 5] rfl rfl) (fun w hm => C1 (Vm (SP.still a9 (l := [4, 5]) (i := 0) rfl rfl rfl hm)) (Gn (Y2 Us (Y2 Us (Y2 Us (Y2 (Di (Qe (Qc .u32) (Qc .i64)) dT w) (N2 (Vm (SP.still a9 (l := [4, 5]) (i := 1) rfl rfl rfl hm))))))) Dj)) a8 i4) ?_
             rintro e f8 ⟨rfl, f9⟩
             refine ⟨_, rfl, ?_⟩
             have b0 : SP [] w0 f8 [Ja 44 Nm (some ⟨g6, 0, none⟩) (List.length ([(([97, 110, 110] : List UInt8), 0, 0, ([] : List (Int × Int)), ([(([107] : List UInt8), ([115] : List UInt8), 5)] : List ((List UInt8) × (List UInt8) × Int)))] : List Qk)) ([(([97, 110, 110] : List UInt8), 0, 0, (none, 0, ([] : List (Int × Int))), ((some ⟨g5, 0, none⟩), (List.length ([(([107] : List UInt8), ([115] : List UInt8), 5)] : List ((List UInt8) × (List UInt8) × Int))), ([(([107] : List UInt8), ([115] : List UInt8), 5)] : List ((List UInt8) × (List UInt8) × Int))))] : List Vp), Ja 48 (Qe Qw (Qe Qw (Qc .i64))) (some ⟨g5, 0, none⟩) (List.length ([(([107] : List UInt8), ([115] : List UInt8), 5)] : List ((List UInt8) × (List UInt8) × Int))) ([(([107] : List UInt8), ([115] : List UInt8), 5)] : List ((List UInt8) × (List UInt8) × Int)), rdE eU8 (some ⟨s, 0, none⟩) (List.length ([(115 : UInt8)] : List UInt8)) ([(115 : UInt8)] : List UInt8), Ja 9 Qw (some ⟨u, 0, none⟩) (List.length ([([97, 110, 110] : List UInt8), ([107] : List UInt8), ([110] : List UInt8)] : List (List UInt8))) ([([97, 110, 110] : List UInt8), ([107] : List UInt8), ([110] : List UInt8)] : List (List UInt8)), Q7 j 79 #[(.int .i64 h.2.1), (.int .i64 h.2.2.1), (.int .i64 h.2.2.2.1), (.int .i64 h.2.2.2.2.1), (.slice (some ⟨g6, 0, none⟩) (List.length ([(([97, 110, 110] : List UInt8), 0, 0, ([] : List (Int × Int)), ([(([107] : List UInt8), ([115] : List UInt8), 5)] : List ((List UInt8) × (List UInt8) × Int)))] : List Qk)) (List.length ([(([97, 110, 110] : List UInt8), 0, 0, ([] : List (Int × Int)), ([(([107] : List UInt8), ([115] : List UInt8), 5)] : List ((List UInt8) × (List UInt8) × Int)))] : List Qk))), (.map (some m))], Xg m h.2.2.2.2.2] := Yg a9 [4, 5] [0, 1, 2, 3] rfl rfl f9 rfl
             clear f9
             refine iS 34 ?_
             refine X6 (op := .eql) (T := 9) (T' := 9) (x := (.tmp 73)) (y := (.const (.string ⟨List.toArray ([] : List UInt8)⟩))) (a := a8) (b := ([] : List UInt8)) (r := (.bool (a8 == ([] : List UInt8)))) (d := (some 74)) (k := 33) K rfl K K rfl ?_
             refine iR 2 36 [(75, (.bool (a8 == ([] : List UInt8)))), (76, (.bool (a8 == ([] : List UInt8))))] ?_
             refine In.guard (t := 76) (b := (a8 == ([] : List UInt8))) K (fun d1 => ?_) (fun d1 => ?_)
             ·have H := ct H d1
              refine iR 1 37 [(77, (pt j 0))] ?_
              obtain ⟨b1, i5, H⟩ := Qg H
              refine iS 38 ?_
              refine cF 22 #[(.tmp 77), (.const (.string ⟨List.toArray ([97, 110, 110] : List UInt8)⟩)), (.const (.string ⟨List.toArray ([107] : List UInt8)⟩)), (.const (.int .i64 (0)))] #[29, 9, 9, 2] 78 Tryz.call22 (Ub j (some ⟨g6, 0, none⟩) (List.length ([(([97, 110, 110] : List UInt8), 0, 0, ([] : List (Int × Int)), ([(([107] : List UInt8), ([115] : List UInt8), 5)] : List ((List UInt8) × (List UInt8) × Int)))] : List Qk)) m h.2.1 h.2.2.1 h.2.2.2.1 h.2.2.2.2.1 ([(([97, 110, 110] : List UInt8), 0, 0, (none, 0, ([] : List (Int × Int))), ((some ⟨g5, 0, none⟩), (List.length ([(([107] : List UInt8), ([115] : List UInt8), 5)] : List ((List UInt8) × (List UInt8) × Int))), ([(([107] : List UInt8), ([115] : List UInt8), 5)] : List ((List UInt8) × (List UInt8) × Int))))] : List Vp) h.2.2.2.2.2 ([97, 110, 110] : List UInt8) ([107] : List UInt8) 0 f8 (Nc b0 [4, 5] rfl rfl) (fun w hm => C1 (Vm (SP.still b0 (l := [4, 5]) (i := 0) rfl rfl rfl hm)) (Gn (Y2 Us (Y2 Us (Y2 Us (Y2 (Di (Qe (Qc .u32) (Qc .i64)) dT w) (N2 (Vm (SP.still b0 (l := [4, 5]) (i := 1) rfl rfl rfl hm))))))) Dj)) b1 i5) ?_
              rintro e i6 ⟨rfl, g0⟩
              refine ⟨_, rfl, ?_⟩
              have i7 : SP [] w0 i6 [Ja 44 Nm (some ⟨g6, 0, none⟩) (List.length ([(([97, 110, 110] : List UInt8), 0, 0, ([] : List (Int × Int)), ([(([107] : List UInt8), ([115] : List UInt8), 5)] : List ((List UInt8) × (List UInt8) × Int)))] : List Qk)) ([(([97, 110, 110] : List UInt8), 0, 0, (none, 0, ([] : List (Int × Int))), ((some ⟨g5, 0, none⟩), (List.length ([(([107] : List UInt8), ([115] : List UInt8), 5)] : List ((List UInt8) × (List UInt8) × Int))), ([(([107] : List UInt8), ([115] : List UInt8), 5)] : List ((List UInt8) × (List UInt8) × Int))))] : List Vp), Ja 48 (Qe Qw (Qe Qw (Qc .i64))) (some ⟨g5, 0, none⟩) (List.length ([(([107] : List UInt8), ([115] : List UInt8), 5)] : List ((List UInt8) × (List UInt8) × Int))) ([(([107] : List UInt8), ([115] : List UInt8), 5)] : List ((List UInt8) × (List UInt8) × Int)), rdE eU8 (some ⟨s, 0, none⟩) (List.length ([(115 : UInt8)] : List UInt8)) ([(115 : UInt8)] : List UInt8), Ja 9 Qw (some ⟨u, 0, none⟩) (List.length ([([97, 110, 110] : List UInt8), ([107] : List UInt8), ([110] : List UInt8)] : List (List UInt8))) ([([97, 110, 110] : List UInt8), ([107] : List UInt8), ([110] : List UInt8)] : List (List UInt8)), Q7 j 79 #[(.int .i64 h.2.1), (.int .i64 h.2.2.1), (.int .i64 h.2.2.2.1), (.int .i64 h.2.2.2.2.1), (.slice (some ⟨g6, 0, none⟩) (List.length ([(([97, 110, 110] : List UInt8), 0, 0, ([] : List (Int × Int)), ([(([107] : List UInt8), ([115] : List UInt8), 5)] : List ((List UInt8) × (List UInt8) × Int)))] : List Qk)) (List.length ([(([97, 110, 110] : List UInt8), 0, 0, ([] : List (Int × Int)), ([(([107] : List UInt8), ([115] : List UInt8), 5)] : List ((List UInt8) × (List UInt8) × Int)))] : List Qk))), (.map (some m))], Xg m h.2.2.2.2.2] := Yg b0 [4, 5] [0, 1, 2, 3] rfl rfl g0 rfl
              clear g0
              refine iR 3 41 [(79, (.bool (!b1))), (80, (.bool (!b1))), (0, (.bool (!b1)))] ?_
              refine iF ?_
              exact ⟨(!b1), ⟨K, trivial⟩, SP.sel i7 [] rfl rfl, H⟩
             ·have H := cf H d1
              refine iR 5 41 [(77, undef), (78, undef), (79, undef), (80, (.bool false)), (0, (.bool false))] ?_
              refine iF ?_
              exact ⟨false, ⟨K, trivial⟩, SP.sel b0 [] rfl rfl, H⟩
            ·have H := cf H d0
             refine iR 10 41 [(72, undef), (73, undef), (74, undef), (75, (.bool false)), (76, (.bool false)), (77, undef), (78, undef), (79, undef), (80, (.bool false)), (0, (.bool false))] ?_
             refine iF ?_
             exact ⟨false, ⟨K, trivial⟩, SP.sel a9 [] rfl rfl, H⟩
           ·have H := cf H c9
            refine iR 16 41 [(66, undef), (67, undef), (68, undef), (69, undef), (70, (.bool false)), (71, (.bool false)), (72, undef), (73, undef), (74, undef), (75, (.bool false)), (76, (.bool false)), (77, undef), (78, undef), (79, undef), (80, (.bool false)), (0, (.bool false))] ?_
            refine iF ?_
            exact ⟨false, ⟨K, trivial⟩, SP.sel v [] rfl rfl, H⟩
          ·have H := cf H c8
           refine iR 20 41 [(62, undef), (63, undef), (64, (.bool false)), (65, (.bool false)), (66, undef), (67, undef), (68, undef), (69, undef), (70, (.bool false)), (71, (.bool false)), (72, undef), (73, undef), (74, undef), (75, (.bool false)), (76, (.bool false)), (77, undef), (78, undef), (79, undef), (80, (.bool false)), (0, (.bool false))] ?_
           refine iF ?_
           exact ⟨false, ⟨K, trivial⟩, SP.sel v [] rfl rfl, H⟩
         ·have H := cf H c7
          refine iR 24 41 [(58, undef), (59, undef), (60, (.bool false)), (61, (.bool false)), (62, undef), (63, undef), (64, (.bool false)), (65, (.bool false)), (66, undef), (67, undef), (68, undef), (69, undef), (70, (.bool false)), (71, (.bool false)), (72, undef), (73, undef), (74, undef), (75, (.bool false)), (76, (.bool false)), (77, undef), (78, undef), (79, undef), (80, (.bool false)), (0, (.bool false))] ?_
          refine iF ?_
          exact ⟨false, ⟨K, trivial⟩, SP.sel v [] rfl rfl, H⟩
        ·have H := cf H c6
         refine iR 27 41 [(55, undef), (56, (.bool false)), (57, (.bool false)), (58, undef), (59, undef), (60, (.bool false)), (61, (.bool false)), (62, undef), (63, undef), (64, (.bool false)), (65, (.bool false)), (66, undef), (67, undef), (68, undef), (69, undef), (70, (.bool false)), (71, (.bool false)), (72, undef), (73, undef), (74, undef), (75, (.bool false)), (76, (.bool false)), (77, undef), (78, undef), (79, undef), (80, (.bool false)), (0, (.bool false))] ?_
         refine iF ?_
         exact ⟨false, ⟨K, trivial⟩, SP.sel v [] rfl rfl, H⟩
       ·have H := cf H c5
        refine iR 30 41 [(52, undef), (53, (.bool false)), (54, (.bool false)), (55, undef), (56, (.bool false)), (57, (.bool false)), (58, undef), (59, undef), (60, (.bool false)), (61, (.bool false)), (62, undef), (63, undef), (64, (.bool false)), (65, (.bool false)), (66, undef), (67, undef), (68, undef), (69, undef), (70, (.bool false)), (71, (.bool false)), (72, undef), (73, undef), (74, undef), (75, (.bool false)), (76, (.bool false)), (77, undef), (78, undef), (79, undef), (80, (.bool false)), (0, (.bool false))] ?_
        refine iF ?_
        exact ⟨false, ⟨K, trivial⟩, SP.sel v [] rfl rfl, H⟩
      ·have H := cf H c4
       refine iR 34 41 [(48, undef), (49, undef), (50, (.bool false)), (51, (.bool false)), (52, undef), (53, (.bool false)), (54, (.bool false)), (55, undef), (56, (.bool false)), (57, (.bool false)), (58, undef), (59, undef), (60, (.bool false)), (61, (.bool false)), (62, undef), (63, undef), (64, (.bool false)), (65, (.bool false)), (66, undef), (67, undef), (68, undef), (69, undef), (70, (.bool false)), (71, (.bool false)), (72, undef), (73, undef), (74, undef), (75, (.bool false)), (76, (.bool false)), (77, undef), (78, undef), (79, undef), (80, (.bool false)), (0, (.bool false))] ?_
       refine iF ?_
       exact ⟨false, ⟨K, trivial⟩, SP.sel v [] rfl rfl, H⟩
     ·have H := cf H c3
      refine iR 38 41 [(44, undef), (45, undef), (46, (.bool false)), (47, (.bool false)), (48, undef), (49, undef), (50, (.bool false)), (51, (.bool false)), (52, undef), (53, (.bool false)), (54, (.bool false)), (55, undef), (56, (.bool false)), (57, (.bool false)), (58, undef), (59, undef), (60, (.bool false)), (61, (.bool false)), (62, undef), (63, undef), (64, (.bool false)), (65, (.bool false)), (66, undef), (67, undef), (68, undef), (69, undef), (70, (.bool false)), (71, (.bool false)), (72, undef), (73, undef), (74, undef), (75, (.bool false)), (76, (.bool false)), (77, undef), (78, undef), (79, undef), (80, (.bool false)), (0, (.bool false))] ?_
      refine iF ?_
      exact ⟨false, ⟨K, trivial⟩, SP.sel v [] rfl rfl, H⟩
    ·rintro ρ j7 ⟨a6, hk, i8, H⟩
     unfold Vf at H
     first | refine At.known [(0, (.bool a6))] hk ?_ | rw [← Q9 (l := [(0, (.bool a6))]) hk]
     refine At.ret K ?_
     refine ⟨(.bool a6), K, ?_⟩
     obtain rfl := Qm H
     exact ⟨rfl, SP.sel i8 [] rfl rfl⟩
end Go.Proofs.YtmgfanhcdfobhaaGreatDoor
namespace Go.Proofs.YtmgfanhcdfobhaaGreatDoor
abbrev headV : List Qk := [(([97, 110, 110] : List UInt8), 0, 0, ([] : List (Int × Int)), ([(([107] : List UInt8), ([115] : List UInt8), 5)] : List ((List UInt8) × (List UInt8) × Int)))]
theorem headV_q : ∀ t ∈ headV, TenQ t := by
  intro t ht
  have : t = (([97, 110, 110] : List UInt8), 0, 0, ([] : List (Int × Int)), ([(([107] : List UInt8), ([115] : List UInt8), 5)] : List ((List UInt8) × (List UInt8) × Int))) := by simpa [headV] using ht
  subst this
  refine ⟨by decide, by decide, by decide, (fun n hn => by cases hn), fun x hx => ?_⟩
  have : x = (([107] : List UInt8), ([115] : List UInt8), 5) := by simpa using hx
  subst this
  decide
theorem headVNew : Ua 9 9 9 9 headV = some (some (9, 9, 9, 9, [])) := by
  rw [pVNew 9 9 9 9 headV (by decide) headV_q, show Fz 9 9 9 9 headV = true by kernel_rfl]
  rfl
theorem headVNone : Ua 0 0 0 0 [] = some none := by
  rw [pVNew 0 0 0 0 [] (by decide) (fun t ht => by cases ht), show Fz 0 0 0 0 [] = false by kernel_rfl]
  rfl
theorem headVRest : Yi (9, 9, 9, 9, []) false = some true := by kernel_rfl
theorem optE_s {α β : Type} (x : α) (a : Option β) (f : α → Option β) : optE (some x) a f = f x := rfl
theorem optE_n {α β : Type} (a : Option β) (f : α → Option β) : optE none a f = a := rfl
theorem vaultHead : Jp = some true := by
  unfold Jp
  rw [show U3 = some () from rfl, Option.bind_some, headVNew, Option.bind_some, optE_s, headVNone, Option.bind_some, optE_n]
  exact headVRest
abbrev OpV := Int × Str × Str × Str × Str × Int
def OpVQ (o : OpV) : Prop := o.2.1.length ≤ 140737488355328 ∧ o.2.2.1.length ≤ 140737488355328 ∧ o.2.2.2.1.length ≤ 140737488355328 ∧ o.2.2.2.2.1.length ≤ 140737488355328
theorem opsV_loop (l : List OpV) (hl : l.length ≤ 140737488355328) (hq : ∀ o ∈ l, OpVQ o) : ∀ (d i f : Nat), d = min l.length 200 - i → i ≤ l.length → i ≤ 200 → d < f → ∃ b, Zf l f (i : Int) = some b ∧ (b = false → l.length ≤ 100) := by
  intro d
  induction d with
  | zero =>
    intro i f hd hi h3 hf
    obtain ⟨f, rfl⟩ : ∃ g, f = g + 1 := ⟨f - 1, by omega⟩
    show ∃ b, Zz (Zf l f) l (i : Int) = some b ∧ _
    unfold Zz Xm
    by_cases hlt : i < l.length
    · rw [show decide ((i : Int) < ((l.length : Nat) : Int)) = true from decide_eq_true (by omega), cond_true, show decide ((i : Int) < 200) = false from decide_eq_false (by omega), cond_false]
      exact ⟨_, rfl, fun h => by have := of_decide_eq_false h; omega⟩
    · rw [show decide ((i : Int) < ((l.length : Nat) : Int)) = false from decide_eq_false (by omega), cond_false, cond_false]
      exact ⟨_, rfl, fun h => by have := of_decide_eq_false h; omega⟩
  | succ d ih =>
    intro i f hd hi h3 hf
    obtain ⟨f, rfl⟩ : ∃ g, f = g + 1 := ⟨f - 1, by omega⟩
    have hlt : i < l.length := by omega
    show ∃ b, Zz (Zf l f) l (i : Int) = some b ∧ _
    unfold Zz Xm
    rw [show decide ((i : Int) < ((l.length : Nat) : Int)) = true from decide_eq_true (by omega), cond_true, show decide ((i : Int) < 200) = true from decide_eq_true (by omega), cond_true, Ul hlt, Option.bind_some, Option.bind_some, Option.bind_some, Option.bind_some]
    generalize decide (_ > (2000 : Int)) = g
    cases g with
    | true =>
      rw [cond_true]
      exact ⟨true, rfl, fun h => by cases h⟩
    | false =>
      rw [cond_false, show ((i : Int) + 1) = ((i + 1 : Nat) : Int) by omega, Xh (by omega)]
      exact ih (i + 1) f (by omega) (by omega) (by omega) (by omega)
theorem Ll (l : List OpV) (hl : l.length ≤ 140737488355328) (hq : ∀ o ∈ l, OpVQ o) : ∃ b, Uc l = some b ∧ (b = false → l.length ≤ 100) :=
  opsV_loop l hl hq _ 0 Zd rfl (by omega) (by omega) (by unfold Zd; omega)
theorem rev_get (l : List Qk) (M : U2) (t k : Str) (x : Str × Str) : Nx (vRevM l M t k) x = if (Ha l t k).2.2.2 = true ∧ (t, k) = x then Nx M (t, k) + 1 else Nx M x := by
  unfold vRevM
  cases h : (Ha l t k).2.2.2 with
  | false => rw [cond_false, if_neg (by simp)]
  | true =>
    rw [cond_true, Ex]
    simp
def MB (n : Nat) (M : U2) : Prop := ∀ x, 0 ≤ Nx M x ∧ Nx M x ≤ n
theorem mb_nil : MB 0 [] := fun x => by rw [mget_nil]; omega
theorem mb_rev {n : Nat} {M : U2} (h : MB n M) (l : List Qk) (t k : Str) : MB (n + 1) (vRevM l M t k) := by
  intro x
  rw [rev_get]
  have := h x
  have := h (t, k)
  split <;> omega
theorem mb_le {n m : Nat} {M : U2} (h : MB n M) (hm : n ≤ m) : MB m M := fun x => by have := h x; omega
end Go.Proofs.YtmgfanhcdfobhaaGreatDoor
namespace Go.Proofs.YtmgfanhcdfobhaaGreatDoor
open Go.RowKit
def Zc (f : Int → Int → Int → Int → U2 → Int → Option (Bool)) (g : (List Qk)) (h : (List UInt8)) (i : (List UInt8)) (j : (List UInt8)) (k : ((List UInt8))) (l : Int) (a : Int) (b : Int) (c : Int) (d : Int) (e : U2) : Option (Bool) :=
  ((Z1 a b c d g e h i j).bind fun m => (cond (!(m == k)) (some (false)) (f a b c d e (IntKind.wrap .i64 (l + 1)))))
def Z2 (b : Int → Int → Int → Int → U2 → Int → Option (Bool)) (a : Bool) : Option (Bool) :=
  (some (a))
def Z3 (b : Int → Int → Int → Int → U2 → Int → Option (Bool)) (a : Bool) : Option (Bool) :=
  (some (a))
def V5 (a : Int → Int → Int → Int → U2 → Int → Option (Bool)) (r : Int) (s : Int) (t : Int) (u : Int) (e : (List Qk)) (f : (List (Int × (List UInt8) × (List UInt8) × (List UInt8) × (List UInt8) × Int))) (g : (List UInt8)) (h : (List UInt8)) (j : (List UInt8)) (l : (Bool)) (i : ((List UInt8))) (m : Int) (n : Int) (o : Int) (p : Int) (q : U2) (b : Int) : Option (Bool) :=
  (cond (decide (b < ((List.length f : Nat) : Int))) ((idx f b).bind fun v => (cond (v.1 == 0) ((idx f b).bind fun w => ((idx f b).bind fun x => ((Xk m n o p e q w.2.1 x.2.2.1).bind fun c => (Zc a e g h j i b c.2.1 c.2.2.1 c.2.2.2.1 c.2.2.2.2.1 c.2.2.2.2.2)))) (Zc a e g h j i b m n o p q))) ((Up r s t u e g).bind fun d => ((J3 d.1 d.2.1 d.2.2.1 d.2.2.2.1 d.2.2.2.2.1 h).bind fun k => (cond (!k.2.2.2) (cond l (Z2 a (i == ([] : List UInt8))) (Z2 a false)) (cond l ((chk (Nat.ble (List.length k.2.1) 281474976710656)).bind fun _ => ((Y9 k.2.1 ([g, h, j] : List (List UInt8))).bind fun y => (Z3 a (i == y)))) (Z3 a false))))))
def Q4 (a : Int) (b : Int) (c : Int) (d : Int) (e : (List Qk)) (g : (List (Int × (List UInt8) × (List UInt8) × (List UInt8) × (List UInt8) × Int))) (h : (List UInt8)) (i : (List UInt8)) (j : (List UInt8)) (k : (Bool)) (l : ((List UInt8))) : Nat → Int → Int → Int → Int → U2 → Int → Option (Bool)
  | 0, _, _, _, _, _, _ => none
  | f + 1, m, n, o, p, q, r => V5  (Q4 a b c d e g h i j k l f) a b c d e g h i j k l m n o p q r
def Vo (g : Int) (h : Int) (i : Int) (j : Int) (b : (List Qk)) (k : (List (Int × (List UInt8) × (List UInt8) × (List UInt8) × (List UInt8) × Int))) (c : (List UInt8)) (d : (List UInt8)) (e : (List UInt8)) (f : (Bool)) (a : (Int × Int × Int × Int × U2)) (l : Bool) : Option (Bool) :=
  (cond l (some (f)) ((Z1 a.1 a.2.1 a.2.2.1 a.2.2.2.1 b a.2.2.2.2 c d e).bind fun m => (Q4 g h i j b k c d e f m Zd a.1 a.2.1 a.2.2.1 a.2.2.2.1 a.2.2.2.2 0)))
def Yn (a : Int) (b : Int) (c : Int) (d : Int) (e : (List Qk)) (f : (List (Int × (List UInt8) × (List UInt8) × (List UInt8) × (List UInt8) × Int))) (g : (List UInt8)) (h : (List UInt8)) (i : (List UInt8)) : Option (Bool) :=
  ((Jp ).bind fun j => ((Ua a b c d e).bind fun l => (optE l (some (j)) (fun k => ((J4 a b c d e).bind fun m => (cond m (Vo a b c d e f g h i j k true) ((Uc f).bind fun n => (cond n (Vo a b c d e f g h i j k true) (Vo a b c d e f g h i j k (decide ((IntKind.wrap .i64 ((IntKind.wrap .i64 (((List.length g : Nat) : Int) + ((List.length h : Nat) : Int))) + ((List.length i : Nat) : Int))) > 2000)))))))))))
set_option maxRecDepth 100000 in
set_option maxHeartbeats 4000000 in
theorem Gp (A6 : Option Addr) (c7 : Nat) (a1 : Option Addr) (a8 : Nat) (a3 : Int) (a4 : Int) (a5 : Int) (a6 : Int) (d9 : (List Vp)) (q : (List (Int × (List UInt8) × (List UInt8) × (List UInt8) × (List UInt8) × Int))) (m : (List UInt8)) (p : (List UInt8)) (s : (List UInt8)) (w0 : World) (hL : B0 w0) (b8 : (dDS Nm E2).ok w0 (A6, c7, d9)) (b9 : RdT (Qe (Qc .i64) (Qe Qw (Qe Qw (Qe Qw (Qe Qw (Qc .i64)))))) w0 a1 a8 q) (r : (Bool)) (H : Yn a3 a4 a5 a6 (List.map stT d9) q m p s = some r) :
  Calls Tryz.prog 7 #[(.agg #[(.int .i64 a3), (.int .i64 a4), (.int .i64 a5), (.int .i64 a6), (.slice A6 (List.length (List.map stT d9)) c7)]), (.slice a1 (List.length q) a8), (.string ⟨List.toArray m⟩), (.string ⟨List.toArray p⟩), (.string ⟨List.toArray s⟩)] w0 (fun e w' => e = .returned (.bool r) ∧ SP [] w0 w' []) := by
 unfold Yn at H
 refine Qv (n := 112) Tryz.func7 K K K ?_
 have j7 := Q1 [] w0
 refine aQ ?_
 refine aR ?_
 refine iS 1 ?_
 refine Za (t := 24) (x := (.tmp 0)) (v := (.agg #[(.int .i64 a3), (.int .i64 a4), (.int .i64 a5), (.int .i64 a6), (.slice A6 (List.length (List.map stT d9)) c7)])) (d := (some 5)) (k := 0) K rfl K j7 ?_
 intro b0 j8 g3
 refine iR 1 2 [(10, (.bool false))] ?_
 refine iF ?_
 refine aQ ?_
 refine aR ?_
 obtain ⟨a0, j9, H⟩ := Qg H
 refine iS 1 ?_
 refine cF 15 #[] #[] 19 Tryz.call15 (Df   j8 (Xl hL (SP.keeps g3)) a0 j9) ?_
 rintro e g4 ⟨rfl, g5⟩
 refine ⟨_, rfl, ?_⟩
 have c0 := SP.call g3 g5
 clear g5
 refine iR 1 2 [(11, (.bool a0))] ?_
 refine iF ?_
 refine aQ ?_
 refine aR ?_
 refine iS 1 ?_
 refine sL 24 5 b0 0 0 (.agg #[(.int .i64 a3), (.int .i64 a4), (.int .i64 a5), (.int .i64 a6), (.slice A6 (List.length (List.map stT d9)) c7)]) 20 c0 rfl ?_
 obtain ⟨k1, g6, H⟩ := Qg H
 rcases k1 with _ | a9
 ·have H := optN H
  refine iS 2 ?_
  refine cF 18 #[(.tmp 20)] #[24] 21 Tryz.call18 (Jg A6 c7 a3 a4 a5 a6 d9 g4 (Xl hL (SP.keeps c0)) (Dp.sp b8 c0) none g6) ?_
  rintro e q3 ⟨rfl, g7⟩
  refine ⟨_, rfl, ?_⟩
  have k2 := SP.call c0 g7
  clear g7
  refine iR 1 3 [(12, (.pointer none))] ?_
  refine iF ?_
  refine aQ ?_
  refine aQ ?_
  refine aR ?_
  refine iR 21 21 [(22, (.pointer none)), (23, (.bool true)), (24, (.bool true)), (25, undef), (26, undef), (27, (.bool true)), (28, (.bool true)), (29, undef), (30, undef), (31, (.bool true)), (32, (.bool true)), (33, undef), (34, undef), (35, undef), (36, undef), (37, undef), (38, undef), (39, undef), (40, undef), (41, undef), (42, (.bool true))] ?_
  refine iF ?_
  refine Zs K (o := (.tmp 42)) K (b := true) K (fun g8 => ?_) (fun g8 => ?_)
  rotate_left
  ·cases g8
  refine aQ ?_
  refine aR ?_
  refine iR 2 2 [(43, (.bool a0)), (10, (.bool a0))] ?_
  refine iF ?_
  refine At.ret K ?_
  refine ⟨(.bool a0), K, ?_⟩
  obtain rfl := Qm H
  exact ⟨rfl, SP.sel k2 [] rfl rfl⟩
 ·have H := optS H
  refine iS 2 ?_
  refine cF 18 #[(.tmp 20)] #[24] 21 Tryz.call18 (Jg A6 c7 a3 a4 a5 a6 d9 g4 (Xl hL (SP.keeps c0)) (Dp.sp b8 c0) (some a9) g6) ?_
  rintro e k3 ⟨a2, b1, rfl, g9⟩
  refine ⟨_, rfl, ?_⟩
  have e5 := SP.call c0 g9
  clear g9
  refine iR 1 3 [(12, (pt a2 0))] ?_
  refine iF ?_
  refine aQ ?_
  refine aQ ?_
  refine At.join (fun ρ w => ∃ (c6 : Bool), Zg ρ [(1, (.slice a1 (List.length q) a8)), (2, (.string ⟨List.toArray m⟩)), (3, (.string ⟨List.toArray p⟩)), (4, (.string ⟨List.toArray s⟩)), (5, (pt b0 0)), (11, (.bool a0)), (12, (pt a2 0)), (42, (.bool c6))] ∧ SP [] w0 w [Q7 b0 24 #[(.int .i64 a3), (.int .i64 a4), (.int .i64 a5), (.int .i64 a6), (.slice A6 (List.length (List.map stT d9)) c7)], Q7 a2 79 #[(.int .i64 a9.1), (.int .i64 a9.2.1), (.int .i64 a9.2.2.1), (.int .i64 a9.2.2.2.1), (.slice A6 (List.length (List.map stT d9)) c7), (.map (some b1))], Xg b1 a9.2.2.2.2] ∧ Vo a3 a4 a5 a6 (List.map stT d9) q m p s a0 a9 c6 = some r) ?_ ?_
  ·refine aR ?_
   refine iR 3 3 [(22, (pt a2 0)), (23, (.bool false)), (24, (.bool false))] ?_
   refine iS 4 ?_
   refine sL 24 5 b0 0 0 (.agg #[(.int .i64 a3), (.int .i64 a4), (.int .i64 a5), (.int .i64 a6), (.slice A6 (List.length (List.map stT d9)) c7)]) 25 e5 rfl ?_
   obtain ⟨d8, k4, H⟩ := Qg H
   refine iS 5 ?_
   refine cF 16 #[(.tmp 25)] #[24] 26 Tryz.call16 (Rm A6 c7 a3 a4 a5 a6 d9 k3 (Dp.sp b8 e5) d8 k4) ?_
   rintro e k5 ⟨rfl, h1⟩
   refine ⟨_, rfl, ?_⟩
   have e6 := SP.call e5 h1
   clear h1
   refine iR 2 7 [(27, (.bool d8)), (28, (.bool d8))] ?_
   refine In.guard (t := 28) (b := d8) K (fun e7 => ?_) (fun e7 => ?_)
   ·have H := ct H e7
    refine iR 14 21 [(29, undef), (30, undef), (31, (.bool true)), (32, (.bool true)), (33, undef), (34, undef), (35, undef), (36, undef), (37, undef), (38, undef), (39, undef), (40, undef), (41, undef), (42, (.bool true))] ?_
    refine iF ?_
    exact ⟨true, ⟨K, K, K, K, K, K, K, K, trivial⟩, SP.sel e6 [0, 1, 2] rfl rfl, H⟩
   ·have H := cf H e7
    refine iR 1 8 [(29, (.slice a1 (List.length q) a8))] ?_
    obtain ⟨e0, k6, H⟩ := Qg H
    refine iS 9 ?_
    refine cF 17 #[(.tmp 29)] #[25] 30 Tryz.call17 (Rr a1 a8 q k5 (RdT.sp b9 e6) e0 k6) ?_
    rintro e q4 ⟨rfl, h2⟩
    refine ⟨_, rfl, ?_⟩
    have h3 := SP.call e6 h2
    clear h2
    refine iR 2 11 [(31, (.bool e0)), (32, (.bool e0))] ?_
    refine In.guard (t := 32) (b := e0) K (fun e8 => ?_) (fun e8 => ?_)
    ·have H := ct H e8
     refine iR 10 21 [(33, undef), (34, undef), (35, undef), (36, undef), (37, undef), (38, undef), (39, undef), (40, undef), (41, undef), (42, (.bool true))] ?_
     refine iF ?_
     exact ⟨true, ⟨K, K, K, K, K, K, K, K, trivial⟩, SP.sel h3 [0, 1, 2] rfl rfl, H⟩
    ·have H := cf H e8
     refine iR 10 21 [(33, (.string ⟨List.toArray m⟩)), (34, (.int .i64 ((List.length m : Nat) : Int))), (35, (.string ⟨List.toArray p⟩)), (36, (.int .i64 ((List.length p : Nat) : Int))), (37, (.int .i64 (IntKind.wrap .i64 (((List.length m : Nat) : Int) + ((List.length p : Nat) : Int))))), (38, (.string ⟨List.toArray s⟩)), (39, (.int .i64 ((List.length s : Nat) : Int))), (40, (.int .i64 (IntKind.wrap .i64 ((IntKind.wrap .i64 (((List.length m : Nat) : Int) + ((List.length p : Nat) : Int))) + ((List.length s : Nat) : Int))))), (41, (.bool (decide ((IntKind.wrap .i64 ((IntKind.wrap .i64 (((List.length m : Nat) : Int) + ((List.length p : Nat) : Int))) + ((List.length s : Nat) : Int))) > 2000)))), (42, (.bool (decide ((IntKind.wrap .i64 ((IntKind.wrap .i64 (((List.length m : Nat) : Int) + ((List.length p : Nat) : Int))) + ((List.length s : Nat) : Int))) > 2000))))] ?_
     refine iF ?_
     exact ⟨(decide ((IntKind.wrap .i64 ((IntKind.wrap .i64 (((List.length m : Nat) : Int) + ((List.length p : Nat) : Int))) + ((List.length s : Nat) : Int))) > 2000)), ⟨K, K, K, K, K, K, K, K, trivial⟩, SP.sel h3 [0, 1, 2] rfl rfl, H⟩
  ·rintro ρ k7 ⟨c6, hk, e1, H⟩
   unfold Vo at H
   first | refine At.known [(1, (.slice a1 (List.length q) a8)), (2, (.string ⟨List.toArray m⟩)), (3, (.string ⟨List.toArray p⟩)), (4, (.string ⟨List.toArray s⟩)), (5, (pt b0 0)), (11, (.bool a0)), (12, (pt a2 0)), (42, (.bool c6))] hk ?_ | rw [← Q9 (l := [(1, (.slice a1 (List.length q) a8)), (2, (.string ⟨List.toArray m⟩)), (3, (.string ⟨List.toArray p⟩)), (4, (.string ⟨List.toArray s⟩)), (5, (pt b0 0)), (11, (.bool a0)), (12, (pt a2 0)), (42, (.bool c6))]) hk]
   refine Zs K (o := (.tmp 42)) K (b := c6) K (fun e9 => ?_) (fun e9 => ?_)
   ·have H := ct H e9
    refine aQ ?_
    refine aR ?_
    refine iR 2 2 [(43, (.bool a0)), (10, (.bool a0))] ?_
    refine iF ?_
    refine At.ret K ?_
    refine ⟨(.bool a0), K, ?_⟩
    obtain rfl := Qm H
    exact ⟨rfl, SP.sel e1 [] rfl rfl⟩
   ·have H := cf H e9
    refine At.skip K ?_
    refine aQ ?_
    refine aR ?_
    refine iR 4 4 [(44, (pt a2 0)), (45, (.string ⟨List.toArray m⟩)), (46, (.string ⟨List.toArray p⟩)), (47, (.string ⟨List.toArray s⟩))] ?_
    obtain ⟨u, k8, H⟩ := Qg H
    refine iS 5 ?_
    refine cF 24 #[(.tmp 44), (.tmp 45), (.tmp 46), (.tmp 47)] #[29, 9, 9, 9] 48 Tryz.call24 (X0 a2 A6 c7 b1 a9.1 a9.2.1 a9.2.2.1 a9.2.2.2.1 d9 a9.2.2.2.2 m p s k7 (Nc e1 [1, 2] rfl rfl) (fun w hm => Dp.mono _ (Bh e1 (l := [1, 2]) rfl hm) b8) u k8) ?_
    rintro e k9 ⟨rfl, h4⟩
    refine ⟨_, rfl, ?_⟩
    have l0 : SP [] w0 k9 [Q7 b0 24 #[(.int .i64 a3), (.int .i64 a4), (.int .i64 a5), (.int .i64 a6), (.slice A6 (List.length (List.map stT d9)) c7)], Q7 a2 79 #[(.int .i64 a9.1), (.int .i64 a9.2.1), (.int .i64 a9.2.2.1), (.int .i64 a9.2.2.2.1), (.slice A6 (List.length (List.map stT d9)) c7), (.map (some b1))], Xg b1 a9.2.2.2.2] := Yg e1 [1, 2] [0] rfl rfl h4 rfl
    clear h4
    refine iR 1 6 [(13, (.string ⟨List.toArray u⟩))] ?_
    refine iF ?_
    refine aQ ?_
    refine aQ ?_
    refine aR ?_
    refine iR 1 1 [(14, (.int .i64 0))] ?_
    refine iF ?_
    refine Z4 K (id := 0) K ?_
    refine Ur K (fun c8 ρ w => ∃ (b3 : Int) (b4 : Int) (b5 : Int) (b6 : Int) (b7 : U2) (h : Int), Zg ρ [(1, (.slice a1 (List.length q) a8)), (2, (.string ⟨List.toArray m⟩)), (3, (.string ⟨List.toArray p⟩)), (4, (.string ⟨List.toArray s⟩)), (5, (pt b0 0)), (11, (.bool a0)), (12, (pt a2 0)), (13, (.string ⟨List.toArray u⟩)), (14, (.int .i64 h))] ∧ SP [] w0 w [Q7 b0 24 #[(.int .i64 a3), (.int .i64 a4), (.int .i64 a5), (.int .i64 a6), (.slice A6 (List.length (List.map stT d9)) c7)], Q7 a2 79 #[(.int .i64 b3), (.int .i64 b4), (.int .i64 b5), (.int .i64 b6), (.slice A6 (List.length (List.map stT d9)) c7), (.map (some b1))], Xg b1 b7] ∧ Q4 a3 a4 a5 a6 (List.map stT d9) q m p s a0 u c8 b3 b4 b5 b6 b7 h = some r) (by rintro ρ w ⟨b3, b4, b5, b6, b7, h, hk, hs, H⟩; cases H) ?_ Zd ?_
    ·rintro c8 ρ l1 ⟨b3, b4, b5, b6, b7, h, hk, c1, H⟩
     refine At.known [(1, (.slice a1 (List.length q) a8)), (2, (.string ⟨List.toArray m⟩)), (3, (.string ⟨List.toArray p⟩)), (4, (.string ⟨List.toArray s⟩)), (5, (pt b0 0)), (11, (.bool a0)), (12, (pt a2 0)), (13, (.string ⟨List.toArray u⟩)), (14, (.int .i64 h))] hk ?_
     replace H := (show V5 (Q4 a3 a4 a5 a6 (List.map stT d9) q m p s a0 u c8) a3 a4 a5 a6 (List.map stT d9) q m p s a0 u b3 b4 b5 b6 b7 h = some r from H)
     unfold V5 at H
     refine aQ ?_
     refine aQ ?_
     refine aR ?_
     refine iR 4 4 [(49, (.int .i64 h)), (50, (.slice a1 (List.length q) a8)), (51, (.int .i64 ((List.length q : Nat) : Int))), (52, (.bool (decide (h < ((List.length q : Nat) : Int)))))] ?_
     refine iF ?_
     refine Zs K (o := (.tmp 52)) K (b := (decide (h < ((List.length q : Nat) : Int)))) K (fun f0 => ?_) (fun f0 => ?_)
     ·have H := ct H f0
      refine At.skip K ?_
      refine aQ ?_
      refine Z4 K (id := 1) K ?_
      refine aQ ?_
      refine aQ ?_
      refine aR ?_
      refine iR 2 2 [(55, (.slice a1 (List.length q) a8)), (56, (.int .i64 h))] ?_
      obtain ⟨f1, h5, h6, l2, H⟩ := Qn H
      refine iS 3 ?_
      refine Vi (e := (Qe (Qc .i64) (Qe Qw (Qe Qw (Qe Qw (Qe Qw (Qc .i64))))))) (l := q) (A := a1) (c := a8) (T := 25) (E := 34) (x := (.tmp 55)) (ix := (.tmp 56)) (ki := .i64) (iz := h) (d := (some 57)) (k := 2) K rfl K K K K (RdT.sp b9 c1) h5 h6 ?_
      intro h7 h8 l3 q5 hc822
      refine iR 1 4 [(58, (.pointer (some ⟨h7, (h8 + Int.toNat h * (Qe (Qc .i64) (Qe Qw (Qe Qw (Qe Qw (Qe Qw (Qc .i64)))))).sz), none⟩)))] ?_
      refine iS 5 ?_
      refine sC 3 58 h7 (h8 + Int.toNat h * (Qe (Qc .i64) (Qe Qw (Qe Qw (Qe Qw (Qe Qw (Qc .i64)))))).sz) (.int .i64 f1.1) 59 (Qi (e := (Qe (Qc .i64) (Qe Qw (Qe Qw (Qe Qw (Qe Qw (Qc .i64))))))) (Qf (RdT.sp b9 c1) l3 h5 h6) l2 (j := 0) rfl) ?_
      refine iR 1 6 [(60, (.bool (f1.1 == 0)))] ?_
      refine iF ?_
      refine At.join (fun ρ w => ∃ (c9 : Int) (d0 : Int) (d1 : Int) (d2 : Int) (d3 : U2), Zg ρ [(1, (.slice a1 (List.length q) a8)), (2, (.string ⟨List.toArray m⟩)), (3, (.string ⟨List.toArray p⟩)), (4, (.string ⟨List.toArray s⟩)), (5, (pt b0 0)), (11, (.bool a0)), (12, (pt a2 0)), (13, (.string ⟨List.toArray u⟩)), (14, (.int .i64 h))] ∧ SP [] w0 w [Q7 b0 24 #[(.int .i64 a3), (.int .i64 a4), (.int .i64 a5), (.int .i64 a6), (.slice A6 (List.length (List.map stT d9)) c7)], Q7 a2 79 #[(.int .i64 c9), (.int .i64 d0), (.int .i64 d1), (.int .i64 d2), (.slice A6 (List.length (List.map stT d9)) c7), (.map (some b1))], Xg b1 d3] ∧ Zc (Q4 a3 a4 a5 a6 (List.map stT d9) q m p s a0 u c8) (List.map stT d9) m p s u h c9 d0 d1 d2 d3 = some r) ?_ ?_
      ·refine Zs K (o := (.tmp 60)) K (b := (f1.1 == 0)) K (fun f2 => ?_) (fun f2 => ?_)
       ·have H := ct H f2
        obtain ⟨f3, h9, i0, l4, H⟩ := Qn H
        obtain ⟨f4, i1, i2, l5, H⟩ := Qn H
        obtain ⟨b2, l6, H⟩ := Qg H
        refine aG [GEq (pt a2 0), GEq (.slice a1 (List.length q) a8), GEq (.int .i64 h), Vv a1 (Qe (Qc .i64) (Qe Qw (Qe Qw (Qe Qw (Qe Qw (Qc .i64)))))).sz h, Il a1 (Qe (Qc .i64) (Qe Qw (Qe Qw (Qe Qw (Qe Qw (Qc .i64)))))).sz h 1, GEq (.string ⟨List.toArray f3.2.1⟩), GEq (.slice a1 (List.length q) a8), GEq (.int .i64 h), Vv a1 (Qe (Qc .i64) (Qe Qw (Qe Qw (Qe Qw (Qe Qw (Qc .i64)))))).sz h, Il a1 (Qe (Qc .i64) (Qe Qw (Qe Qw (Qe Qw (Qe Qw (Qc .i64)))))).sz h 2, GEq (.string ⟨List.toArray f4.2.2.1⟩), GEq (.bool b2.1)] [11] [sG [] [] [] w0 [Q7 b0 24 #[(.int .i64 a3), (.int .i64 a4), (.int .i64 a5), (.int .i64 a6), (.slice A6 (List.length (List.map stT d9)) c7)], Q7 a2 79 #[(.int .i64 b3), (.int .i64 b4), (.int .i64 b5), (.int .i64 b6), (.slice A6 (List.length (List.map stT d9)) c7), (.map (some b1))], Xg b1 b7], sG [11] [(.bool b2.1)] [] w0 [Q7 b0 24 #[(.int .i64 a3), (.int .i64 a4), (.int .i64 a5), (.int .i64 a6), (.slice A6 (List.length (List.map stT d9)) c7)], Q7 a2 79 #[(.int .i64 b2.2.1), (.int .i64 b2.2.2.1), (.int .i64 b2.2.2.2.1), (.int .i64 b2.2.2.2.2.1), (.slice A6 (List.length (List.map stT d9)) c7), (.map (some b1))], Xg b1 b2.2.2.2.2.2]] 12 1 ⟨trivial, SP.drew c1⟩ ?_ ?_
        iterate 12 refine And.intro ?_ ?_
        exact trivial
        ·exact oV (hC (hS 12 (pt a2 0)) (h0)) (pt a2 0)
        ·exact oV (hC (hS 1 (.slice a1 (List.length q) a8)) (h0)) (.slice a1 (List.length q) a8)
        ·exact oV (hC (hS 14 (.int .i64 h)) (h0)) (.int .i64 h)
        ·refine oL 0 ?_
         ·rintro ρ' w' hs hah ⟨q6, l7⟩
          refine kM (kc (kA hah 1 62) (kc (kA hah 2 63) k0)) fun hkn => ?_
          refine Vi (e := (Qe (Qc .i64) (Qe Qw (Qe Qw (Qe Qw (Qe Qw (Qc .i64))))))) (l := q) (A := a1) (c := a8) (T := 25) (E := 34) (x := (.tmp 62)) (ix := (.tmp 63)) (ki := .i64) (iz := h) (d := (some 64)) (k := 3) K rfl K K K K (RdT.sp b9 l7) h9 i0 ?_
          intro l8 l9 m0 q7 hc945
          exact ⟨rfl, _, Qa hkn, ⟨l8, l9, m0, rfl⟩⟩
        ·refine oL 0 ?_
         ·rintro ρ' w' hs hah ⟨q8, q9⟩
          obtain ⟨i3, i4, m1, m2⟩ := hah 3 64 K
          refine kM (kc m2 k0) fun hkn => ?_
          refine Qj.run (k := 4) (v := (.pointer (some ⟨i3, (i4 + Int.toNat h * (Qe (Qc .i64) (Qe Qw (Qe Qw (Qe Qw (Qe Qw (Qc .i64)))))).sz + 1), none⟩))) K ?_
          exact ⟨rfl, _, Qa hkn, ⟨i3, i4, m1, rfl⟩⟩
        ·refine oL 0 ?_
         ·rintro ρ' w' hs hah ⟨r0, m3⟩
          obtain ⟨m4, m5, m6, m7⟩ := hah 4 65 K
          refine kM (kc m7 k0) fun hkn => ?_
          refine sC 9 65 m4 (m5 + Int.toNat h * (Qe (Qc .i64) (Qe Qw (Qe Qw (Qe Qw (Qe Qw (Qc .i64)))))).sz + 1) (.string ⟨List.toArray f3.2.1⟩) 66 (Qi (e := (Qe (Qc .i64) (Qe Qw (Qe Qw (Qe Qw (Qe Qw (Qc .i64))))))) (Qf (RdT.sp b9 m3) m6 h9 i0) l4 (j := 1) rfl) ?_
          exact eK hkn
        ·exact oV (hC (hS 1 (.slice a1 (List.length q) a8)) (h0)) (.slice a1 (List.length q) a8)
        ·exact oV (hC (hS 14 (.int .i64 h)) (h0)) (.int .i64 h)
        ·refine oL 0 ?_
         ·rintro ρ' w' hs hah ⟨r1, m8⟩
          refine kM (kc (kA hah 6 67) (kc (kA hah 7 68) k0)) fun hkn => ?_
          refine Vi (e := (Qe (Qc .i64) (Qe Qw (Qe Qw (Qe Qw (Qe Qw (Qc .i64))))))) (l := q) (A := a1) (c := a8) (T := 25) (E := 34) (x := (.tmp 67)) (ix := (.tmp 68)) (ki := .i64) (iz := h) (d := (some 69)) (k := 8) K rfl K K K K (RdT.sp b9 m8) i1 i2 ?_
          intro m9 n0 n1 r2 hc962
          exact ⟨rfl, _, Qa hkn, ⟨m9, n0, n1, rfl⟩⟩
        ·refine oL 0 ?_
         ·rintro ρ' w' hs hah ⟨r3, r4⟩
          obtain ⟨i5, i6, n2, n3⟩ := hah 8 69 K
          refine kM (kc n3 k0) fun hkn => ?_
          refine Qj.run (k := 9) (v := (.pointer (some ⟨i5, (i6 + Int.toNat h * (Qe (Qc .i64) (Qe Qw (Qe Qw (Qe Qw (Qe Qw (Qc .i64)))))).sz + 2), none⟩))) K ?_
          exact ⟨rfl, _, Qa hkn, ⟨i5, i6, n2, rfl⟩⟩
        ·refine oL 0 ?_
         ·rintro ρ' w' hs hah ⟨r5, n4⟩
          obtain ⟨n5, n6, n7, n8⟩ := hah 9 70 K
          refine kM (kc n8 k0) fun hkn => ?_
          refine sC 9 70 n5 (n6 + Int.toNat h * (Qe (Qc .i64) (Qe Qw (Qe Qw (Qe Qw (Qe Qw (Qc .i64)))))).sz + 2) (.string ⟨List.toArray f4.2.2.1⟩) 71 (Qi (e := (Qe (Qc .i64) (Qe Qw (Qe Qw (Qe Qw (Qe Qw (Qc .i64))))))) (Qf (RdT.sp b9 n4) n7 i1 i2) l5 (j := 2) rfl) ?_
          exact eK hkn
        ·refine oH 0 1 ?_
         ·rintro ρ' w' hs hah ⟨r6, f5⟩
          refine kM (kc (kA hah 0 61) (kc (kA hah 5 66) (kc (kA hah 10 71) k0))) fun hkn => ?_
          refine cF 20 #[(.tmp 61), (.tmp 66), (.tmp 71)] #[29, 9, 9] 72 Tryz.call20 (Jt a2 A6 c7 b1 b3 b4 b5 b6 d9 b7 f3.2.1 f4.2.2.1 w' (Nc f5 [1, 2] rfl rfl) (fun w hm => Dp.mono _ (Bh f5 (l := [1, 2]) rfl hm) b8) b2 l6) ?_
          rintro e n9 ⟨rfl, i7⟩
          refine ⟨_, rfl, ?_⟩
          have o0 : SP [] w0 n9 [Q7 b0 24 #[(.int .i64 a3), (.int .i64 a4), (.int .i64 a5), (.int .i64 a6), (.slice A6 (List.length (List.map stT d9)) c7)], Q7 a2 79 #[(.int .i64 b2.2.1), (.int .i64 b2.2.2.1), (.int .i64 b2.2.2.2.1), (.int .i64 b2.2.2.2.2.1), (.slice A6 (List.length (List.map stT d9)) c7), (.map (some b1))], Xg b1 b2.2.2.2.2.2] := Yg f5 [1, 2] [0] rfl rfl i7 rfl
          clear i7
          refine ⟨_, Qa hkn, rfl, ?_⟩
          exact (And.intro (And.intro rfl (trivial)) (o0))
        ·rintro ρ' w' hs hf ⟨⟨r7, -⟩, i8⟩
         refine Vj [(1, (.slice a1 (List.length q) a8)), (2, (.string ⟨List.toArray m⟩)), (3, (.string ⟨List.toArray p⟩)), (4, (.string ⟨List.toArray s⟩)), (5, (pt b0 0)), (11, (.bool a0)), (12, (pt a2 0)), (13, (.string ⟨List.toArray u⟩)), (14, (.int .i64 h))] ⟨(hs 1 K).trans K, (hs 2 K).trans K, (hs 3 K).trans K, (hs 4 K).trans K, (hs 5 K).trans K, (hs 11 K).trans K, (hs 12 K).trans K, (hs 13 K).trans K, (hs 14 K).trans K, trivial⟩ ?_
         obtain ⟨r8, o1⟩ : ∃ x, w' = x := ⟨_, rfl⟩
         rw [o1] at i8 ⊢
         exact ⟨b2.2.1, b2.2.2.1, b2.2.2.2.1, b2.2.2.2.2.1, b2.2.2.2.2.2, ⟨K, K, K, K, K, K, K, K, K, trivial⟩, SP.sel i8 [0, 1, 2] rfl rfl, H⟩
       ·have H := cf H f2
        refine At.skip K ?_
        exact ⟨b3, b4, b5, b6, b7, ⟨K, K, K, K, K, K, K, K, K, trivial⟩, SP.sel c1 [0, 1, 2] rfl rfl, H⟩
      ·rintro ρ o2 ⟨c9, d0, d1, d2, d3, hk, f6, H⟩
       unfold Zc at H
       first | refine At.known [(1, (.slice a1 (List.length q) a8)), (2, (.string ⟨List.toArray m⟩)), (3, (.string ⟨List.toArray p⟩)), (4, (.string ⟨List.toArray s⟩)), (5, (pt b0 0)), (11, (.bool a0)), (12, (pt a2 0)), (13, (.string ⟨List.toArray u⟩)), (14, (.int .i64 h))] hk ?_ | rw [← Q9 (l := [(1, (.slice a1 (List.length q) a8)), (2, (.string ⟨List.toArray m⟩)), (3, (.string ⟨List.toArray p⟩)), (4, (.string ⟨List.toArray s⟩)), (5, (pt b0 0)), (11, (.bool a0)), (12, (pt a2 0)), (13, (.string ⟨List.toArray u⟩)), (14, (.int .i64 h))]) hk]
       refine aQ ?_
       refine aR ?_
       refine iR 4 4 [(73, (pt a2 0)), (74, (.string ⟨List.toArray m⟩)), (75, (.string ⟨List.toArray p⟩)), (76, (.string ⟨List.toArray s⟩))] ?_
       obtain ⟨e2, o3, H⟩ := Qg H
       refine iS 5 ?_
       refine cF 24 #[(.tmp 73), (.tmp 74), (.tmp 75), (.tmp 76)] #[29, 9, 9, 9] 77 Tryz.call24 (X0 a2 A6 c7 b1 c9 d0 d1 d2 d9 d3 m p s o2 (Nc f6 [1, 2] rfl rfl) (fun w hm => Dp.mono _ (Bh f6 (l := [1, 2]) rfl hm) b8) e2 o3) ?_
       rintro e o4 ⟨rfl, i9⟩
       refine ⟨_, rfl, ?_⟩
       have j0 : SP [] w0 o4 [Q7 b0 24 #[(.int .i64 a3), (.int .i64 a4), (.int .i64 a5), (.int .i64 a6), (.slice A6 (List.length (List.map stT d9)) c7)], Q7 a2 79 #[(.int .i64 c9), (.int .i64 d0), (.int .i64 d1), (.int .i64 d2), (.slice A6 (List.length (List.map stT d9)) c7), (.map (some b1))], Xg b1 d3] := Yg f6 [1, 2] [0] rfl rfl i9 rfl
       clear i9
       refine iR 1 6 [(78, (.string ⟨List.toArray u⟩))] ?_
       refine iS 7 ?_
       refine X6 (op := .neq) (T := 9) (T' := 9) (x := (.tmp 77)) (y := (.tmp 78)) (a := e2) (b := u) (r := (.bool (!(e2 == u)))) (d := (some 79)) (k := 6) K rfl K K rfl ?_
       refine iF ?_
       refine Zs K (o := (.tmp 79)) K (b := (!(e2 == u))) K (fun f7 => ?_) (fun f7 => ?_)
       ·have H := ct H f7
        refine aQ ?_
        refine aR ?_
        refine iR 1 1 [(10, (.bool false))] ?_
        refine iF ?_
        refine At.ret K ?_
        refine ⟨(.bool false), K, ?_⟩
        obtain rfl := Qm H
        exact ⟨rfl, SP.sel j0 [] rfl rfl⟩
       ·have H := cf H f7
        refine At.skip K ?_
        refine aR ?_
        refine iR 3 3 [(53, (.int .i64 h)), (54, (.int .i64 (IntKind.wrap .i64 (h + 1)))), (14, (.int .i64 (IntKind.wrap .i64 (h + 1))))] ?_
        refine iF ?_
        exact ⟨c9, d0, d1, d2, d3, (IntKind.wrap .i64 (h + 1)), ⟨K, K, K, K, K, K, K, K, K, trivial⟩, SP.sel j0 [0, 1, 2] rfl rfl, H⟩
     ·have H := cf H f0
      refine At.exit K (id := 0) K ?_
      refine aQ ?_
      refine aR ?_
      refine iS 1 ?_
      refine sL 24 5 b0 0 0 (.agg #[(.int .i64 a3), (.int .i64 a4), (.int .i64 a5), (.int .i64 a6), (.slice A6 (List.length (List.map stT d9)) c7)]) 81 c1 rfl ?_
      refine iR 1 2 [(82, (.string ⟨List.toArray m⟩))] ?_
      obtain ⟨f, o5, H⟩ := Qg H
      refine iS 3 ?_
      refine cF 28 #[(.tmp 81), (.tmp 82)] #[24, 9] 83 Tryz.call28 (R1 (R := fun w => Below w0.heap.size w0 w) A6 c7 a3 a4 a5 a6 d9 m l1 (fun w hb => D6 c1 hb) (fun w hb => Dp.mono _ hb b8) f o5) ?_
      rintro e r9 ⟨c2, c3, c4, c5, rfl, o6, o7, j1⟩
      refine ⟨_, rfl, ?_⟩
      have o8 := SP.call c1 j1
      clear j1
      refine iR 3 6 [(80, (.tuple #[(.agg #[(.string ⟨List.toArray f.1⟩), (.int .i64 f.2.1), (.int .i64 f.2.2.1), (.slice c2 (List.length f.2.2.2.1) c3), (.slice c4 (List.length f.2.2.2.2.1) c5)]), (.bool f.2.2.2.2.2)])), (84, (.agg #[(.string ⟨List.toArray f.1⟩), (.int .i64 f.2.1), (.int .i64 f.2.2.1), (.slice c2 (List.length f.2.2.2.1) c3), (.slice c4 (List.length f.2.2.2.2.1) c5)])), (85, (.bool f.2.2.2.2.2))] ?_
      refine iS 7 ?_
      refine Qj.alloc (t := 44) (z := (.agg #[(.string ⟨List.toArray ([] : List UInt8)⟩), (.int .i64 0), (.int .i64 0), (.slice none (List.length ([] : List (Int × Int))) 0), (.slice none (List.length ([] : List ((List UInt8) × (List UInt8) × Int))) 0)])) (d := (some 15)) (k := 6) K rfl K o8 ?_
      intro f8 s0 o9
      refine iS 8 ?_
      refine Qj.store (t := 44) (x := (.tmp 15)) (y := (.tmp 84)) (g := f8) (off := 0) (i := 3) (v := (.agg #[(.string ⟨List.toArray f.1⟩), (.int .i64 f.2.1), (.int .i64 f.2.2.1), (.slice c2 (List.length f.2.2.2.1) c3), (.slice c4 (List.length f.2.2.2.2.1) c5)])) (cs' := #[(.string ⟨List.toArray f.1⟩), (.int .i64 f.2.1), (.int .i64 f.2.2.1), (.slice c2 (List.length f.2.2.2.1) c3), (.slice c4 (List.length f.2.2.2.2.1) c5)]) (d := none) (k := 7) K rfl K K o9 rfl K ?_
      intro p0 e3
      refine iR 1 9 [(16, (.bool f.2.2.2.2.2))] ?_
      refine iF ?_
      refine aQ ?_
      refine aR ?_
      refine iS 1 ?_
      refine sL 44 15 f8 0 3 (.agg #[(.string ⟨List.toArray f.1⟩), (.int .i64 f.2.1), (.int .i64 f.2.2.1), (.slice c2 (List.length f.2.2.2.1) c3), (.slice c4 (List.length f.2.2.2.2.1) c5)]) 87 e3 rfl ?_
      refine iR 1 2 [(88, (.string ⟨List.toArray p⟩))] ?_
      obtain ⟨a7, p1, H⟩ := Qg H
      refine iS 3 ?_
      refine cF 29 #[(.tmp 87), (.tmp 88)] #[44, 9] 89 Tryz.call29 (Rk c2 c3 c4 c5 f.1 f.2.1 f.2.2.1 f.2.2.2.1 f.2.2.2.2.1 p p0 (RdT.sp (o6 w0 (Below.refl _ _)) e3) (RdT.sp (o7 w0 (Below.refl _ _)) e3) a7 p1) ?_
      rintro e s1 ⟨rfl, j2⟩
      refine ⟨_, rfl, ?_⟩
      have p2 := SP.call e3 j2
      clear j2
      refine iR 3 6 [(86, (.tuple #[(.agg #[(.string ⟨List.toArray a7.1⟩), (.string ⟨List.toArray a7.2.1⟩), (.int .i64 a7.2.2.1)]), (.bool a7.2.2.2)])), (90, (.agg #[(.string ⟨List.toArray a7.1⟩), (.string ⟨List.toArray a7.2.1⟩), (.int .i64 a7.2.2.1)])), (91, (.bool a7.2.2.2))] ?_
      refine iS 7 ?_
      refine Qj.alloc (t := 48) (z := (.agg #[(.string ⟨List.toArray ([] : List UInt8)⟩), (.string ⟨List.toArray ([] : List UInt8)⟩), (.int .i64 0)])) (d := (some 17)) (k := 6) K rfl K p2 ?_
      intro e4 s2 p3
      refine iS 8 ?_
      refine Qj.store (t := 48) (x := (.tmp 17)) (y := (.tmp 90)) (g := e4) (off := 0) (i := 4) (v := (.agg #[(.string ⟨List.toArray a7.1⟩), (.string ⟨List.toArray a7.2.1⟩), (.int .i64 a7.2.2.1)])) (cs' := #[(.string ⟨List.toArray a7.1⟩), (.string ⟨List.toArray a7.2.1⟩), (.int .i64 a7.2.2.1)]) (d := none) (k := 7) K rfl K K p3 rfl K ?_
      intro s3 d7
      refine iR 1 9 [(18, (.bool a7.2.2.2))] ?_
      refine iF ?_
      refine aQ ?_
      refine aQ ?_
      refine aR ?_
      refine iR 2 2 [(92, (.bool a7.2.2.2)), (93, (.bool (!a7.2.2.2)))] ?_
      refine iF ?_
      refine Zs K (o := (.tmp 93)) K (b := (!a7.2.2.2)) K (fun f9 => ?_) (fun f9 => ?_)
      ·have H := ct H f9
       refine aQ ?_
       refine At.join (fun ρ w => ∃ (d4 : Bool), Zg ρ [(10, (.bool d4))] ∧ SP [] w0 w [] ∧ Z2 (Q4 a3 a4 a5 a6 (List.map stT d9) q m p s a0 u c8) d4 = some r) ?_ ?_
       ·refine aR ?_
        refine iR 2 2 [(94, (.bool a0)), (95, (.bool a0))] ?_
        refine In.guard (t := 95) (b := a0) K (fun g0 => ?_) (fun g0 => ?_)
        ·have H := ct H g0
         refine iR 1 3 [(96, (.string ⟨List.toArray u⟩))] ?_
         refine iS 4 ?_
         refine X6 (op := .eql) (T := 9) (T' := 9) (x := (.tmp 96)) (y := (.const (.string ⟨List.toArray ([] : List UInt8)⟩))) (a := u) (b := ([] : List UInt8)) (r := (.bool (u == ([] : List UInt8)))) (d := (some 97)) (k := 3) K rfl K K rfl ?_
         refine iR 2 6 [(98, (.bool (u == ([] : List UInt8)))), (10, (.bool (u == ([] : List UInt8))))] ?_
         refine iF ?_
         exact ⟨(u == ([] : List UInt8)), ⟨K, trivial⟩, SP.sel d7 [] rfl rfl, H⟩
        ·have H := cf H g0
         refine iR 4 6 [(96, undef), (97, undef), (98, (.bool false)), (10, (.bool false))] ?_
         refine iF ?_
         exact ⟨false, ⟨K, trivial⟩, SP.sel d7 [] rfl rfl, H⟩
       ·rintro ρ s4 ⟨d4, hk, p4, H⟩
        unfold Z2 at H
        first | refine At.known [(10, (.bool d4))] hk ?_ | rw [← Q9 (l := [(10, (.bool d4))]) hk]
        refine At.ret K ?_
        refine ⟨(.bool d4), K, ?_⟩
        obtain rfl := Qm H
        exact ⟨rfl, SP.sel p4 [] rfl rfl⟩
      ·have H := cf H f9
       refine At.skip K ?_
       refine aQ ?_
       refine At.join (fun ρ w => ∃ (d5 : Bool), Zg ρ [(10, (.bool d5))] ∧ SP [] w0 w [] ∧ Z3 (Q4 a3 a4 a5 a6 (List.map stT d9) q m p s a0 u c8) d5 = some r) ?_ ?_
       ·refine aR ?_
        refine iR 2 2 [(99, (.bool a0)), (100, (.bool a0))] ?_
        refine In.guard (t := 100) (b := a0) K (fun g1 => ?_) (fun g1 => ?_)
        ·have H := ct H g1
         refine iR 2 4 [(101, (.string ⟨List.toArray u⟩)), (102, (pt e4 1))] ?_
         refine iS 5 ?_
         refine sL 9 102 e4 1 4 (.string ⟨List.toArray a7.2.1⟩) 103 d7 rfl ?_
         obtain ⟨p5, H⟩ := Vu H
         refine iS 6 ?_
         refine G2 (S' := 9) (T := 52) (E := 5) (x := (.tmp 103)) (l := a7.2.1) (d := (some 104)) (k := 5) K rfl K K K K (G4 p5) d7 ?_
         intro j3 j4 p6 j5 _
         have p7 : SP [] w0 p6 [Q7 b0 24 #[(.int .i64 a3), (.int .i64 a4), (.int .i64 a5), (.int .i64 a6), (.slice A6 (List.length (List.map stT d9)) c7)], Q7 a2 79 #[(.int .i64 b3), (.int .i64 b4), (.int .i64 b5), (.int .i64 b6), (.slice A6 (List.length (List.map stT d9)) c7), (.map (some b1))], Xg b1 b7, Q7 f8 44 #[(.string ⟨List.toArray f.1⟩), (.int .i64 f.2.1), (.int .i64 f.2.2.1), (.slice c2 (List.length f.2.2.2.1) c3), (.slice c4 (List.length f.2.2.2.2.1) c5)], Q7 e4 48 #[(.string ⟨List.toArray a7.1⟩), (.string ⟨List.toArray a7.2.1⟩), (.int .i64 a7.2.2.1)], rdE eU8 (some ⟨j3, 0, none⟩) j4 a7.2.1] := j5
         clear j5
         refine iR 3 9 [(105, (.string ⟨List.toArray m⟩)), (106, (.string ⟨List.toArray p⟩)), (107, (.string ⟨List.toArray s⟩))] ?_
         refine iS 10 ?_
         refine V6 (e := Qw) (T := 53) (E := 9) (len := 3) (parts := #[(0, (.tmp 105)), (1, (.tmp 106)), (2, (.tmp 107))]) (cs := #[(.string ⟨List.toArray m⟩), (.string ⟨List.toArray p⟩), (.string ⟨List.toArray s⟩)]) ([m, p, s] : List (List UInt8)) (d := (some 108)) (k := 9) K rfl (fun _ => K) p7 rfl rfl rfl rfl ?_
         intro p8 p9 g2
         obtain ⟨d6, q0, H⟩ := Qg H
         refine iS 11 ?_
         refine cF 30 #[(.tmp 104), (.tmp 108)] #[52, 53] 109 Tryz.call30 (Nv (some ⟨j3, 0, none⟩) j4 (some ⟨p8, 0, none⟩) (List.length ([m, p, s] : List (List UInt8))) a7.2.1 ([m, p, s] : List (List UInt8)) p9 (Hi (SP.get g2 (i := 5) rfl)) (Vm (SP.get g2 (i := 6) rfl)) d6 q0) ?_
         rintro e s5 ⟨rfl, j6⟩
         refine ⟨_, rfl, ?_⟩
         have q1 := SP.call g2 j6
         clear j6
         refine iS 12 ?_
         refine X6 (op := .eql) (T := 9) (T' := 9) (x := (.tmp 101)) (y := (.tmp 109)) (a := u) (b := d6) (r := (.bool (u == d6))) (d := (some 110)) (k := 11) K rfl K K rfl ?_
         refine iR 2 14 [(111, (.bool (u == d6))), (10, (.bool (u == d6)))] ?_
         refine iF ?_
         exact ⟨(u == d6), ⟨K, trivial⟩, SP.sel q1 [] rfl rfl, H⟩
        ·have H := cf H g1
         refine iR 12 14 [(101, undef), (102, undef), (103, undef), (104, undef), (105, undef), (106, undef), (107, undef), (108, undef), (109, undef), (110, undef), (111, (.bool false)), (10, (.bool false))] ?_
         refine iF ?_
         exact ⟨false, ⟨K, trivial⟩, SP.sel d7 [] rfl rfl, H⟩
       ·rintro ρ s6 ⟨d5, hk, q2, H⟩
        unfold Z3 at H
        first | refine At.known [(10, (.bool d5))] hk ?_ | rw [← Q9 (l := [(10, (.bool d5))]) hk]
        refine At.ret K ?_
        refine ⟨(.bool d5), K, ?_⟩
        obtain rfl := Qm H
        exact ⟨rfl, SP.sel q2 [] rfl rfl⟩
    ·exact ⟨a9.1, a9.2.1, a9.2.2.1, a9.2.2.2.1, a9.2.2.2.2, 0, ⟨K, K, K, K, K, K, K, K, K, trivial⟩, SP.sel l0 [0, 1, 2] rfl rfl, H⟩
end Go.Proofs.YtmgfanhcdfobhaaGreatDoor
namespace Go.Proofs.YtmgfanhcdfobhaaGreatDoor
theorem Lm (w g i0 e : Int) {l : List Qk} (hv : VC l) (ops : List OpV) (t k n : Str) (hops : ops.length ≤ 100) :
    ∀ (d i f : Nat) (M : U2), d = ops.length - i → i ≤ ops.length → d < f → MB i M → Q4 w g i0 e l ops t k n true (E8 l t k n) f w g i0 e M (i : Int) = some true := by
  intro d
  induction d with
  | zero =>
    intro i f M hd hi hf hM
    obtain ⟨f, rfl⟩ : ∃ g, f = g + 1 := ⟨f - 1, by omega⟩
    show V5 (Q4 w g i0 e l ops t k n true (E8 l t k n) f) w g i0 e l ops t k n true (E8 l t k n) w g i0 e M (i : Int) = _
    unfold V5 Z2 Z3
    rw [show decide ((i : Int) < ((ops.length : Nat) : Int)) = false from decide_eq_false (by omega), cond_false, rFind _ _ _ _ _ _ hv.len, Option.bind_some, rTok _ _ _ _ _ _ (Ct hv t), Option.bind_some, show Lp (Cl l t).2.2.2.2.1 k = Ha l t k from rfl]
    unfold E8
    cases hx : (Ha l t k).2.2.2 with
    | false => rfl
    | true =>
      obtain ⟨h1, _⟩ := Kh hv hx
      rw [show (!true) = false from rfl, cond_false, cond_true, cond_true, show Nat.ble (Ha l t k).2.1.length 281474976710656 = true by simp; omega]
      simp only [chk, Option.bind_some]
      rw [ref_proof _ (by omega) _ (by simp), Option.bind_some, beq_self_eq_true]
  | succ d ih =>
    intro i f M hd hi hf hM
    obtain ⟨f, rfl⟩ : ∃ g, f = g + 1 := ⟨f - 1, by omega⟩
    have hlt : i < ops.length := by omega
    show V5 (Q4 w g i0 e l ops t k n true (E8 l t k n) f) w g i0 e l ops t k n true (E8 l t k n) w g i0 e M (i : Int) = _
    generalize hR : Q4 w g i0 e l ops t k n true (E8 l t k n) f = R at *
    have k12 : ∀ M', MB (i + 1) M' → Zc R l t k n (E8 l t k n) (i : Int) w g i0 e M' = some true := by
      intro M' hM'
      unfold Zc
      rw [pVWant hv, Option.bind_some, beq_self_eq_true, show (!true) = false from rfl, cond_false, show ((i : Int) + 1) = ((i + 1 : Nat) : Int) by omega, Xh (by omega), ← hR]
      exact ih (i + 1) f M' (by omega) (by omega) (by omega) hM'
    unfold V5
    rw [show decide ((i : Int) < ((ops.length : Nat) : Int)) = true from decide_eq_true (by omega), cond_true, Ul hlt, Option.bind_some]
    generalize ops[i] = x
    cases (x.1 == 0) with
    | false => rw [cond_false]; exact k12 M (mb_le hM (by omega))
    | true =>
      rw [cond_true, Option.bind_some, Option.bind_some, pVRevoke hv _ _ _ _ _ _ _ (by have := hM (x.2.1, x.2.2.1); omega), Option.bind_some]
      exact k12 _ (mb_rev hM l _ _)
theorem C5 (w g i0 e : Int) (l : List Qk) (ops : List OpV) (t k n : Str) (hl : l.length ≤ 140737488355328) (hq : ∀ t ∈ l, TenQ t) (hops : ops.length ≤ 140737488355328) (hoq : ∀ o ∈ ops, OpVQ o) : Yn w g i0 e l ops t k n = some true := by
  unfold Yn
  obtain ⟨c, hc, hc'⟩ := cfg_great w g i0 e l hl hq
  obtain ⟨b, hb, hb'⟩ := Ll ops hops hoq
  rw [vaultHead, Option.bind_some, pVNew w g i0 e l hl hq, Option.bind_some]
  cases hk : Fz w g i0 e l with
  | false => rfl
  | true =>
    rw [cond_true, optE_s, hc, Option.bind_some]
    have hup : Vo w g i0 e l ops t k n true (w, g, i0, e, []) true = some true := by unfold Vo; rw [cond_true]
    cases c with
    | true => rw [cond_true]; exact hup
    | false =>
      obtain ⟨s1, s2⟩ := hc' rfl
      have hv := vc_of hk (by omega) hq s2
      rw [cond_false, hb, Option.bind_some]
      cases b with
      | true => rw [cond_true]; exact hup
      | false =>
        rw [cond_false]
        generalize decide (_ > (2000 : Int)) = z
        cases z with
        | true => exact hup
        | false =>
          unfold Vo
          rw [cond_false, pVWant hv, Option.bind_some]
          have := Lm w g i0 e hv ops t k n (hb' rfl) ops.length 0 Zd [] (by omega) (by omega) (by have := hb' rfl; unfold Zd; omega) mb_nil
          rw [show ((0 : Nat) : Int) = 0 from rfl] at this
          exact this
end Go.Proofs.YtmgfanhcdfobhaaGreatDoor
namespace Go.Proofs.YtmgfanhcdfobhaaGreatDoor
open Go.RowKit Go.ChangeShapes Go.WideShapes Go.Deep
theorem own : ownKnob Tryz.prog.godebug = none := by kernel_rfl
theorem Ez : laidOutB Tryz.prog = true := by kernel_rfl
section
variable {H : Type} {enc : TypeId × Value → H} {W : World} {spare : Nat → Bool} {held : Bool} {base b0 : Nat} {r : Reach}
end
end Go.Proofs.YtmgfanhcdfobhaaGreatDoor
namespace Go.Proofs.YtmgfanhcdfobhaaGreatDoor
open Go.RowKit Go.ChangeShapes Go.WideShapes Go.Deep
section
variable {H : Type} {enc : TypeId × Value → H} {P : Program} {W : World}
def Rds (enc : TypeId × Value → H) (P : Program) (W : World) (t : TypeId) {α : Type} (e : Enc α) (Q : Nat → α → Prop) : Prop :=
  ∀ (Zd : Nat) (cs : List Value) (x : DataW H × List MemPlace), DataW.trod enc P W 0 (fun _ => true) true Zd t cs = some x → ∃ a, cs = e.enc a ∧ ∀ r, (x.1.weights P t).all (· ≤ r) = true → Q r a
def RdsFs (enc : TypeId × Value → H) (P : Program) (W : World) (o : Nat) (fs : List (TypeId × Nat)) {α : Type} (e : Enc α) (Q : Nat → α → Prop) : Prop :=
  ∀ (Zd : Nat) (cs : List Value) (xs : List (DataW H × List MemPlace)), xs.length = fs.length → (∀ (i : Nat) f, fs[i]? = some f → DataW.trod enc P W 0 (fun _ => true) true Zd f.1 ((cs.drop f.2).take (P.cellsOf f.1)) = xs[i]?) →
    ∃ a, (cs.drop o).take e.sz = e.enc a ∧ ∀ r, (DataW.weightsEach P (fs.map (·.1)) (xs.map (·.1))).all (· ≤ r) = true → Q r a
theorem G0 {t : TypeId} {k : IntKind} (ht : P.underlying t = some (.int k)) : Rds enc P W t (Qc k) (fun _ n => (Lit.int k n).wf = true) := by
  intro Zd cs x h
  obtain ⟨n, rfl, rfl, hw⟩ := DataW.trod_int ht h
  exact ⟨n, rfl, fun _ _ => hw⟩
theorem Br {t : TypeId} (ht : P.underlying t = some .string) : Rds enc P W t Qw (fun r s => s.length ≤ r) := by
  intro Zd cs x h
  obtain ⟨s, rfl, rfl, hs⟩ := DataW.trod_string ht h
  refine ⟨s.data.toList, rfl, fun r hr => ?_⟩
  simpa [DataW.weights] using hr
theorem Ib {t : TypeId} {o : Nat} {α : Type} {e : Enc α} {Q : Nat → α → Prop} (h : Rds enc P W t e Q) (hc : P.cellsOf t = e.sz) : RdsFs enc P W o [(t, o)] e Q := by
  intro Zd cs xs hl hf
  match xs, hl with
  | [x], _ =>
    have := hf 0 (t, o) rfl
    obtain ⟨a, ha, hq⟩ := h Zd _ _ this
    rw [hc] at ha
    refine ⟨a, ha, fun r hr => hq r ?_⟩
    simpa [DataW.weightsEach] using hr
theorem U8 {t : TypeId} {o : Nat} {fs : List (TypeId × Nat)} {α β : Type} {e : Enc α} {e' : Enc β} {Q : Nat → α → Prop} {Q' : Nat → β → Prop} (h : Rds enc P W t e Q) (hc : P.cellsOf t = e.sz) (hr : RdsFs enc P W (o + e.sz) fs e' Q') :
    RdsFs enc P W o ((t, o) :: fs) (Qe e e') (fun r a => Q r a.1 ∧ Q' r a.2) := by
  intro Zd cs xs hl hf
  match xs, hl with
  | x :: xs, hl =>
    have := hf 0 (t, o) rfl
    obtain ⟨a, ha, hq⟩ := h Zd _ _ this
    obtain ⟨b, hb, hq'⟩ := hr Zd cs xs (by simpa using hl) (fun i f hi => by have := hf (i + 1) f (by simpa using hi); simpa using this)
    refine ⟨(a, b), ?_, fun r hw => ?_⟩
    · show (cs.drop o).take (e.sz + e'.sz) = e.enc a ++ e'.enc b
      rw [hc] at ha
      rw [← ha, ← hb, List.take_add, List.drop_drop]
    · simp only [List.map_cons, DataW.weightsEach, List.all_append, Bool.and_eq_true] at hw
      exact ⟨hq r hw.1, hq' r hw.2⟩
theorem Rs {t : TypeId} {l : List (TypeId × Nat)} {α : Type} {e : Enc α} {Q : Nat → α → Prop} (hl : (match P.underlying t with | some (.struct fs) => some (fs.toList.map (fun f => (f.type, f.offset))) | _ => none) = some l) (hc : P.cellsOf t = e.sz)
    (hr : RdsFs enc P W 0 l e Q) : Rds enc P W t e Q := by
  intro Zd cs x hx
  split at hl
  · rename_i fs hs
    simp only [Option.some.injEq] at hl
    subst hl
    obtain ⟨xs, n, _, rfl, hlen, hxs, hg⟩ := DataW.trod_struct hs hx
    obtain ⟨a, ha, hq⟩ := hr n cs xs (by simpa using hxs) (fun i f hi => by
      rw [List.getElem?_map, Option.map_eq_some_iff] at hi
      obtain ⟨f', hf', rfl⟩ := hi
      exact hg i f' (by simpa using hf'))
    rw [List.drop_zero, List.take_of_length_le (by omega)] at ha
    refine ⟨a, ha, fun r hw => hq r ?_⟩
    simp only [DataW.weights, hs] at hw
    simpa [List.map_map, Function.comp_def] using hw
  · cases hl
theorem Bf {t : TypeId} {n : Nat} : ∀ {ds : List (DataW H)} {d : DataW H}, d ∈ ds → n ∈ d.weights P t → n ∈ DataW.weightsAll P t ds
  | d0 :: ds, d, hd, hn => by
    simp only [DataW.weightsAll, List.mem_append]
    rcases List.mem_cons.1 hd with rfl | h
    · exact .inl hn
    · exact .inr (Bf h hn)
theorem rds_row {t te : TypeId} {α : Type} {e : Enc α} {Q : Nat → α → Prop} (ht : P.underlying t = some (.slice te)) (h : Rds enc P W te e Q) (hc : P.cellsOf te = e.sz) (h0 : 0 < e.sz) {Zd : Nat} {cs : List Value} {x : DataW H × List MemPlace}
    (hx : DataW.trod enc P W 0 (fun _ => true) true Zd t cs = some x) :
    ∃ (A : Option Addr) (c : Nat) (l : List α), cs = [.slice A l.length c] ∧ RdT e W A c l ∧ ∀ r, (x.1.weights P t).all (· ≤ r) = true → l.length * P.bytesOf te ≤ r ∧ ∀ a ∈ l, Q r a := by
  rcases DataW.trod_slice ht hx with ⟨rfl, rfl⟩ | ⟨a, len, cap, elems, rest, n, _, rfl, rfl, _, hl, hm, hlen, hel, _, _⟩
  · exact ⟨none, 0, [], rfl, RdT.nil _ W, fun r _ => ⟨by simp, fun a ha => by cases ha⟩⟩
  · have each : ∀ i, i ≤ len → ∃ l : List α, l.length = i ∧ ∀ j (hj : j < l.length), W.cells? 0 (a.add (j * P.cellsOf te)) (P.cellsOf te) = some (e.enc l[j]) ∧ ∀ y, elems[j]? = some y → ∀ r, (y.1.weights P te).all (· ≤ r) = true → Q r l[j] := by
      intro i
      induction i with
      | zero => exact fun _ => ⟨[], rfl, fun j hj => by simp at hj⟩
      | succ i ih =>
        intro hi
        obtain ⟨l, hll, hlg⟩ := ih (by omega)
        have := hel i (by omega)
        rw [List.getElem?_eq_getElem (by omega), Option.bind_eq_some_iff] at this
        obtain ⟨cs', h1, h2⟩ := this
        obtain ⟨b, rfl, hb⟩ := h n cs' _ h2
        refine ⟨l ++ [b], by simp [hll], fun j hj => ?_⟩
        by_cases hji : j < l.length
        · rw [List.getElem_append_left hji]
          exact hlg j hji
        · obtain rfl : j = i := by simp at hj; omega
          subst hll
          rw [List.getElem_concat_length rfl]
          refine ⟨h1, fun y hy => ?_⟩
          rw [List.getElem?_eq_getElem (by omega), Option.some.injEq] at hy
          subst hy
          exact hb
    obtain ⟨l, hll, hlg⟩ := each len (Nat.le_refl _)
    subst hll
    refine ⟨some a, cap, l, rfl, ⟨by rw [Vl], hl, hm, fun hn => ?_⟩, fun r hw => ?_⟩
    · have cell : ∀ j (hj : j < l.length) k, k < e.sz → W.cell? ((a.add (j * e.sz)).add k) = (e.enc l[j])[k]? := by
        intro j hj k hk
        have := (hlg j hj).1
        rw [hc] at this
        exact (World.cells?_some this).2.2 k hk
      have c0 := cell 0 hn 0 h0
      rw [Nat.zero_mul, List.getElem?_eq_getElem (by rw [e.len]; exact h0)] at c0
      obtain ⟨b, off, spot⟩ := a
      obtain rfl : spot = none := by simpa [Addr.add] using World.cell?_spot c0
      have hadd : ∀ i j : Nat, ((⟨b, off, none⟩ : Addr).add i).add j = ⟨b, off + (i + j), none⟩ := by
        intro i j
        unfold Addr.add
        by_cases hi : i = 0 <;> by_cases hj : j = 0 <;> simp [hi, hj, Nat.add_assoc]
      rw [hadd] at c0
      refine ⟨b, off, rfl, block_lt_of_cell c0, fun j u hu => ?_⟩
      have hlen2 := (List.getElem?_eq_some_iff.1 hu).1
      rw [Vl] at hlen2
      have hq : j / e.sz < l.length := Nat.div_lt_of_lt_mul (by rw [Nat.mul_comm]; exact hlen2)
      have hk : j % e.sz < e.sz := Nat.mod_lt _ h0
      have hj : j = j / e.sz * e.sz + j % e.sz := by rw [Nat.mul_comm]; exact (Nat.div_add_mod j e.sz).symm
      have hce := cell (j / e.sz) hq (j % e.sz) hk
      rw [hadd, ← hj] at hce
      rw [hce]
      have hgt := Ru e (l := l) (i := j / e.sz) (x := l[j / e.sz]) (List.getElem?_eq_getElem hq) (j := j % e.sz) (u := (e.enc l[j / e.sz])[j % e.sz]'(by rw [e.len]; exact hk)) (List.getElem?_eq_getElem _)
      rw [← hj, hu] at hgt
      rw [List.getElem?_eq_getElem (by rw [e.len]; exact hk), ← hgt]
    · simp only [DataW.weights, ht, List.all_cons, Bool.and_eq_true, decide_eq_true_eq, List.all_append] at hw
      refine ⟨Nat.le_trans (Nat.mul_le_mul_right _ (by simp; omega)) hw.1, fun b hb => ?_⟩
      obtain ⟨j, hj, rfl⟩ := List.mem_iff_getElem.1 hb
      refine (hlg j hj).2 _ (List.getElem?_eq_getElem (by omega)) r ?_
      rw [List.all_eq_true] at hw ⊢
      intro m hm'
      exact hw.2.1 m (Bf (List.mem_map.2 ⟨_, List.getElem_mem (by omega), rfl⟩) hm')
variable {r0 : Reach} {b0 : Nat}
theorem open_agg {t : TypeId} {fs : Array Field} {α : Type} {e : Enc α} {Q : Nat → α → Prop} (hs : P.underlying t = some (.struct fs)) (h : Rds enc P W t e Q) {v : Value} {d : DataW H} {p : List MemPlace} (hv : Value.okWide P W r0 b0 t v)
    (hd : DataW.Trod enc P W 0 (fun _ => true) true t v d p) (hr : ∀ n ∈ d.weights P t, n ≤ reachBytes) : ∃ a, v = .agg ⟨e.enc a⟩ ∧ Q reachBytes a := by
  obtain ⟨cs, rfl, hsz⟩ := okWide_struct hs hv
  obtain ⟨Zd, hf⟩ := hd
  obtain ⟨a, ha, hq⟩ := h Zd _ _ hf
  refine ⟨a, ?_, hq _ (by rw [List.all_eq_true]; intro n hn; exact decide_eq_true (hr n hn))⟩
  simp only [Value.cells] at ha
  rw [← ha]
theorem open_row {t te : TypeId} {α : Type} {e : Enc α} {Q : Nat → α → Prop} (ht : P.underlying t = some (.slice te)) (h : Rds enc P W te e Q) (hc : P.cellsOf te = e.sz) (h0 : 0 < e.sz) {v : Value} {d : DataW H} {p : List MemPlace} (hv : Value.okWide P W r0 b0 t v)
    (hd : DataW.Trod enc P W 0 (fun _ => true) true t v d p) (hr : ∀ n ∈ d.weights P t, n ≤ reachBytes) : ∃ (A : Option Addr) (c : Nat) (l : List α), v = .slice A l.length c ∧ RdT e W A c l ∧ l.length * P.bytesOf te ≤ reachBytes ∧ ∀ a ∈ l, Q reachBytes a := by
  obtain ⟨A, n, c, rfl⟩ := okWide_slice ht hv
  obtain ⟨Zd, hf⟩ := hd
  obtain ⟨A', c', l, hl, hrd, hq⟩ := rds_row ht h hc h0 hf
  simp [Value.cells] at hl
  obtain ⟨rfl, rfl, rfl⟩ := hl
  have := hq reachBytes (by rw [List.all_eq_true]; intro n hn; exact decide_eq_true (hr n hn))
  exact ⟨A, c, l, rfl, hrd, this.1, this.2⟩
end
end Go.Proofs.YtmgfanhcdfobhaaGreatDoor
namespace Go.Proofs.YtmgfanhcdfobhaaGreatDoor
theorem reachM : reachBytes ≤ 140737488355328 := by decide
section
variable {H : Type} {enc : TypeId × Value → H} {P : Program} {W : World}
theorem rds_ds {t te : TypeId} {α : Type} {e : Enc α} {Q : Nat → α → Prop} (p : Dp α) (ht : P.underlying t = some (.slice te)) (h : Rds enc P W te e Q) (hc : P.cellsOf te = e.sz) (h0 : 0 < e.sz) (hb : Nat.ble 1 (P.bytesOf te) = true) (hp : ∀ r a, Q r a → p.ok W a) :
    Rds enc P W t (eDS e) (fun r x => (dDS e p).ok W x ∧ x.2.2.length ≤ r ∧ ∀ a ∈ x.2.2, Q r a) := by
  intro Zd cs x hx
  obtain ⟨A, c, l, rfl, hr, hq⟩ := rds_row ht h hc h0 hx
  refine ⟨(A, c, l), rfl, fun r hw => ?_⟩
  obtain ⟨h1, h2⟩ := hq r hw
  exact ⟨⟨hr, fun y hy => hp r y (h2 y hy)⟩, Nat.le_trans (Nat.le_mul_of_pos_right _ (Nat.le_of_ble_eq_true hb)) h1, h2⟩
def NetQ (r : Nat) (n : Int × Int) : Prop := (Lit.int .u32 n.1).wf = true ∧ (Lit.int .i64 n.2).wf = true
def TokQ (r : Nat) (x : List UInt8 × List UInt8 × Int) : Prop := x.1.length ≤ r ∧ x.2.1.length ≤ r ∧ (Lit.int .i64 x.2.2).wf = true
def TenDQ (W : World) (r : Nat) (y : Vp) : Prop := y.1.length ≤ r ∧ (Lit.int .i64 y.2.1).wf = true ∧ (Lit.int .i64 y.2.2.1).wf = true ∧
  ((dDS eNet dT).ok W y.2.2.2.1 ∧ y.2.2.2.1.2.2.length ≤ r ∧ ∀ n ∈ y.2.2.2.1.2.2, NetQ r n) ∧ ((dDS eTok dT).ok W y.2.2.2.2 ∧ y.2.2.2.2.2.2.length ≤ r ∧ ∀ x ∈ y.2.2.2.2.2.2, TokQ r x)
def CfgQ (W : World) (r : Nat) (c : Int × Int × Int × Int × DS Vp) : Prop := (Lit.int .i64 c.1).wf = true ∧ (Lit.int .i64 c.2.1).wf = true ∧ (Lit.int .i64 c.2.2.1).wf = true ∧ (Lit.int .i64 c.2.2.2.1).wf = true ∧
  ((dDS Nm E2).ok W c.2.2.2.2 ∧ c.2.2.2.2.2.2.length ≤ r ∧ ∀ y ∈ c.2.2.2.2.2.2, TenDQ W r y)
set_option maxRecDepth 100000 in
theorem net_rds : Rds enc Tryz.prog W 113 eNet NetQ :=
  Rs (l := [(111, 0), (3, 1)]) (by kernel_rfl) (by kernel_rfl) (U8 (G0 Tryz.underlying111) (by kernel_rfl) (Ib (G0 Tryz.underlying3) (by kernel_rfl)))
set_option maxRecDepth 100000 in
theorem tok_rds : Rds enc Tryz.prog W 48 eTok TokQ :=
  Rs (l := [(9, 0), (9, 1), (2, 2)]) (by kernel_rfl) (by kernel_rfl) (U8 (Br Tryz.underlying9) (by kernel_rfl) (U8 (Br Tryz.underlying9) (by kernel_rfl) (Ib (G0 Tryz.underlying2) (by kernel_rfl))))
set_option maxRecDepth 100000 in
theorem ten_rds : Rds enc Tryz.prog W 44 Nm (TenDQ W) :=
  Rs (l := [(9, 0), (3, 1), (3, 2), (41, 3), (42, 4)]) (by kernel_rfl) (by kernel_rfl)
    (U8 (Br Tryz.underlying9) (by kernel_rfl) (U8 (G0 Tryz.underlying3) (by kernel_rfl) (U8 (G0 Tryz.underlying3) (by kernel_rfl)
      (U8 (rds_ds dT Tryz.underlying41 net_rds (by kernel_rfl) (by decide) (by kernel_rfl) (fun _ _ _ => trivial)) (by kernel_rfl) (Ib (rds_ds dT Tryz.underlying42 tok_rds (by kernel_rfl) (by decide) (by kernel_rfl) (fun _ _ _ => trivial)) (by kernel_rfl))))))
set_option maxRecDepth 100000 in
theorem cfg_rds : Rds enc Tryz.prog W 24 (Qe (Qc .i64) (Qe (Qc .i64) (Qe (Qc .i64) (Qe (Qc .i64) (eDS Nm))))) (CfgQ W) :=
  Rs (l := [(2, 0), (2, 1), (2, 2), (2, 3), (22, 4)]) (by kernel_rfl) (by kernel_rfl)
    (U8 (G0 Tryz.underlying2) (by kernel_rfl) (U8 (G0 Tryz.underlying2) (by kernel_rfl) (U8 (G0 Tryz.underlying2) (by kernel_rfl) (U8 (G0 Tryz.underlying2) (by kernel_rfl)
      (Ib (rds_ds E2 Tryz.underlying22 ten_rds (by kernel_rfl) (by decide) (by kernel_rfl) (fun _ _ h => ⟨trivial, trivial, trivial, h.2.2.2.1.1, h.2.2.2.2.1⟩)) (by kernel_rfl))))))
set_option maxRecDepth 100000 in
theorem open_cfg {r0 : Reach} {b0 : Nat} {v : Value} {d : DataW H} {p : List MemPlace} (hv : Value.okWide Tryz.prog W r0 b0 24 v) (hd : DataW.Trod enc Tryz.prog W 0 (fun _ => true) true 24 v d p) (hr : ∀ n ∈ d.weights Tryz.prog 24, n ≤ reachBytes) :
    ∃ (a b c e : Int) (A : Option Addr) (k : Nat) (l : List Vp), v = .agg #[.int .i64 a, .int .i64 b, .int .i64 c, .int .i64 e, .slice A (List.length (List.map stT l)) k] ∧ CfgQ W reachBytes (a, b, c, e, A, k, l) := by
  obtain ⟨⟨a, b, c, e, A, k, l⟩, rfl, q⟩ := open_agg Tryz.underlying24 cfg_rds hv hd hr
  refine ⟨a, b, c, e, A, k, l, ?_, q⟩
  rw [List.length_map]
  rfl
theorem cfg_q {W : World} {a b c d : Int} {A : Option Addr} {k : Nat} {x : List Vp} (h : CfgQ W reachBytes (a, b, c, d, A, k, x)) : (List.map stT x).length ≤ 140737488355328 ∧ ∀ t ∈ List.map stT x, TenQ t := by
  have hM := reachM
  obtain ⟨_, _, _, _, _, h1, h2⟩ := h
  refine ⟨by rw [List.length_map]; exact Nat.le_trans h1 hM, fun t ht => ?_⟩
  obtain ⟨y, hy, rfl⟩ := List.mem_map.1 ht
  obtain ⟨q1, q2, q3, ⟨_, q4, q5⟩, _, q6, q7⟩ := h2 y hy
  refine ⟨Nat.le_trans q1 hM, Nat.le_trans q4 hM, Nat.le_trans q6 hM, fun n hn => ?_, fun z hz => ⟨Nat.le_trans (q7 z hz).1 hM, Nat.le_trans (q7 z hz).2.1 hM⟩⟩
  have := (q5 n hn).1
  simp [Lit.wf, IntKind.min, IntKind.max, IntKind.signed, IntKind.bits] at this
  omega
end
end Go.Proofs.YtmgfanhcdfobhaaGreatDoor
namespace Go.Proofs.YtmgfanhcdfobhaaGreatDoor
def OpVW (r : Nat) (o : OpV) : Prop := (Lit.int .i64 o.1).wf = true ∧ o.2.1.length ≤ r ∧ o.2.2.1.length ≤ r ∧ o.2.2.2.1.length ≤ r ∧ o.2.2.2.2.1.length ≤ r ∧ (Lit.int .i64 o.2.2.2.2.2).wf = true
section
variable {H : Type} {enc : TypeId × Value → H} {W : World}
set_option maxRecDepth 100000 in
theorem opv_rds : Rds enc Tryz.prog W 34 (Qe (Qc .i64) (Qe Qw (Qe Qw (Qe Qw (Qe Qw (Qc .i64)))))) OpVW :=
  Rs (l := [(3, 0), (9, 1), (9, 2), (9, 3), (9, 4), (2, 5)]) (by kernel_rfl) (by kernel_rfl)
    (U8 (G0 Tryz.underlying3) (by kernel_rfl) (U8 (Br Tryz.underlying9) (by kernel_rfl) (U8 (Br Tryz.underlying9) (by kernel_rfl) (U8 (Br Tryz.underlying9) (by kernel_rfl)
      (U8 (Br Tryz.underlying9) (by kernel_rfl) (Ib (G0 Tryz.underlying2) (by kernel_rfl)))))))
theorem opv_q {l : List OpV} (hl : l.length ≤ reachBytes) (h : ∀ o ∈ l, OpVW reachBytes o) : l.length ≤ 140737488355328 ∧ ∀ o ∈ l, OpVQ o := by
  have hM := reachM
  refine ⟨Nat.le_trans hl hM, fun o ho => ?_⟩
  obtain ⟨q1, q2, q3, q4, q5, q6⟩ := h o ho
  exact ⟨Nat.le_trans q2 hM, Nat.le_trans q3 hM, Nat.le_trans q4 hM, Nat.le_trans q5 hM⟩
end
end Go.Proofs.YtmgfanhcdfobhaaGreatDoor
namespace Go.Proofs.YtmgfanhcdfobhaaGreatDoor
open Go.RowKit
abbrev Ky : List (String × DataW Unit) := [("math/bits.deBruijn32tab", Rows.laid_math_bits_deBruijn32tab), ("math/bits.deBruijn64tab", Rows.laid_math_bits_deBruijn64tab), ("internal/strconv.uint64pow10", Rows.laid_internal_strconv_uint64pow10)
  , ("unicode/utf8.acceptRanges", Rows.laid_unicode_utf8_acceptRanges), ("unicode/utf8.first", Rows.laid_unicode_utf8_first)
  ]
theorem gTab : Tryz.prog.globalNamed Dw = some 0 := by kernel_rfl
theorem gTabType : (Tryz.prog.globals[0]?).map (·.type) = some 183 := by kernel_rfl
theorem cellsTab : Tryz.prog.cellsOf 183 = 20 := by kernel_rfl
theorem cellsU64 : Tryz.prog.cellsOf 153 = 1 := by kernel_rfl
theorem laid_of {W : World} (h : laidMetH Tryz.prog Ky W) : B0 W := by
  have h1 := h.filter (fun x => x.1 == Dw)
  have e : Ky.filter (fun x => x.1 == Dw) = [(Dw, Lib.tabData .u64 Lib.pow10Tab)] := by kernel_rfl
  rw [e] at h1
  have ht : Lib.TabIs Tryz.prog W Dw .u64 Lib.pow10Tab := Lib.tabIs_of_head (rest := []) gTab gTabType Tryz.underlying183 Tryz.underlying153 cellsU64 cellsTab h1
  refine ⟨ht, fun g hg => ?_⟩
  obtain rfl := Option.some.inj (gTab.symm.trans hg)
  have := ht.cell gTab 0 (by decide)
  exact block_lt_of_cell this
def cells1 : DataW Unit → List Value
  | .lit (.int k z) => [.int k z]
  | .lit (.bool b) => [.bool b]
  | _ => []
def cells2 : DataW Unit → List Value
  | .agg l => l.flatMap cells1
  | d => cells1 d
def cells3 : DataW Unit → List Value
  | .agg l => l.flatMap cells2
  | d => cells2 d
def Ce (d : DataW Unit) : Obj → Obj
  | .cells _ t frozen => .cells (cells3 d).toArray t frozen
  | o => o
noncomputable def E0 (os : Os) : World :=
  { World.holding Tryz.prog os ⟨#[], #[], []⟩ with heap := ((((World.holding Tryz.prog os ⟨#[], #[], []⟩).heap.modify 4 (Ce Rows.laid_math_bits_deBruijn32tab)).modify 5 (Ce Rows.laid_math_bits_deBruijn64tab)).modify 0 (Ce Rows.laid_internal_strconv_uint64pow10)
    |>.modify 2 (Ce Rows.laid_unicode_utf8_acceptRanges) |>.modify 1 (Ce Rows.laid_unicode_utf8_first)
    ) }
end Go.Proofs.YtmgfanhcdfobhaaGreatDoor
