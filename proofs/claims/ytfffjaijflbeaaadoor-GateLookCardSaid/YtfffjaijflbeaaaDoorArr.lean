/- ARRAYS in blocks of their own, as lists; copy; make; over any program. -/
import Derived.Test.YtfffjaijflbeaaaDoorObj
import Derived.Laws.OwnMore
namespace Go.Proofs.YtfffjaijflbeaaaDoor
set_option linter.unusedSimpArgs false
set_option linter.unusedVariables false
open Go.RowKit
section
variable {α : Type} {e : Enc α} {t t' : TypeId} {g m : Nat} {l : List α} {w w' w0 : World} {S : List Nat} {es : List Ent}
/-- an array in a block of its own -/
def arrE (t : TypeId) (e : Enc α) (g m : Nat) (l : List α) : Ent :=
  ⟨[g], fun w => l.length = m ∧ m ≤ maxLen ∧ w.heap[g]? = some (.cells (cellsOf e l).toArray t (0, 0)), fun w w' h hk => ⟨hk.1, hk.2.1, by rw [h g (by simp)]; exact hk.2.2⟩⟩
theorem arrE_len (h : (arrE t e g m l).ok w) : l.length = m := h.1
theorem arrE_rd (h : (arrE t e g m l).ok w) : RdT e w (some ⟨g, 0, none⟩) m l := by
  obtain ⟨h1, h2, h3⟩ := h
  refine ⟨cellsOf_length e l, by omega, h2, fun _ => ⟨g, 0, rfl, (Array.getElem?_eq_some_iff.1 h3).1, fun j u hu => ?_⟩⟩
  rw [Nat.zero_add, cell_of_row w g j _ t (0, 0) h3]
  simpa using hu
theorem SP.pushArr {cs : Array Value} (h : SP S w0 w es) (hc : cs = (cellsOf e l).toArray) (hl : l.length = m) (hm : m ≤ maxLen) : SP S w0 (w.alloc (.cells cs t)) (es ++ [arrE t e w.heap.size m l]) := by
  subst hc
  refine h.push ((Below.refl _ _).alloc (Nat.le_refl _) _) ⟨hl, hm, heap_alloc_new w _⟩ fun k hk => ?_
  have : k = w.heap.size := by simpa [arrE] using hk
  subst this
  simp
theorem SP.setArr {i : Nat} {l' : List α} (h : SP S w0 w es) (hi : es[i]? = some (arrE t e g m l)) (hl : l'.length = m) {cs : Array Value} (hc : cs = (cellsOf e l').toArray) : SP S w0 (w.setRow g cs) (es.set i (arrE t e g m l')) := by
  subst hc
  obtain ⟨h1, h2, h3⟩ := h.get hi
  have hlt : g < w.heap.size := (Array.getElem?_eq_some_iff.1 h3).1
  refine h.set hi (Mod.setRow w g _) (fun k hk => hk) ⟨hl, h2, setRow_heap w g _ _ t (0, 0) h3⟩ fun k hk => ⟨.inl hk, ?_⟩
  have : k = g := by simpa [arrE] using hk
  subst this
  simpa [World.setRow] using hlt
/-- what a copy makes of an array -/
def cpy (l : List α) (lo dl : Nat) (x : List α) : List α := l.take lo ++ x.take dl ++ l.drop (lo + min dl x.length)
theorem cpy_length {lo dl : Nat} {x : List α} (h : lo + dl ≤ l.length) : (cpy l lo dl x).length = l.length := by
  unfold cpy
  simp only [List.length_append, List.length_take, List.length_drop]
  omega
end
section
variable {P : Program} {n : Nat} {Q : Post} {ρ : Fr} {w w0 : World} {B : Code} {p : List Bool} {k : Nat} {d : Option Nat} {S : List Nat} {es : List Ent} {K : Fr → World → Prop}
variable {α : Type} {e : Enc α} {l : List α} {t t' : TypeId} {g m : Nat}
theorem Step.allocA {z : Value} (ho : opAt (codeAt B p) k ρ = some (.alloc t, d)) (hd : dstOk n d = true) (hz : (P.info? t).bind (·.zero) = some z) (hc : z.cells = (cellsOf e l).toArray) (hl : l.length = m) (hm : Nat.ble m 2147483648 = true) (hs : SP S w0 w es)
    (next : ∀ (g : Nat) (w' : World), SP S w0 w' (es ++ [arrE t e g m l]) → K (updO ρ d (.pointer (some ⟨g, 0, none⟩))) w') : Step P n B p k K ρ w := by
  refine Step.val ho hd (v := .pointer (some ⟨w.heap.size, 0, none⟩)) (w' := w.alloc (.cells z.cells t)) (fun o hop => ?_) (next _ _ (hs.pushArr hc hl (max_of_chk hm)))
  unfold execOp; rw [hop]
  cases hi : P.info? t with
  | none => rw [hi] at hz; cases hz
  | some i =>
    rw [hi] at hz
    have hz : i.zero = some z := hz
    have hzv : (zeroValue t).run P w = .ok z w := by simp [zeroValue, typeInfo, hi, hz]
    simp only [Instr.alloc, Sem.run_bind, hzv, Result.andThen_ok]
    rfl
theorem Step.boxA {x : Operand} (ho : opAt (codeAt B p) k ρ = some (.box t x, d)) (hd : dstOk n d = true) (hv : opv ρ x = .agg (cellsOf e l).toArray) (hl : l.length = m) (hm : Nat.ble m 2147483648 = true) (hs : SP S w0 w es)
    (next : ∀ (g : Nat) (w' : World), SP S w0 w' (es ++ [arrE t e g m l]) → K (updO ρ d (.pointer (some ⟨g, 0, none⟩))) w') : Step P n B p k K ρ w := by
  refine Step.val ho hd (v := .pointer (some ⟨w.heap.size, 0, none⟩)) (w' := w.alloc (.cells (opv ρ x).cells t)) (fun o hop => ?_) (next _ _ (hs.pushArr (by rw [hv]; rfl) hl (max_of_chk hm)))
  unfold execOp; rw [hop]; rfl
theorem Step.loadA {x : Operand} {i : Nat} (ho : opAt (codeAt B p) k ρ = some (.load t x, d)) (hd : dstOk n d = true) (hv : opv ρ x = .pointer (some ⟨g, 0, none⟩)) (hs : SP S w0 w es) (hi : es[i]? = some (arrE t' e g m l))
    (ht : (P.underlying t).map aggD = some true) (hz : (P.info? t).map (·.size) = some (m * e.sz)) (next : K (updO ρ d (.agg (cellsOf e l).toArray)) w) : Step P n B p k K ρ w := by
  have hok := hs.get hi
  refine Step.cells ho hd hv ht (by rw [cellsOf_length, arrE_len hok]; exact hz) (fun j u hu => ?_) next
  rw [Nat.zero_add, cell_of_row w g j _ t' (0, 0) hok.2.2]
  simpa using hu
theorem Step.storeA {x y : Operand} {i : Nat} {l' : List α} (ho : opAt (codeAt B p) k ρ = some (.store t x y, d)) (hd : dstOk n d = true) (hx : opv ρ x = .pointer (some ⟨g, 0, none⟩)) (hy : opv ρ y = .agg (cellsOf e l').toArray)
    (hl : l'.length = m) (hs : SP S w0 w es) (hi : es[i]? = some (arrE t' e g m l)) (hz : (P.info? t).map (·.size) = some (m * e.sz))
    (next : ∀ w' : World, SP S w0 w' (es.set i (arrE t' e g m l')) → K (updO ρ d undef) w') : Step P n B p k K ρ w := by
  obtain ⟨h1, h2, h3⟩ := hs.get hi
  have hcs : (opv ρ y).cells = (cellsOf e l').toArray := by rw [hy]; rfl
  refine Step.nov ho hd (w' := w.setRow g (cellsOf e l').toArray) (fun o hop => ?_) (next _ (hs.setArr hi hl rfl))
  cases hi' : P.info? t with
  | none => rw [hi'] at hz; cases hz
  | some ii =>
    rw [hi'] at hz
    have hz : ii.size = m * e.sz := by simpa using hz
    have hsz : (sizeOf t).run P w = .ok (m * e.sz) w := by simp [sizeOf, typeInfo, hi', hz]
    have hst := run_storeCells_at P g 0 t' (cellsOf e l') 0 (cellsOf e l).toArray w h3 (by simp [cellsOf_length, hl, h1]) (cellsOf_one e l')
    have hd0 : (cellsOf e l).drop (0 + 0 + (cellsOf e l').length) = [] := List.drop_of_length_le (by simp [cellsOf_length, hl, h1])
    simp only [hd0, Nat.add_zero, List.take_zero, List.nil_append, List.append_nil] at hst
    unfold execOp; rw [hop]
    have hsize : (opv ρ y).cells.size = m * e.sz := by rw [hcs]; simp [cellsOf_length, hl]
    simp only [hx, Instr.storeAt, Instr.sureAddr, Sem.run_bind, Sem.run_pure, Result.andThen_ok, storeVar, hsz, hsize, ne_eq, not_true_eq_false, if_false]
    rw [hcs]
    simp only [hst, Result.andThen_ok]
theorem Step.elemA {T E : TypeId} {x ix : Operand} {ki : IntKind} {iz : Int} {i : Nat} (ho : opAt (codeAt B p) k ρ = some (.indexAddr T x ix, d)) (hd : dstOk n d = true)
    (hx : opv ρ x = .pointer (some ⟨g, 0, none⟩)) (hix : opv ρ ix = .int ki iz) (hT : P.underlying T = some (.array m E)) (hE : (P.info? E).map (·.size) = some e.sz) (hs : SP S w0 w es) (hi : es[i]? = some (arrE t' e g m l)) (h0 : 0 ≤ iz) (h1 : iz < (l.length : Int))
    (next : K (updO ρ d (.pointer (some ⟨g, 0 + iz.toNat * e.sz, none⟩))) w) : Step P n B p k K ρ w := by
  have hl := arrE_len (hs.get hi)
  refine Step.val ho hd (fun o hop => ?_) next
  cases hi' : P.info? E with
  | none => rw [hi'] at hE; cases hE
  | some ii =>
    rw [hi'] at hE
    have hE : ii.size = e.sz := by simpa using hE
    have hsz : (sizeOf E).run P w = .ok e.sz w := by simp [sizeOf, typeInfo, hi', hE]
    rw [hl] at h1
    unfold execOp; rw [hop]
    simp only [hx, hix, Sem.run_bind, Instr.indexAt, asIntOf, Sem.run_pure, Result.andThen_ok, run_underlying hT, Instr.sureAddr]
    simp [h0, h1, hsz, add_lit]
theorem Step.storeElemA {x y : Operand} {iz : Int} {v : Value} {x' : α} {i b off : Nat} (ho : opAt (codeAt B p) k ρ = some (.store t x y, d)) (hd : dstOk n d = true) (hA : some (⟨g, 0, none⟩ : Addr) = some ⟨b, off, none⟩) (hx : opv ρ x = .pointer (some ⟨b, off + iz.toNat * e.sz, none⟩)) (hy : opv ρ y = v)
    (hs : SP S w0 w es) (hi : es[i]? = some (arrE t' e g m l)) (hz : e.sz = 1) (h1 : iz < (l.length : Int)) (h0 : 0 ≤ iz) (hv : e.enc x' = [v]) (ht : (P.info? t).map (·.size) = some 1)
    (next : ∀ w' : World, SP S w0 w' (es.set i (arrE t' e g m (l.set iz.toNat x'))) → K (updO ρ d undef) w') : Step P n B p k K ρ w := by
  subst hy
  injection hA with hA
  injection hA with hA1 hA2
  subst hA1 hA2
  obtain ⟨hl, h2, h3⟩ := hs.get hi
  have hlt : iz.toNat < l.length := by omega
  have hlen := cellsOf_length e l
  rw [hz, Nat.mul_one] at hlen
  have hone := e.one x' (opv ρ y) (by rw [hv]; simp)
  have hset : (cellsOf e l).take iz.toNat ++ [opv ρ y] ++ (cellsOf e l).drop (iz.toNat + 1) = cellsOf e (l.set iz.toNat x') := by
    have := cellsOf_set e l iz.toNat x' hlt
    rw [hz, Nat.mul_one, hv] at this
    exact this
  have hst := run_storeCells_at P g iz.toNat t' [opv ρ y] 0 (cellsOf e l).toArray w h3 (by simp; omega) (by intro v hv; simp at hv; subst hv; exact hone)
  refine Step.nov ho hd (w' := w.setRow g (cellsOf e (l.set iz.toNat x')).toArray) (fun o hop => ?_) (next _ (hs.setArr hi (by simpa using hl) rfl))
  have hcs : (opv ρ y).cells = #[opv ρ y] := by
    cases hvv : opv ρ y <;> first | rfl | (rw [hvv] at hone; cases hone)
  cases hi' : P.info? t with
  | none => rw [hi'] at ht; cases ht
  | some ii =>
    rw [hi'] at ht
    have ht : ii.size = 1 := by simpa using ht
    have hsz : (sizeOf t).run P w = .ok 1 w := by simp [sizeOf, typeInfo, hi', ht]
    unfold execOp; rw [hop]
    rw [hz, Nat.zero_add, Nat.mul_one] at hx
    simp only [Nat.add_zero, List.length_cons, List.length_nil, Nat.zero_add, hset] at hst
    simp only [hx, Instr.storeAt, Instr.sureAddr, Sem.run_bind, Sem.run_pure, Result.andThen_ok, storeVar, hsz, hcs]
    simp [hst]
theorem run_boundsA {cap : Nat} {lo hi : Option Value} {i j : Nat} (hlo : lo = none ∧ i = 0 ∨ ∃ kk, lo = some (.int kk (i : Int))) (hhi : hi = none ∧ j = cap ∨ ∃ kk, hi = some (.int kk (j : Int))) (hij : i ≤ j) (hj : j ≤ cap) (w : World) :
    (Instr.sliceBounds false cap cap lo hi none).run P w = .ok (i, j, cap) w := run_bounds hlo hhi hij hj (Nat.le_refl _) w
theorem Step.sliceA {T E : TypeId} {x : Operand} {lo hi : Option Operand} {i j : Int} {l' : List α} {q : Nat} (ho : opAt (codeAt B p) k ρ = some (.slice T x lo hi none, d)) (hd : dstOk n d = true)
    (hx : opv ρ x = .pointer (some ⟨g, 0, none⟩)) (hT : P.underlying T = some (.array m E)) (hE : (P.info? E).map (·.size) = some e.sz) (hlo : BoundI ρ lo i 0) (hhi : BoundI ρ hi j l.length) (hs : SP S w0 w es) (hq : es[q]? = some (arrE t' e g m l))
    (h0 : 0 ≤ i) (h1 : i ≤ j) (h2 : j ≤ (l.length : Int)) (hy : (l.take j.toNat).drop i.toNat = l')
    (next : K (updO ρ d (.slice (cutA e.sz m i.toNat (some ⟨g, 0, none⟩)) l'.length (m - i.toNat))) w) : Step P n B p k K ρ w := by
  subst hy
  have hl0 := arrE_len (hs.get hq)
  have hl : ((l.take j.toNat).drop i.toNat).length = j.toNat - i.toNat := by simp; omega
  rw [hl] at next
  refine Step.val ho hd (v := .slice (cutA e.sz m i.toNat (some ⟨g, 0, none⟩)) (j.toNat - i.toNat) (m - i.toNat)) (fun o hop => ?_) next
  unfold execOp; rw [hop]
  cases hi' : P.info? E with
  | none => rw [hi'] at hE; cases hE
  | some ii =>
    rw [hi'] at hE
    have hE : ii.size = e.sz := by simpa using hE
    have hsz : ∀ w, (sizeOf E).run P w = .ok e.sz w := fun w => by simp [sizeOf, typeInfo, hi', hE]
    have hb := run_boundsA (P := P) (cap := m) (lo := lo.map (opv ρ)) (hi := hi.map (opv ρ)) (i := i.toNat) (j := j.toNat)
      (by
        cases lo with
        | none => exact .inl ⟨rfl, by have : i = 0 := hlo; omega⟩
        | some y => obtain ⟨kk, hh⟩ := hlo; exact .inr ⟨kk, by rw [Option.map_some, hh, Int.toNat_of_nonneg h0]⟩)
      (by
        cases hi with
        | none => exact .inl ⟨rfl, by have : j = (l.length : Int) := hhi; omega⟩
        | some y => obtain ⟨kk, hh⟩ := hhi; exact .inr ⟨kk, by rw [Option.map_some, hh, Int.toNat_of_nonneg (by omega)]⟩)
      (by omega) (by omega) w
    simp only [hx, Instr.sliceAt, Sem.run_bind, run_underlying hT, Result.andThen_ok, Instr.sureAddr, Sem.run_pure, Option.map_none, hb, hsz]
    congr 3
    unfold cutA
    split <;> rfl
theorem Step.sliceA0 {T E : TypeId} {x : Operand} {q : Nat} (ho : opAt (codeAt B p) k ρ = some (.slice T x none none none, d)) (hd : dstOk n d = true)
    (hx : opv ρ x = .pointer (some ⟨g, 0, none⟩)) (hT : P.underlying T = some (.array m E)) (hE : (P.info? E).map (·.size) = some e.sz) (hs : SP S w0 w es) (hq : es[q]? = some (arrE t' e g m l))
    (next : K (updO ρ d (.slice (some ⟨g, 0, none⟩) l.length m)) w) : Step P n B p k K ρ w := by
  have hl := arrE_len (hs.get hq)
  refine Step.sliceA (l' := l) ho hd hx hT hE (i := 0) (j := (l.length : Int)) rfl rfl hs hq (by omega) (by omega) (by omega) (by simp) ?_
  have : cutA e.sz m (0 : Int).toNat (some ⟨g, 0, none⟩) = some ⟨g, 0, none⟩ := by
    unfold cutA
    split
    · rfl
    · simp [add_lit]
  rw [this]
  exact next
theorem cut_off {sz c lo : Nat} (h : lo < c) : cutA sz c lo (some ⟨g, 0, none⟩) = some ⟨g, lo * sz, none⟩ := by
  unfold cutA
  rw [if_neg (by omega)]
  simp [add_lit]
theorem cut_whole {sz : Nat} (e0 : Nat) : e0 = 0 ∨ some (⟨g, 0, none⟩ : Addr) = some ⟨g, 0 * sz, none⟩ := .inr (by rw [Nat.zero_mul])
theorem cut_whole0 {sz dl : Nat} : dl = 0 ∨ some (⟨g, 0, none⟩ : Addr) = some ⟨g, 0 * sz, none⟩ := .inr (by rw [Nat.zero_mul])
theorem cut_hA {i j : Int} {l' : List α} (hl : l.length = m) (h0 : 0 ≤ i) (h1 : i ≤ j) (h2 : j ≤ (l.length : Int)) (hy : (l.take j.toNat).drop i.toNat = l') : l'.length = 0 ∨ cutA e.sz m i.toNat (some ⟨g, 0, none⟩) = some ⟨g, i.toNat * e.sz, none⟩ := by
  subst hy
  by_cases h : i.toNat < m
  · exact .inr (cut_off h)
  · left
    simp
    omega
theorem cut_dl {i j : Int} {l' : List α} (h0 : 0 ≤ i) (h1 : i ≤ j) (h2 : j ≤ (l.length : Int)) (hy : (l.take j.toNat).drop i.toNat = l') : i.toNat + l'.length ≤ l.length := by
  subst hy
  simp
  omega
theorem rv_cellA {a : Nat} (h : ρ a = .pointer (some ⟨g, 0, none⟩)) (hok : (arrE t' e g m l).ok w) (ht : (P.underlying t).map aggD = some true) (hz : (P.info? t).map (·.size) = some (m * e.sz)) : (rvS ρ (.cell a t)).run P w = .ok (.agg (cellsOf e l).toArray) w := by
  simp only [rvS, h, asAddr, Sem.run_bind, Sem.run_pure, Result.andThen_ok]
  cases hu : P.underlying t with
  | none => rw [hu] at ht; cases ht
  | some dd =>
    rw [hu] at ht
    have ht : aggD dd = true := by simpa using ht
    have hagg : (isAgg t).run P w = .ok true w := by
      rw [← ht]
      simp only [isAgg, Sem.run_bind, run_underlying hu, Result.andThen_ok]
      cases dd <;> rfl
    cases hi : P.info? t with
    | none => rw [hi] at hz; cases hz
    | some i =>
      rw [hi] at hz
      have hz : i.size = m * e.sz := by simpa using hz
      have hsz : (sizeOf t).run P w = .ok (cellsOf e l).length w := by rw [cellsOf_length, arrE_len hok]; simp [sizeOf, typeInfo, hi, hz]
      have hload := run_loadCells_list (P := P) w ⟨g, 0, none⟩ (cellsOf e l) (fun j u hu => by
        rw [add_lit, Nat.zero_add, cell_of_row w g j _ t' (0, 0) hok.2.2]
        simpa using hu)
      simp only [loadVar, Sem.run_bind, hagg, Result.andThen_ok, if_true, hsz, hload, Sem.run_pure]
/-- copy into an array's part, of elements of one cell -/
theorem Step.copyA {T T2 E : TypeId} {x y : Operand} {i lo dl dc c2 : Nat} {A A2 : Option Addr} {y' l' : List α} (ho : opAt (codeAt B p) k ρ = some (.call { callee := .builtin .copy, args := #[x, y], argTypes := #[T, T2] }, d)) (hd : dstOk n d = true)
    (hx : opv ρ x = .slice A dl dc) (hy : opv ρ y = .slice A2 y'.length c2) (hT : P.underlying T = some (.slice E)) (hE : (P.info? E).map (·.size) = some 1) (hz : e.sz = 1)
    (hs : SP S w0 w es) (hi : es[i]? = some (arrE t' e g m l)) (hA : dl = 0 ∨ A = some ⟨g, lo * e.sz, none⟩) (hdl : lo + dl ≤ l.length) (hr : RdT e w A2 c2 y') (hq : cpy l lo dl y' = l')
    (next : ∀ w' : World, SP S w0 w' (es.set i (arrE t' e g m l')) → l'.length = l.length → K (updO ρ d (.int .i64 (min (y'.length : Int) (dl : Int)))) w') : Step P n B p k K ρ w := by
  subst hq
  obtain ⟨hl, h2, h3⟩ := hs.get hi
  have hcl := cpy_length (l := l) (x := y') hdl
  have hcells : cellsOf e (cpy l lo dl y') = (cellsOf e l).take lo ++ (cellsOf e y').take dl ++ (cellsOf e l).drop (lo + min dl y'.length) := by
    have h1 := cellsOf_take e l lo
    have h2 := cellsOf_take e y' dl
    have h3 := cellsOf_drop e l (lo + min dl y'.length)
    rw [hz, Nat.mul_one] at h1 h2 h3
    rw [h1, h2, h3]
    unfold cpy
    rw [cellsOf_append, cellsOf_append]
  have hlen2 := cellsOf_length e y'
  have hlen1 := cellsOf_length e l
  rw [hz, Nat.mul_one] at hlen1 hlen2
  have hnum : goInt (Nat.min y'.length dl) = .int .i64 (min (y'.length : Int) (dl : Int)) := by
    show Value.int .i64 _ = _
    congr 1
    show ((min y'.length dl : Nat) : Int) = _
    omega
  by_cases h0 : Nat.min y'.length dl = 0
  · have hsame : cpy l lo dl y' = l := by
      unfold cpy
      have h0' : min dl y'.length = 0 := by have : min y'.length dl = 0 := h0; omega
      rw [h0', Nat.add_zero]
      have : y'.take dl = [] := by
        apply List.eq_nil_of_length_eq_zero
        rw [List.length_take]; exact h0'
      rw [this, List.append_nil, List.take_append_drop]
    have hrun := run_copy_none (P := P) w T T2
    refine Step.val ho hd (v := .int .i64 (min (y'.length : Int) (dl : Int))) (w' := w) (fun o hop => ?_) (next w ?_ hcl)
    · unfold execOp; rw [hop]
      simp only [resolve, Sem.run_bind, Sem.run_pure, Result.andThen_ok, invoke, builtin, List.map_toArray, List.map_cons, List.map_nil, hx, hy]
      rw [hrun o.type E A A2 dl dc y'.length c2 hT hE h0]
      simp [Result.andThen, ← hnum, h0]
    · have : es.set i (arrE t' e g m (cpy l lo dl y')) = es := by
        rw [hsame]
        apply List.ext_getElem?
        intro j
        rw [List.getElem?_set]
        split
        · rename_i hij; subst hij
          split
          · exact hi.symm
          · rename_i hge; rw [List.getElem?_eq_none (by omega)]
        · rfl
      rw [this]
      exact hs
  · have h0' : min y'.length dl ≠ 0 := h0
    rcases hA with hA | hA
    · omega
    · obtain ⟨_, _, _, h4⟩ := hr
      obtain ⟨b, off, hA2, hb, hc⟩ := h4 (by omega)
      subst hA hA2
      have htl : ((cellsOf e y').take dl).length = Nat.min y'.length dl := by rw [List.length_take, hlen2]; show min dl y'.length = min y'.length dl; omega
      have hrun := fun ty => run_copy_row (P := P) w T T2 ty E g (lo * e.sz) dl dc ⟨b, off, none⟩ y'.length c2 (cellsOf e l).toArray t' ((cellsOf e y').take dl) hT hE h3 htl
        (fun j v hj => by
          rw [add_lit]
          rw [List.getElem?_take] at hj
          split at hj
          · exact hc j v hj
          · cases hj) (by rw [htl, hz, Nat.mul_one]; simp only [List.size_toArray, hlen1]; show lo + min y'.length dl ≤ l.length; omega) (fun v hv => cellsOf_one e y' v (List.mem_of_mem_take hv))
      refine Step.val ho hd (v := .int .i64 (min (y'.length : Int) (dl : Int))) (w' := w.setRow g (cellsOf e (cpy l lo dl y')).toArray) (fun o hop => ?_) (next _ (hs.setArr hi (by rw [hcl]; exact hl) rfl) hcl)
      unfold execOp; rw [hop]
      simp only [resolve, Sem.run_bind, Sem.run_pure, Result.andThen_ok, invoke, builtin, List.map_toArray, List.map_cons, List.map_nil, hx, hy]
      rw [hrun o.type, htl, ← hnum, hcells, hz, Nat.mul_one]
      have : min dl y'.length = Nat.min y'.length dl := by show min dl y'.length = min y'.length dl; omega
      rw [this]
      rfl
/-- append behind an array that is full: a new row, or the array itself -/
theorem Step.appendA {T TX E : TypeId} {s x : Operand} {b i : Nat} {vx : Value} {y l' : List α} (ho : opAt (codeAt B p) k ρ = some (.call { callee := .builtin .append, args := #[s, x], argTypes := #[T, TX] }, d)) (hd : dstOk n d = true)
    (hv : opv ρ s = .slice (some ⟨g, 0, none⟩) l.length m) (hx : opv ρ x = vx) (hT : P.underlying T = some (.slice E)) (hE : (P.info? E).map (fun i => (i.zero.map (·.cells.size), i.size, i.bytes)) = some (some e.sz, e.sz, b)) (hb : (Nat.ble 1 e.sz && Nat.ble b 65536) = true)
    (hs : SP S w0 w es) (hi : es[i]? = some (arrE t' e g m l)) (hsrc : Src P e.sz TX vx y.length (cellsOf e y) w) (hlen : l.length + y.length ≤ 2147483648) (hq : l ++ y = l')
    (next : ∀ (A' : Option Addr) (c' : Nat) (w' : World), SP S w0 w' es → RdT e w' A' c' l' → K (updO ρ d (.slice A' l'.length c')) w') : Step P n B p k K ρ w := by
  subst hx hq
  obtain ⟨i0, z, hi0, hz0, hz1, hz2, hz3⟩ := info_split hE
  simp only [Bool.and_eq_true] at hb
  have hb1 := Nat.le_of_ble_eq_true hb.1
  have hb2 := Nat.le_of_ble_eq_true hb.2
  have hbytes : (l.length + y.length) * b ≤ 140737488355328 := Nat.le_trans (Nat.mul_le_mul hlen hb2) (by omega)
  have hok := hs.get hi
  obtain ⟨hl, h2, h3⟩ := hok
  have hrd : RdT e w (some ⟨g, 0, none⟩) m l := arrE_rd ⟨hl, h2, h3⟩
  obtain ⟨o0, ho0, _⟩ := opAt_spec ho
  rcases Nat.eq_zero_or_pos y.length with h0 | h0
  · have : y = [] := List.eq_nil_of_length_eq_zero h0
    subst this
    rw [List.append_nil] at next
    refine Step.val ho hd (v := .slice (some ⟨g, 0, none⟩) l.length m) (w' := w) (fun o hop => ?_) (next _ _ _ hs hrd)
    have hh1 := hsrc.len w
    have hh2 : (Builtin.firstCells i0.size 0 (opv ρ x)).run P w = .ok #[] w := by rw [hz1]; exact hsrc.cells
    have hh1 : (Builtin.lenOf (opv ρ x)).run P w = .ok 0 w := hh1
    have hrun : ∀ ty, (Builtin.append_ #[T, TX] ty #[.slice (some ⟨g, 0, none⟩) l.length m, opv ρ x]).run P w = .ok (.slice (some ⟨g, 0, none⟩) l.length m) w := by
      intro ty
      rcases hsrc.kind with ⟨e', hk⟩ | hk <;> simp [Builtin.append_, run_underlying hT, run_underlying hk, sizeOf, typeInfo, hi0, hh1, hh2, storeCells, hl, cellsOf]
    unfold execOp; rw [hop]
    simp [resolve, invoke, builtin, hv, hrun, Result.andThen]
  · have hxs : ∀ j u, (cellsOf e l)[j]? = some u → w.drew.cell? ((⟨g, 0, none⟩ : Addr).add j) = some u := by
      intro j u hu
      rw [add_lit, Nat.zero_add]
      refine (cell_of_row w.drew g j _ t' (0, 0) h3).trans ?_
      simpa using hu
    have hlen1 : (cellsOf e l).length = l.length * i0.size := by rw [cellsOf_length, hz1]
    have hr := fun ty => run_append_grow_src (P := P) w T TX ty E i0 z hT hi0 hz0 (some ⟨g, 0, none⟩) l.length m (cellsOf e l) (run_firstCells_some w.drew i0.size l.length ⟨g, 0, none⟩ l.length m (cellsOf e l) hlen1 hxs) (opv ρ x) y.length (cellsOf e y) (hz1 ▸ hsrc) (by omega) (by omega)
      (growslice_fits (by omega) (by rw [hz2]; exact hbytes))
    refine Step.val ho hd (v := .slice (some ⟨w.heap.size, 0, none⟩) (l ++ y).length (grownCap w (l.length + y.length) m E)) (w' := w.drew.alloc (.cells ((cellsOf e l ++ cellsOf e y).toArray ++ Builtin.zeroCells z.cells (grownCap w (l.length + y.length) m E - (l.length + y.length))) E)) (fun o hop => ?_) (next _ _ _ (hs.below ((Below.refl _ _).drew.alloc (Nat.le_refl _) _)) ?_)
    · unfold execOp; rw [hop, List.length_append]
      simp [resolve, invoke, builtin, hv, hr, Result.andThen]
    · refine ⟨cellsOf_length e _, ?_, grownCap_le_maxLen w _ m E (by unfold maxLen; omega), fun _ => ⟨w.heap.size, 0, rfl, by simp, fun j u hu => ?_⟩⟩
      · rw [List.length_append]; exact grownCap_ge w _ m E
      · rw [Nat.zero_add]
        refine (cell_of_row _ w.heap.size j _ E _ (heap_alloc_new w.drew _)).trans ?_
        rw [cellsOf_append] at hu
        rw [Array.getElem?_append_left (by simpa using (List.getElem?_eq_some_iff.1 hu).1)]
        simpa using hu
theorem made_cells (e : Enc α) (z : α) (hz : e.sz = 1) (v : Value) (hv : e.enc z = [v]) (q : Nat) : (madeCells #[v] q).toList = cellsOf e (List.replicate q z) := by
  have h1 : cellsOf e (List.replicate q z) = List.replicate q v := by
    induction q with
    | zero => rfl
    | succ q ih => rw [List.replicate_succ, cellsOf_cons, ih, hv, List.replicate_succ]; rfl
  rw [h1]
  simp [madeCells]
  apply List.ext_getElem
  · simp
  · intro i h1 h2
    simp [Nat.mod_one]
theorem Step.make {T E : TypeId} {x y : Operand} {k1 k2 : IntKind} {iz : Int} {b : Nat} {z : α} {v : Value} {l' : List α} (ho : opAt (codeAt B p) k ρ = some (.makeSlice T x y, d)) (hd : dstOk n d = true) (hx : opv ρ x = .int k1 iz) (hy : opv ρ y = .int k2 iz)
    (hT : P.underlying T = some (.slice E)) (hE : (P.info? E).map (fun i => (i.zero, i.size, i.bytes)) = some (some v, 1, b)) (hb : Nat.ble b 65536 = true) (hz : e.sz = 1) (hv : e.enc z = [v]) (hc : v.cells = #[v]) (h0 : decide (0 ≤ iz ∧ iz ≤ 2147483648) = true) (hs : SP S w0 w es) (hq : List.replicate iz.toNat z = l')
    (next : ∀ (g : Nat) (w' : World), SP S w0 w' (es ++ [rowT E e (some ⟨g, 0, none⟩) iz.toNat l']) → l'.length = iz.toNat → K (updO ρ d (.slice (some ⟨g, 0, none⟩) l'.length iz.toNat)) w') : Step P n B p k K ρ w := by
  subst hq
  have h0 := of_decide_eq_true h0
  have hb2 := Nat.le_of_ble_eq_true hb
  cases hi : P.info? E with
  | none => rw [hi] at hE; cases hE
  | some i =>
    rw [hi] at hE
    simp only [Option.map_some, Option.some.injEq, Prod.mk.injEq] at hE
    obtain ⟨hz1, hz2, hz3⟩ := hE
    have hbb : (i.bytes : Int) * iz ≤ 281474976710656 := by
      rw [hz3]
      have h1 : (b : Int) * iz ≤ 65536 * 2147483648 := Int.mul_le_mul (by omega) h0.2 h0.1 (by omega)
      omega
    have hr := run_make (P := P) w T E i v hT hi hz1 k1 k2 iz iz h0.1 (Int.le_refl _) hbb (by omega)
    rw [hz2, Nat.mul_one, hc] at hr
    have hlen : (List.replicate iz.toNat z).length = iz.toNat := by simp
    have hnew := hs.newrow (E := E) (cs := madeCells #[v] iz.toNat) e (List.replicate iz.toNat z) (made_cells e z hz v hv iz.toNat) (by rw [hlen]; unfold maxLen; omega) (by omega)
    rw [hlen] at hnew
    refine Step.val ho hd (v := .slice (some ⟨w.heap.size, 0, none⟩) (List.replicate iz.toNat z).length iz.toNat) (w' := w.alloc (.cells (madeCells #[v] iz.toNat) E)) (fun o hop => ?_) (next _ _ hnew hlen)
    unfold execOp; rw [hop, hlen]
    simp only [hx, hy, Sem.run_bind, hr, Result.andThen_ok]
    rfl
end
end Go.Proofs.YtfffjaijflbeaaaDoor
