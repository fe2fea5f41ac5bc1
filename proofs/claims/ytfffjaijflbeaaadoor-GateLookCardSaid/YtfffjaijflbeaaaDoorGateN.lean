/- A GATE THAT GROWS: a new map, a new owner. -/
import Derived.Test.YtfffjaijflbeaaaDoorGateE
import Derived.Test.YtfffjaijflbeaaaDoorPlain
namespace Go.Proofs.YtfffjaijflbeaaaDoor
set_option linter.unusedSimpArgs false
set_option linter.unusedVariables false
open Go.RowKit
open Go.MapKept (findNow_spec run_findKey run_checkKey IsKey)
/-- an empty map -/
def map0E (m : Nat) : Ent := ⟨[m], fun w => w.heap[m]? = some (.map #[] 0), fun w w' hk h => (hk m (by simp)).trans h⟩
theorem take_step {d D : List TenantD} {v : Int} {y : TenantD} (hD : D = List.take (Int.toNat v) d) (h0 : 0 ≤ v) (h1 : v < (d.length : Int)) (hm : d.length ≤ maxLen) (hy : d[v.toNat]? = some y) : D ++ [y] = List.take (Int.toNat (IntKind.wrap .i64 (v + 1))) d := by
  have hmx : maxLen ≤ 9223372036854775807 := by decide
  have hw : IntKind.wrap .i64 (v + 1) = v + 1 := wrap64 (by omega)
  rw [hw, hD, show (v + 1).toNat = v.toNat + 1 by omega, List.take_add_one, hy]
  rfl
theorem next_nn {l : List TenantD} {v : Int} (h0 : 0 ≤ v) (h1 : v < (l.length : Int)) (hm : l.length ≤ maxLen) : 0 ≤ IntKind.wrap .i64 (v + 1) := by
  have hmx : maxLen ≤ 9223372036854775807 := by decide
  rw [wrap64 (by omega)]
  omega
theorem take_all {d D : List TenantD} {v : Int} (hD : D = List.take (Int.toNat v) d) (h1 : decide (v < ((List.length (List.map stT d) : Nat) : Int)) = false) (h0 : 0 ≤ v) : D = d := by
  have := of_decide_eq_false h1
  rw [List.length_map] at this
  rw [hD, List.take_of_length_le (by omega)]
section
variable {P : Program} {n : Nat} {B : Code} {p : List Bool} {k : Nat} {K : Fr → World → Prop} {ρ : Fr} {w w0 : World} {es : List Ent} {S : List Nat} {g : Nat} {F : Nat × List Nat} {d D : List TenantD} {U : List (List Int)} {dst : Option Nat} {nm : List UInt8}
theorem Step.mkmap {T : TypeId} (ho : opAt (codeAt B p) k ρ = some (.makeMap T none, dst)) (hd : dstOk n dst = true) (hs : SP S w0 w es)
    (next : ∀ (m : Nat) (w' : World), SP S w0 w' (es ++ [map0E m]) → K (updO ρ dst (.map (some m))) w') : Step P n B p k K ρ w := by
  refine Step.val ho hd (w' := w.alloc (.map #[] 0)) (v := .map (some w.heap.size)) (fun o hop => ?_) (next _ _ ?_)
  · unfold execOp; rw [hop]
    rfl
  · refine hs.push ((Below.refl _ _).alloc (Nat.le_refl _) _) (heap_alloc_new w _) fun k hk => ?_
    have : k = w.heap.size := by simpa [map0E] using hk
    subst this
    simp
/-- a block and an empty map are a gate with no owners -/
theorem SP.gmake {m : Nat} {l r : List Nat} {es' : List Ent} (h : SP S w0 w es) (hn : nodupN (l ++ r) = true) (he : selE es l = [map0E m, boxE g 59 #[.map (some m)]]) (hr : es' = selE es r ++ [gateE g (m, []) [] []]) : SP S w0 w es' := by
  have hsub := h.sub l (nodup_app hn).1 rfl
  rw [he] at hsub
  have h1 := hsub.get (i := 0) rfl
  have h2 := hsub.get (i := 1) rfl
  have hmg : m ≠ g := fun e => by
    subst e
    have h3 : w.heap[m]? = some (.map #[] 0) := h1
    have h4 : w.heap[m]? = some (.cells #[.map (some m)] 59 (0, 0)) := h2
    rw [h3] at h4
    cases h4
  have hok : GOk g (m, []) [] [] w := ⟨h2, ⟨#[], 0, h1, rfl⟩, rfl, rfl, (fun u hu => by cases hu), (fun k y b u h1 => by simp at h1), by simp [hmg.symm]⟩
  refine h.callS l r hn he.symm (es2 := [gateE g (m, []) [] []]) ⟨Mod.refl _ _, hok, fun k hk => ?_, trivial⟩ hr
  have hk' : k = g ∨ k = m := by simpa [gateE] using hk
  have hlt : ∀ {j : Nat} {o : Obj}, w.heap[j]? = some o → j < w.heap.size := fun h => (Array.getElem?_eq_some_iff.1 h).1
  refine ⟨.inr ?_, ?_, by simp⟩
  · show k ∈ [m] ++ ([g] ++ [])
    rcases hk' with rfl | rfl <;> simp
  · rcases hk' with rfl | rfl
    · exact hlt h2
    · exact hlt h1
theorem gEnts_push {D : List TenantD} {bl : List Nat} (hl : bl.length = D.length) (y : TenantD) (b : Nat) : gEnts (D ++ [y]) (bl ++ [b]) = gEnts D bl ++ [(.string ⟨y.1.toArray⟩, pt b 0)] := by
  unfold gEnts
  rw [List.zip_append hl.symm, List.map_append]
  rfl
theorem gfind_fresh {D : List TenantD} (h : (List.map stT D).all (fun x => !(x.1 == nm)) = true) : gfind (List.map stT D) nm = none := by
  unfold gfind
  have : (List.map stT D).findIdx? (fun x => x.1 == nm) = none := by
    rw [List.findIdx?_eq_none_iff]
    intro x hx
    rw [List.all_eq_true] at h
    simpa using h x hx
  rw [this]
/-- a new owner under a new name -/
theorem Step.gput {T kt et : TypeId} {x ix yo : Operand} {yd : TenantD} {b : Nat} {l r : List Nat} (ho : opAt (codeAt B p) k ρ = some (.mapUpdate T x ix yo, dst)) (hd : dstOk n dst = true) (hx : opv ρ x = .map (some F.1)) (hix : opv ρ ix = .string ⟨yd.1.toArray⟩) (hy : opv ρ yo = pt b 0)
    (hT : P.underlying T = some (.map kt et)) (hk : P.underlying kt = some .string) (hs : SP S w0 w es) (hn : nodupN (l ++ r) = true) (he : selE es l = [gateE g F D U, boxE b 63 (gCells yd [0, 0, 0]).toArray])
    (hf : (List.map stT D).all (fun x => !(x.1 == yd.1)) = true)
    (next : ∀ w' : World, SP S w0 w' (selE es r ++ [gateE g (F.1, F.2 ++ [b]) (D ++ [yd]) (U ++ [[0, 0, 0]])]) → K (updO ρ dst undef) w') : Step P n B p k K ρ w := by
  have hsub := hs.sub l (nodup_app hn).1 rfl
  rw [he] at hsub
  have hg : GOk g F D U w := hsub.get (i := 0) rfl
  have hb : w.heap[b]? = some (.cells (gCells yd [0, 0, 0]).toArray 63 (0, 0)) := hsub.get (i := 1) rfl
  have hap := hsub.own.apart (i := 0) (j := 1) rfl rfl (by decide)
  obtain ⟨ms, clock, hm, hms⟩ := hg.map
  have hbF : b ∉ g :: F.1 :: F.2 := fun hb' => hap b hb' (by simp [boxE])
  have hbg : b ≠ g := fun e => hbF (by simp [e])
  have hbm : b ≠ F.1 := fun e => hbF (by simp [e])
  have hbl : b ∉ F.2 := fun e => hbF (by simp [e])
  have hnd := hg.nd
  have hgm : g ≠ F.1 := fun e => by rw [List.nodup_cons] at hnd; exact hnd.1 (by simp [e])
  have hml : F.1 ∉ F.2 := by rw [List.nodup_cons, List.nodup_cons] at hnd; exact hnd.2.1
  have hlt : ∀ {j : Nat} {o : Obj}, w.heap[j]? = some o → j < w.heap.size := fun h => (Array.getElem?_eq_some_iff.1 h).1
  obtain ⟨w', hw'⟩ : ∃ w' : World, w' = { w with heap := w.heap.setIfInBounds F.1 (.map (ms.push { key := .string ⟨yd.1.toArray⟩, val := pt b 0, born := clock }) (clock + 1)) } := ⟨_, rfl⟩
  have hset := Go.MapKept.heap_set (o' := .map (ms.push { key := .string ⟨yd.1.toArray⟩, val := pt b 0, born := clock }) (clock + 1)) hm
  have hoth : ∀ j, j ≠ F.1 → w'.heap[j]? = w.heap[j]? := fun j hj => by rw [hw']; exact hset.2 j hj
  have hsz : w'.heap.size = w.heap.size := by rw [hw']; simp
  refine Step.nov ho hd (w' := w') (fun o hop => ?_) (next _ ?_)
  · have hck : (Instr.checkKey false 10000 kt (.string ⟨yd.1.toArray⟩)).run P w = .ok () w := run_checkKey (n := 9999) hk (d := .string) (k := .string ⟨yd.1.toArray⟩) trivial _
    have hfind : Instr.findNow .string (.string ⟨yd.1.toArray⟩) ms.toList 0 = some none := by
      rcases find_ents hms hg.lenB yd.1 0 with ⟨_, h2⟩ | ⟨k, y, b, h1, _⟩
      · exact h2
      · rw [gfind_fresh hf] at h1; cases h1
    have hfk := run_findKey (P := P) (w := w) hk hfind
    unfold execOp; rw [hop]
    simp only [hx, hix, hy, Instr.mapUpdate, Sem.run_bind, run_underlying hT, Go.MapKept.run_getObj_map hm, hck, hfk, Go.MapKept.run_setObj_map _ hm, Result.andThen_ok]
    rw [hw']
    rfl
  · have hok : GOk g (F.1, F.2 ++ [b]) (D ++ [yd]) (U ++ [[0, 0, 0]]) w' := by
      refine ⟨(hoth g hgm).trans hg.box, ⟨_, _, by rw [hw']; exact hset.1, ?_⟩, by simp [hg.lenB], by simp [hg.lenU], fun u hu => ?_, fun k y b' u h1 h2 h3 => ?_, ?_⟩
      · rw [Array.toList_push, List.map_append, hms, gEnts_push hg.lenB]
        rfl
      · rcases List.mem_append.1 hu with hu | hu
        · exact hg.len3 u hu
        · simp at hu; subst hu; rfl
      · by_cases hkD : k < D.length
        · rw [List.getElem?_append_left hkD] at h1
          rw [List.getElem?_append_left (by rw [hg.lenB]; exact hkD)] at h2
          rw [List.getElem?_append_left (by rw [hg.lenU]; exact hkD)] at h3
          have hb'm := List.mem_of_getElem? h2
          rw [hoth b' (fun e => hml (e ▸ hb'm))]
          exact hg.blk k y b' u h1 h2 h3
        · have hkl : k < (D ++ [yd]).length := (List.getElem?_eq_some_iff.1 h1).1
          obtain rfl : k = D.length := by simp at hkl; omega
          rw [List.getElem?_append_right (Nat.le_refl _), Nat.sub_self] at h1
          rw [← hg.lenB, List.getElem?_append_right (Nat.le_refl _), Nat.sub_self] at h2
          rw [← hg.lenU, List.getElem?_append_right (Nat.le_refl _), Nat.sub_self] at h3
          simp at h1 h2 h3
          subst h1 h2 h3
          rw [hoth _ hbm]
          exact hb
      · have : (g :: F.1 :: (F.2 ++ [b])) = (g :: F.1 :: F.2) ++ [b] := rfl
        rw [this, List.nodup_append]
        exact ⟨hnd, by simp, fun x hx y hy => by simp at hy; subst hy; exact fun e => hbF (e ▸ hx)⟩
    refine hs.callS l r hn he.symm (es2 := [gateE g (F.1, F.2 ++ [b]) (D ++ [yd]) (U ++ [[0, 0, 0]])]) ⟨⟨by rw [hw'], by rw [hw'], by rw [hw'], by rw [hsz]; exact Nat.le_refl _, fun k _ hk => hoth k fun e => hk (by rw [e]; simp [gateE])⟩, hok, fun k hk => ?_, trivial⟩ rfl
    have hk' : k ∈ g :: F.1 :: (F.2 ++ [b]) := hk
    refine ⟨.inr ?_, ?_, by simp⟩
    · show k ∈ (g :: F.1 :: F.2) ++ ([b] ++ [])
      simp only [List.mem_cons, List.mem_append, List.not_mem_nil, or_false] at hk' ⊢
      rcases hk' with rfl | rfl | h | rfl <;> simp [*]
    · rw [hsz]
      simp at hk'
      rcases hk' with rfl | rfl | h | rfl
      · exact hlt hg.box
      · exact hlt hm
      · exact (hsub.own.get (i := 0) rfl).2 k (by simp [gateE, h]) |>.2
      · exact hlt hb
end
end Go.Proofs.YtfffjaijflbeaaaDoor
