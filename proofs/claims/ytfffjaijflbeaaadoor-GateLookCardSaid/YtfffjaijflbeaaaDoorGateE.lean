/- THE GATE IN MEMORY: a block with a map, from tenants' names to blocks of owners. -/
import Derived.Test.YtfffjaijflbeaaaDoorDeep
import Derived.Test.YtfffjaijflbeaaaDoorArr
import Derived.MapKept
namespace Go.Proofs.YtfffjaijflbeaaaDoor
set_option linter.unusedSimpArgs false
set_option linter.unusedVariables false
open Go.RowKit
open Go.MapKept (findNow_spec run_findKey run_checkKey IsKey)
def gCells (y : TenantD) (u : List Int) : List Value := eTen.enc y ++ (cellsOf (eInt .i64) u ++ [.int .i64 0, .int .i64 y.2.1, .int .i64 y.2.2.1])
def gEnts (d : List TenantD) (bl : List Nat) : List (Value × Value) := (d.zip bl).map fun p => (.string ⟨p.1.1.toArray⟩, pt p.2 0)
structure GOk (g : Nat) (F : Nat × List Nat) (d : List TenantD) (U : List (List Int)) (w : World) : Prop where
  box : w.heap[g]? = some (.cells #[.map (some F.1)] 59 (0, 0))
  map : ∃ es clock, w.heap[F.1]? = some (.map es clock) ∧ es.toList.map (fun e => (e.key, e.val)) = gEnts d F.2
  lenB : F.2.length = d.length
  lenU : U.length = d.length
  len3 : ∀ u ∈ U, u.length = 3
  blk : ∀ (k : Nat) y b u, d[k]? = some y → F.2[k]? = some b → U[k]? = some u → w.heap[b]? = some (.cells (gCells y u).toArray 63 (0, 0))
  nd : (g :: F.1 :: F.2).Nodup
def gateE (g : Nat) (F : Nat × List Nat) (d : List TenantD) (U : List (List Int)) : Ent :=
  ⟨g :: F.1 :: F.2, GOk g F d U, fun w w' hk h => by
    refine ⟨(hk g (by simp)).trans h.box, ?_, h.lenB, h.lenU, h.len3, fun k y b u h1 h2 h3 => (hk b ?_).trans (h.blk k y b u h1 h2 h3), h.nd⟩
    · obtain ⟨es, clock, h1, h2⟩ := h.map
      exact ⟨es, clock, (hk F.1 (by simp)).trans h1, h2⟩
    · have := List.mem_of_getElem? h2
      simp [this]⟩
/-! by names -/
def gfind (l : List TenantL) (nm : List UInt8) : Option (Nat × TenantL) := match l.findIdx? (fun x => x.1 == nm) with | some k => l[k]?.map fun x => (k, x) | none => none
def gU (U : List (List Int)) (z : Nat × TenantL) : List Int := U.getD z.1 []
def gM (z : Nat × TenantL) : List Int := [0, z.2.2.1, z.2.2.2.1]
def gset (U : List (List Int)) (z : Nat × TenantL) (i : Int) (v : Int) : List (List Int) := U.set z.1 ((U.getD z.1 []).set i.toNat v)
section
variable {g : Nat} {F : Nat × List Nat} {d : List TenantD} {U : List (List Int)} {w w' w0 : World} {es : List Ent} {S : List Nat} {nm : List UInt8} {z : Nat × TenantL}
theorem gfind_some (h : GOk g F d U w) (hz : gfind (List.map stT d) nm = some z) : ∃ k y b, z = (k, stT y) ∧ d[k]? = some y ∧ F.2[k]? = some b := by
  unfold gfind at hz
  split at hz
  · rename_i k hk
    rw [Option.map_eq_some_iff] at hz
    obtain ⟨x, hx, rfl⟩ := hz
    rw [List.getElem?_map, Option.map_eq_some_iff] at hx
    obtain ⟨y, hy, rfl⟩ := hx
    have hlt := (List.getElem?_eq_some_iff.1 hy).1
    have hlb : k < F.2.length := by rw [h.lenB]; exact hlt
    exact ⟨k, y, F.2[k], rfl, hy, List.getElem?_eq_getElem hlb⟩
  · cases hz
theorem gU_len (h : GOk g F d U w) {k : Nat} {y : TenantD} (hy : d[k]? = some y) : (gU U (k, stT y)).length = 3 := by
  have hlt := (List.getElem?_eq_some_iff.1 hy).1
  have hlu : k < U.length := by rw [h.lenU]; exact hlt
  have : gU U (k, stT y) = U[k] := by simp [gU, List.getD, hlu]
  rw [this]
  exact h.len3 _ (List.getElem_mem hlu)
theorem g_blk (h : GOk g F d U w) {k b : Nat} {y : TenantD} (hy : d[k]? = some y) (hb : F.2[k]? = some b) : w.heap[b]? = some (.cells (gCells y (gU U (k, stT y))).toArray 63 (0, 0)) := by
  have hlt := (List.getElem?_eq_some_iff.1 hy).1
  have hlu : k < U.length := by rw [h.lenU]; exact hlt
  refine h.blk k y b _ hy hb ?_
  simp [gU, List.getD, hlu]
theorem ten_len (y : TenantD) : (eTen.enc y).length = 5 := rfl
theorem g_ten (h : GOk g F d U w) {k b : Nat} {y : TenantD} (hy : d[k]? = some y) (hb : F.2[k]? = some b) {j : Nat} {v : Value} (hj : (eTen.enc y)[j]? = some v) : w.cell? ⟨b, j, none⟩ = some v := by
  rw [cell_of_row w b j _ _ _ (g_blk h hy hb)]
  have hlt := (List.getElem?_eq_some_iff.1 hj).1
  show (gCells y _).toArray[j]? = some v
  rw [List.getElem?_toArray]
  unfold gCells
  rw [List.getElem?_append_left hlt]
  exact hj
theorem g_used (h : GOk g F d U w) {k b : Nat} {y : TenantD} (hy : d[k]? = some y) (hb : F.2[k]? = some b) {iz : Int} {x : Int} (hx : (gU U (k, stT y))[iz.toNat]? = some x) : w.cell? ⟨b, 5 + iz.toNat * 1, none⟩ = some (.int .i64 x) := by
  rw [cell_of_row w b _ _ _ _ (g_blk h hy hb)]
  have hlt := (List.getElem?_eq_some_iff.1 hx).1
  have hl := gU_len h hy
  show (gCells y _).toArray[5 + iz.toNat * 1]? = some _
  rw [List.getElem?_toArray]
  unfold gCells
  rw [List.getElem?_append_right (by rw [ten_len]; omega), ten_len, List.getElem?_append_left (by rw [cellsOf_length]; show _ < _ * 1; omega)]
  have := cellsOf_get (eInt .i64) (l := gU U (k, stT y)) (i := iz.toNat) (x := x) hx (j := 0) (u := .int .i64 x) rfl
  rw [show (eInt .i64).sz = 1 from rfl] at this
  rw [show 5 + iz.toNat * 1 - 5 = iz.toNat * 1 + 0 by omega]
  exact this
theorem g_most (h : GOk g F d U w) {k b : Nat} {y : TenantD} (hy : d[k]? = some y) (hb : F.2[k]? = some b) {iz : Int} {x : Int} (hx : (gM (k, stT y))[iz.toNat]? = some x) : w.cell? ⟨b, 8 + iz.toNat * 1, none⟩ = some (.int .i64 x) := by
  rw [cell_of_row w b _ _ _ _ (g_blk h hy hb)]
  have hl := gU_len h hy
  have hlt : iz.toNat < 3 := (List.getElem?_eq_some_iff.1 hx).1
  show (gCells y _).toArray[8 + iz.toNat * 1]? = some _
  rw [List.getElem?_toArray]
  unfold gCells
  rw [List.getElem?_append_right (by rw [ten_len]; omega), ten_len, List.getElem?_append_right (by rw [cellsOf_length, hl]; show 3 * 1 ≤ _; omega), cellsOf_length, hl, show (eInt .i64).sz = 1 from rfl, show 8 + iz.toNat * 1 - 5 - 3 * 1 = iz.toNat by omega]
  generalize iz.toNat = j at *
  match j, hlt, hx with
  | 0, _, hx => simp [gM] at hx; subst hx; rfl
  | 1, _, hx => simp [gM] at hx; subst hx; rfl
  | 2, _, hx => simp [gM] at hx; subst hx; rfl
end
section
variable {P : Program} {w : World}
/-- what a look into the map gives -/
theorem find_ents {d : List TenantD} {bl : List Nat} {es : List MapEntry} (he : es.map (fun e => (e.key, e.val)) = gEnts d bl) (hl : bl.length = d.length) (nm : List UInt8) :
    ∀ i0 : Nat, (gfind (List.map stT d) nm = none ∧ Instr.findNow .string (.string ⟨nm.toArray⟩) es i0 = some none) ∨
      ∃ k y b, gfind (List.map stT d) nm = some (k, stT y) ∧ d[k]? = some y ∧ bl[k]? = some b ∧ Instr.findNow .string (.string ⟨nm.toArray⟩) es i0 = some (some (i0 + k, pt b 0)) := by
  induction d generalizing bl es with
  | nil =>
    intro i0
    cases es with
    | nil => exact .inl ⟨rfl, rfl⟩
    | cons e es => simp [gEnts] at he
  | cons y d ih =>
    intro i0
    cases bl with
    | nil => simp at hl
    | cons b bl =>
      cases es with
      | nil => simp [gEnts] at he
      | cons e es =>
        simp only [List.map_cons, gEnts, List.zip_cons_cons, List.cons.injEq, Prod.mk.injEq] at he
        obtain ⟨⟨hk, hv⟩, he⟩ := he
        have hsame : Instr.sameNow .string (.string ⟨nm.toArray⟩) e.key = some (nm == y.1) := by
          rw [hk]
          simp only [Instr.sameNow]
          congr 1
          by_cases h : nm = y.1
          · rw [show (nm == y.1) = true from beq_iff_eq.2 h, h]
            exact (Go.MapKept.bytes_beq _ _).2 rfl
          · rw [beq_eq_false_iff_ne.2 h]
            rw [Bool.eq_false_iff]
            intro hh
            have := (Go.MapKept.bytes_beq _ _).1 hh
            injection this with this
            exact h (by simpa using congrArg Array.toList this)
        have hf : ((stT y).1 == nm) = (nm == y.1) := by
          show (y.1 == nm) = (nm == y.1)
          by_cases h : nm = y.1
          · rw [h]
          · rw [beq_eq_false_iff_ne.2 h, beq_eq_false_iff_ne.2 (fun e => h e.symm)]
        cases hc : (nm == y.1) with
        | true =>
          right
          refine ⟨0, y, b, ?_, rfl, rfl, ?_⟩
          · unfold gfind
            rw [List.map_cons, List.findIdx?_cons, hf, hc, if_pos rfl]
            rfl
          · simp only [Instr.findNow, hsame, hc]
            rw [hv]
            rfl
        | false =>
          rcases ih (bl := bl) (es := es) he (by simpa using hl) (i0 + 1) with ⟨h1, h2⟩ | ⟨k, y', b', h1, h2, h3, h4⟩
          · left
            refine ⟨?_, by simp only [Instr.findNow, hsame, hc]; exact h2⟩
            unfold gfind at h1 ⊢
            rw [List.map_cons, List.findIdx?_cons, hf, hc]
            simp only [Bool.false_eq_true, if_false]
            split at h1
            · rename_i k hk
              rw [hk]
              simp only [Option.map_some]
              simpa using h1
            · rename_i hk
              rw [hk]
              rfl
          · right
            refine ⟨k + 1, y', b', ?_, by simpa using h2, by simpa using h3, by simp only [Instr.findNow, hsame, hc]; rw [h4]; congr 3; omega⟩
            unfold gfind at h1 ⊢
            rw [List.map_cons, List.findIdx?_cons, hf, hc]
            simp only [Bool.false_eq_true, if_false]
            split at h1
            · rename_i k' hk
              rw [hk]
              rw [Option.map_eq_some_iff] at h1
              obtain ⟨x, hx, hxe⟩ := h1
              injection hxe with e1 e2
              subst e1 e2
              simp [hx]
            · cases h1
end
section
variable {P : Program} {n : Nat} {B : Code} {p : List Bool} {k : Nat} {K : Fr → World → Prop} {ρ : Fr} {w w0 : World} {es : List Ent} {S : List Nat} {g : Nat} {F : Nat × List Nat} {d : List TenantD} {U : List (List Int)} {dst : Option Nat} {nm : List UInt8}
theorem run_gget {T kt et : TypeId} (hT : P.underlying T = some (.map kt et)) (hk : P.underlying kt = some .string) (hz : ∀ w, (zeroValue et).run P w = .ok (.pointer none) w) (h : GOk g F d U w) (ok : Bool) {v : Value} {is : Bool}
    (hv : (gfind (List.map stT d) nm = none ∧ v = .pointer none ∧ is = false) ∨ ∃ k y b, gfind (List.map stT d) nm = some (k, stT y) ∧ F.2[k]? = some b ∧ v = pt b 0 ∧ is = true) :
    (Instr.lookup T (.map (some F.1)) (.string ⟨nm.toArray⟩) ok).run P w = .ok (if ok then .tuple #[v, .bool is] else v) w := by
  obtain ⟨es, clock, hm, he⟩ := h.map
  have hck : (Instr.checkKey es.isEmpty 10000 kt (.string ⟨nm.toArray⟩)).run P w = .ok () w := run_checkKey (n := 9999) hk (d := .string) (k := .string ⟨nm.toArray⟩) trivial _
  rcases find_ents he h.lenB nm 0 with ⟨h1, h2⟩ | ⟨k, y, b, h1, h2, h3, h4⟩
  · have hf := run_findKey (P := P) (w := w) hk h2
    rcases hv with ⟨_, rfl, rfl⟩ | ⟨k, y, b, h5, _⟩
    · simp only [Instr.lookup, Sem.run_bind, run_underlying hT, Go.MapKept.run_getObj_map hm, hck, hf, hz, Result.andThen_ok, Sem.run_pure]
    · rw [h1] at h5; cases h5
  · have hf := run_findKey (P := P) (w := w) hk h4
    rcases hv with ⟨h5, _⟩ | ⟨k', y', b', h5, h6, rfl, rfl⟩
    · rw [h1] at h5; cases h5
    · rw [h1] at h5
      injection h5 with h5
      injection h5 with h5 _
      subst h5
      rw [h3] at h6
      injection h6 with h6
      subst h6
      simp only [Instr.lookup, Sem.run_bind, run_underlying hT, Go.MapKept.run_getObj_map hm, hck, hf, Result.andThen_ok, Sem.run_pure]
theorem Step.ggetN {T kt et : TypeId} {x ix : Operand} (ho : opAt (codeAt B p) k ρ = some (.lookup T x ix true, dst)) (hd : dstOk n dst = true) (hx : opv ρ x = .map (some F.1)) (hix : opv ρ ix = .string ⟨nm.toArray⟩)
    (hT : P.underlying T = some (.map kt et)) (hk : P.underlying kt = some .string) (hz : ∀ w, (zeroValue et).run P w = .ok (.pointer none) w) (h : GOk g F d U w) (hf : gfind (List.map stT d) nm = none)
    (next : K (updO ρ dst (.tuple #[.pointer none, .bool false])) w) : Step P n B p k K ρ w := by
  refine Step.val ho hd (fun o hop => ?_) next
  unfold execOp; rw [hop]
  simp only [hx, hix, Sem.run_bind, run_gget hT hk hz h true (.inl ⟨hf, rfl, rfl⟩), Result.andThen_ok]
  rfl
theorem Step.ggetS {T kt et : TypeId} {x ix : Operand} {kk b : Nat} {y : TenantD} (ho : opAt (codeAt B p) k ρ = some (.lookup T x ix true, dst)) (hd : dstOk n dst = true) (hx : opv ρ x = .map (some F.1)) (hix : opv ρ ix = .string ⟨nm.toArray⟩)
    (hT : P.underlying T = some (.map kt et)) (hk : P.underlying kt = some .string) (hz : ∀ w, (zeroValue et).run P w = .ok (.pointer none) w) (h : GOk g F d U w) (hf : gfind (List.map stT d) nm = some (kk, stT y)) (hb : F.2[kk]? = some b)
    (next : K (updO ρ dst (.tuple #[pt b 0, .bool true])) w) : Step P n B p k K ρ w := by
  refine Step.val ho hd (fun o hop => ?_) next
  unfold execOp; rw [hop]
  simp only [hx, hix, Sem.run_bind, run_gget hT hk hz h true (.inr ⟨kk, y, b, hf, hb, rfl, rfl⟩), Result.andThen_ok]
  rfl
theorem Step.gget {T kt et : TypeId} {x ix : Operand} {kk b : Nat} {y : TenantD} (ho : opAt (codeAt B p) k ρ = some (.lookup T x ix false, dst)) (hd : dstOk n dst = true) (hx : opv ρ x = .map (some F.1)) (hix : opv ρ ix = .string ⟨nm.toArray⟩)
    (hT : P.underlying T = some (.map kt et)) (hk : P.underlying kt = some .string) (hz : ∀ w, (zeroValue et).run P w = .ok (.pointer none) w) (h : GOk g F d U w) (hf : gfind (List.map stT d) nm = some (kk, stT y)) (hb : F.2[kk]? = some b)
    (next : K (updO ρ dst (pt b 0)) w) : Step P n B p k K ρ w := by
  refine Step.val ho hd (fun o hop => ?_) next
  unfold execOp; rw [hop]
  simp only [hx, hix, Sem.run_bind, run_gget hT hk hz h false (.inr ⟨kk, y, b, hf, hb, rfl, rfl⟩), Result.andThen_ok]
  rfl
/-- the address of a number of an owner's -/
theorem Step.gelem {T E : TypeId} {x ix : Operand} {ki : IntKind} {iz : Int} {b off : Nat} (ho : opAt (codeAt B p) k ρ = some (.indexAddr T x ix, dst)) (hd : dstOk n dst = true)
    (hx : opv ρ x = pt b off) (hix : opv ρ ix = .int ki iz) (hT : P.underlying T = some (.array 3 E)) (hE : (P.info? E).map (·.size) = some 1) (h0 : 0 ≤ iz) (h1 : iz < 3)
    (next : K (updO ρ dst (.pointer (some ⟨b, off + iz.toNat * 1, none⟩))) w) : Step P n B p k K ρ w := by
  refine Step.val ho hd (fun o hop => ?_) next
  cases hi' : P.info? E with
  | none => rw [hi'] at hE; cases hE
  | some ii =>
    rw [hi'] at hE
    have hE : ii.size = 1 := by simpa using hE
    have hsz : (sizeOf E).run P w = .ok 1 w := by simp [sizeOf, typeInfo, hi', hE]
    unfold execOp; rw [hop]
    simp only [hx, hix, Sem.run_bind, Instr.indexAt, asIntOf, Sem.run_pure, Result.andThen_ok, run_underlying hT, Instr.sureAddr]
    simp [h0, h1, hsz, add_lit]
theorem gset_cells (y : TenantD) (u : List Int) (hu : u.length = 3) (j : Nat) (hj : j < 3) (v : Int) :
    (gCells y u).take (5 + j) ++ [.int .i64 v] ++ (gCells y u).drop (5 + j + 1) = gCells y (u.set j v) := by
  match u, hu with
  | [a, b, c], _ =>
    match j, hj with
    | 0, _ => rfl
    | 1, _ => rfl
    | 2, _ => rfl
theorem Step.gstore {t : TypeId} {x y : Operand} {iz : Int} {v : Int} {i kk b : Nat} {yk : TenantD} (ho : opAt (codeAt B p) k ρ = some (.store t x y, dst)) (hd : dstOk n dst = true) (hx : opv ρ x = .pointer (some ⟨b, 5 + iz.toNat * 1, none⟩)) (hy : opv ρ y = .int .i64 v)
    (hs : SP S w0 w es) (hi : es[i]? = some (gateE g F d U)) (hyk : d[kk]? = some yk) (hb : F.2[kk]? = some b) {u : Int} (hu : (gU U (kk, stT yk))[iz.toNat]? = some u) (ht : (P.info? t).map (·.size) = some 1)
    (next : ∀ w' : World, SP S w0 w' (es.set i (gateE g F d (gset U (kk, stT yk) iz v))) → K (updO ρ dst undef) w') : Step P n B p k K ρ w := by
  have h : GOk g F d U w := hs.get hi
  have hl := gU_len h hyk
  have hj : iz.toNat < 3 := by rw [← hl]; exact (List.getElem?_eq_some_iff.1 hu).1
  have hblk := g_blk h hyk hb
  have hbm : b ∈ F.2 := List.mem_of_getElem? hb
  obtain ⟨cs', hcs'⟩ : ∃ c : Array Value, c = (gCells yk ((gU U (kk, stT yk)).set iz.toNat v)).toArray := ⟨_, rfl⟩
  have hcl : (gCells yk (gU U (kk, stT yk))).length = 11 := by unfold gCells; simp [cellsOf_length, hl, ten_len]; rfl
  have hst : storeF P t (5 + iz.toNat * 1) (gCells yk (gU U (kk, stT yk))).toArray (.int .i64 v) = some cs' := by
    unfold storeF
    cases hi' : P.info? t with
    | none => rw [hi'] at ht; cases ht
    | some ii =>
      rw [hi'] at ht
      have ht : ii.size = 1 := by simpa using ht
      have e1 : Nat.beq (Value.int .i64 v).cells.size ii.size = true := by rw [ht]; rfl
      have e2 : Nat.ble (5 + iz.toNat * 1 + (Value.int .i64 v).cells.size) (gCells yk (gU U (kk, stT yk))).toArray.size = true := by
        apply Nat.ble_eq_true_of_le
        show 5 + iz.toNat * 1 + 1 ≤ (gCells yk (gU U (kk, stT yk))).length
        rw [hcl]; omega
      have e3 : allOne (Value.int .i64 v).cells.toList = true := rfl
      simp only [e1, e2, e3]
      rw [hcs', ← gset_cells yk _ hl iz.toNat hj v]
      show some (List.toArray _) = _
      simp only [Nat.mul_one]
      rfl
  refine Step.nov ho hd (w' := w.setRow b cs') (fun o hop => ?_) (next _ ?_)
  · have := storeVar_of (w := w) hst hblk
    unfold execOp; rw [hop]
    simp only [hx, hy, Instr.storeAt, Instr.sureAddr, Sem.run_bind, Sem.run_pure, Result.andThen_ok, this]
  · have hnd := h.nd
    have hbg : b ≠ g := fun e => by
      rw [List.nodup_cons] at hnd
      exact hnd.1 (by rw [← e]; simp [hbm])
    have hbF : b ≠ F.1 := fun e => by
      rw [List.nodup_cons, List.nodup_cons] at hnd
      exact hnd.2.1 (by rw [← e]; exact hbm)
    have hlu : kk < U.length := by rw [h.lenU]; exact (List.getElem?_eq_some_iff.1 hyk).1
    refine hs.set hi (T := [b]) (Mod.setRow w b cs') (fun k hk => ?_) ?_ (fun k hk => ⟨.inl hk, ?_⟩)
    · have : k = b := by simpa using hk
      subst this
      show _ ∈ g :: F.1 :: F.2
      simp [hbm]
    · refine ⟨(setRow_other w b g cs' hbg.symm).trans h.box, ?_, h.lenB, by simp [gset, h.lenU], fun u hu => ?_, fun k y b' u h1 h2 h3 => ?_, h.nd⟩
      · obtain ⟨es, clock, h1, h2⟩ := h.map
        exact ⟨es, clock, (setRow_other w b F.1 cs' hbF.symm).trans h1, h2⟩
      · rcases List.mem_or_eq_of_mem_set hu with hu | rfl
        · exact h.len3 u hu
        · rw [List.length_set]; exact hl
      · by_cases hkk : k = kk
        · subst hkk
          rw [hyk] at h1
          injection h1 with h1
          subst h1
          rw [hb] at h2
          injection h2 with h2
          subst h2
          unfold gset at h3
          rw [List.getElem?_set_self hlu] at h3
          injection h3 with h3
          subst h3
          rw [setRow_heap w b _ cs' _ _ hblk, hcs']
          rfl
        · have hne : b' ≠ b := fun e => by
            subst e
            have hnd2 : F.2.Nodup := by
              rw [List.nodup_cons, List.nodup_cons] at hnd
              exact hnd.2.2
            have h2' := List.getElem?_eq_some_iff.1 h2
            have hb' := List.getElem?_eq_some_iff.1 hb
            exact hkk ((List.getElem_inj hnd2).1 (h2'.2.trans hb'.2.symm))
          rw [setRow_other w b b' cs' hne]
          unfold gset at h3
          rw [List.getElem?_set_ne (fun e => hkk e.symm)] at h3
          exact h.blk k y b' u h1 h2 h3
    · have hk2 : k < w.heap.size := (hs.own.get hi).2 k hk |>.2
      simpa [World.setRow] using hk2
/-- a load of the gate's map -/
theorem Step.gmap {t : TypeId} {x : Operand} (ho : opAt (codeAt B p) k ρ = some (.load t x, dst)) (hd : dstOk n dst = true) (hx : opv ρ x = pt g 0) (ht : (P.underlying t).map aggD = some false) (h : GOk g F d U w)
    (next : K (updO ρ dst (.map (some F.1))) w) : Step P n B p k K ρ w :=
  Step.cell ho hd hx ht (by rw [cell_of_row w g 0 _ _ _ h.box]; rfl) next
end
end Go.Proofs.YtfffjaijflbeaaaDoor
