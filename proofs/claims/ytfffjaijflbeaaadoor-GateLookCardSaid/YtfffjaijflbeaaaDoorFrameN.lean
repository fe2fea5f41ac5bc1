/- Opening what a law is handed: bytes; the closed facts of the program. -/
import Derived.ProofKit
import Derived.OpenShut
import Derived.ShutString
import Derived.ChangeOld
import Derived.Below
import Derived.Lib.SmallJoins
import Derived.Deep.Strs
import Derived.Test.YtfffjaijflbeaaaDoorOpsC
namespace Go.Proofs.YtfffjaijflbeaaaDoor
set_option linter.unusedSimpArgs false
set_option linter.unusedVariables false
open Go.RowKit Go.ChangeShapes Go.WideShapes Go.Deep
theorem own : ownKnob Tryd.prog.godebug = none := by kernel_rfl
theorem laidOut : laidOutB Tryd.prog = true := by kernel_rfl
section
variable {H : Type} {enc : TypeId × Value → H} {W : World} {spare : Nat → Bool} {held : Bool} {base b0 : Nat} {r : Reach}
set_option maxRecDepth 100000 in
/-- bytes that were handed in -/
theorem open_bytes {v : Value} {d : DataW H} {p : List MemPlace} (hv : Value.okWide Tryd.prog W r b0 106 v) (h : DataW.Trod enc Tryd.prog W 0 (fun _ => true) true 106 v d p) :
    ∃ (A : Option Addr) (n c : Nat) (l : List UInt8), v = .slice A n c ∧ Rd W A n c l := by
  obtain ⟨A, n, c, rfl⟩ := okWide_slice Tryd.underlying106 hv
  obtain ⟨fuel, hf⟩ := h
  have hlt := DataW.trod_lt fuel _ _ _ hf
  rcases open_ints Tryd.underlying106 Tryd.underlying5 (by kernel_rfl) hf with ⟨hcs, _⟩ | ⟨x, l, c', zs, hcs, _, hl, hm, hz, hx, hcell, hwz⟩
  · simp [Value.cells] at hcs
    obtain ⟨rfl, rfl, rfl⟩ := hcs
    exact ⟨none, 0, 0, [], rfl, Rd.nil W⟩
  · simp [Value.cells] at hcs
    obtain ⟨rfl, rfl, rfl⟩ := hcs
    rw [if_pos rfl] at hz
    have h8 : ∀ z ∈ zs, 0 ≤ z ∧ z < 256 := fun z hz => by
      have := hwz z hz
      simp [Lit.wf, IntKind.min, IntKind.max, IntKind.signed, IntKind.bits] at this
      omega
    refine ⟨some x, n, c, (zs.take n).map (fun z => UInt8.ofNat z.toNat), rfl, by simp; omega, hl, hm, fun hn => ?_⟩
    have h0 := hcell 0 (by omega)
    obtain ⟨b, off, spot⟩ := x
    have hs : spot = none := by simpa [Addr.add] using World.cell?_spot h0
    subst hs
    refine ⟨b, off, rfl, block_lt_of_cell h0, fun i hi => ?_⟩
    have hi' := hcell i (by omega)
    have hadd : (⟨b, off, none⟩ : Addr).add i = ⟨b, off + i, none⟩ := by unfold Addr.add; split <;> simp_all
    rw [hadd] at hi'
    rw [hi']
    have hzi : zs.getD i 0 = zs[i]'(by omega) := by simp [List.getD, List.getElem?_eq_getElem (show i < zs.length by omega)]
    have := h8 (zs[i]'(by omega)) (List.getElem_mem _)
    rw [hzi]
    simp [List.getD, hi, List.getElem?_eq_getElem (show i < zs.length by omega)]
    omega
/-- one-cell elements that were handed in, as a row that is read -/
theorem rdt_of_cells {α : Type} (e : Enc α) (h1 : e.sz = 1) {A : Addr} {n c m : Nat} (l : List α) (hl : l.length = n) (hnc : n ≤ c) (hm : c ≤ maxLen)
    (hcell : ∀ i (hi : i < l.length), W.cell? (A.add i) = (e.enc l[i])[0]?) : RdT e W (some A) c l := by
  refine ⟨by rw [cellsOf_length, hl], by rw [hl]; exact hnc, hm, fun hn => ?_⟩
  have len1 : ∀ x, (e.enc x).length = 1 := fun x => (e.len x).trans h1
  have g : ∀ i (hi : i < l.length), W.cell? (A.add i) = some ((e.enc l[i])[0]'(by rw [len1]; omega)) := fun i hi => by
    rw [hcell i hi, List.getElem?_eq_getElem]
  have h0 := g 0 (by omega)
  obtain ⟨b, off, spot⟩ := A
  have hs : spot = none := by simpa [Addr.add] using World.cell?_spot h0
  subst hs
  refine ⟨b, off, rfl, block_lt_of_cell h0, fun j u hu => ?_⟩
  have hj : j < l.length := by
    have := (List.getElem?_eq_some_iff.1 hu).1
    rw [cellsOf_length, h1] at this
    omega
  have h2 := g j hj
  rw [add_lit] at h2
  rw [h2]
  have := cellsOf_get e (l := l) (i := j) (x := l[j]) (List.getElem?_eq_getElem hj) (j := 0) (u := (e.enc l[j])[0]'(by rw [len1]; omega)) (List.getElem?_eq_getElem _)
  rw [h1, Nat.mul_one, Nat.add_zero] at this
  rw [this] at hu
  exact hu
set_option maxRecDepth 100000 in
/-- texts that were handed in -/
theorem open_strs_ {v : Value} {d : DataW H} {p : List MemPlace} (hv : Value.okWide Tryd.prog W r b0 95 v) (h : DataW.Trod enc Tryd.prog W 0 (fun _ => true) true 95 v d p) :
    ∃ (A : Option Addr) (c : Nat) (l : List (List UInt8)), v = .slice A l.length c ∧ RdT eStr W A c l ∧ ∀ s ∈ l, s.length ≤ maxLen := by
  obtain ⟨A, n, c, rfl⟩ := okWide_slice Tryd.underlying95 hv
  obtain ⟨fuel, hf⟩ := h
  rcases open_strs Tryd.underlying95 Tryd.underlying9 (by kernel_rfl) hf with ⟨hcs, _⟩ | ⟨x, l, c', m, Sx, hcs, _, hl, hm, hmm, hx, hcell⟩
  · simp [Value.cells] at hcs
    obtain ⟨rfl, rfl, rfl⟩ := hcs
    exact ⟨none, 0, [], rfl, RdT.nil _ W, fun n hn => by simp at hn⟩
  · simp [Value.cells] at hcs
    obtain ⟨rfl, rfl, rfl⟩ := hcs
    rw [if_pos rfl] at hmm
    have hlen : ((List.range n).map fun i => (Sx i).data.toList).length = n := by simp
    refine ⟨some x, c, (List.range n).map fun i => (Sx i).data.toList, by rw [hlen], rdt_of_cells (m := 0) eStr rfl _ hlen hl hm fun i hi => ?_, fun s hs => ?_⟩
    · have hi' : i < n := by rw [hlen] at hi; exact hi
      rw [(hcell i (by omega)).1]
      simp only [List.getElem_map, List.getElem_range]
      rfl
    · obtain ⟨i, hi, rfl⟩ := List.mem_map.1 hs
      have hi' : i < n := by simpa using hi
      exact (hcell i (by omega)).2
set_option maxRecDepth 100000 in
/-- a net that was handed in -/
theorem open_net {v : Value} {d : DataW H} {p : List MemPlace} (hv : Value.okWide Tryd.prog W r b0 51 v) (h : DataW.Trod enc Tryd.prog W base spare held 51 v d p) :
    ∃ (a b : Int), v = .agg #[.int .u32 a, .int .i64 b] ∧ (Lit.int .u32 a).wf = true ∧ (Lit.int .i64 b).wf = true := by
  obtain ⟨fs, hs⟩ : ∃ fs, Tryd.prog.underlying 51 = some (.struct fs) := ⟨_, Tryd.underlying51⟩
  have hf5 : (match Tryd.prog.underlying 51 with | some (.struct fs) => fs.toList.map (fun f => (f.type, f.offset)) | _ => []) = [(33, 0), (3, 1)] := by kernel_rfl
  have hC : Tryd.prog.cellsOf 51 = 2 := by kernel_rfl
  have c3 : Tryd.prog.cellsOf 3 = 1 := by kernel_rfl
  have c9 : Tryd.prog.cellsOf 33 = 1 := by kernel_rfl
  rw [hs] at hf5
  obtain ⟨cs, rfl, hsz⟩ := okWide_struct hs hv
  obtain ⟨fuel, hf⟩ := h
  obtain ⟨xs, n, _, hx, _, hlen, hg⟩ := DataW.trod_struct hs hf
  obtain ⟨fs⟩ := fs
  simp only at hf5
  match fs, hf5 with
  | [f0, f1], hf5 =>
    simp only [List.map_cons, List.map_nil, List.cons.injEq, Prod.mk.injEq, and_true] at hf5
    obtain ⟨⟨t0, o0⟩, ⟨t1, o1⟩⟩ := hf5
    obtain ⟨l⟩ := cs
    match l, hsz.trans hC with
    | [v0, v1], _ =>
      match xs, hlen with
      | [y0, y1], _ =>
        have g0 := hg 0 f0 rfl
        have g1 := hg 1 f1 rfl
        rw [t0, o0, c9] at g0
        rw [t1, o1, c3] at g1
        simp [Value.cells] at g0 g1
        obtain ⟨a, e0, _, wa⟩ := DataW.trod_int Tryd.underlying33 g0
        obtain ⟨b, e1, _, wb⟩ := DataW.trod_int Tryd.underlying3 g1
        simp at e0 e1
        subst e0 e1
        exact ⟨a, b, rfl, wa, wb⟩
end
end Go.Proofs.YtfffjaijflbeaaaDoor
