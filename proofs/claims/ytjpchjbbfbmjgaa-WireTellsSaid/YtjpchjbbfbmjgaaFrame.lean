/- Opening what a law is handed: a message, bytes. -/
import Derived.Test.YtjpchjbbfbmjgaaWireL
import Derived.ProofKit
import Derived.OpenShut
import Derived.ShutString
import Derived.ChangeOld
import Derived.Below
import Derived.Lib.SmallJoins
namespace Go.Proofs.Ytjpchjbbfbmjgaa
set_option linter.unusedSimpArgs false
set_option linter.unusedVariables false
open Go.RowKit Go.ChangeShapes Go.WideShapes Go.Deep
open Go.ChangeMaps (open_string shut_string)
theorem own : ownKnob Try.prog.godebug = none := by kernel_rfl
theorem laidOut : laidOutB Try.prog = true := by kernel_rfl
section
variable {H : Type} {enc : TypeId × Value → H} {W : World} {spare : Nat → Bool} {held : Bool} {base b0 : Nat} {r : Reach}
/-- a message that was handed in -/
theorem open_msg {v : Value} {d : DataW H} {p : List MemPlace} (hv : Value.okWide Try.prog W r b0 23 v) (h : DataW.Trod enc Try.prog W base spare held 23 v d p) :
    ∃ (k n m : Int) (a b : ByteArray), v = msgV k a b n m ∧ a.size ≤ maxLen ∧ b.size ≤ maxLen := by
  obtain ⟨fs, hs⟩ : ∃ fs, Try.prog.underlying 23 = some (.struct fs) := ⟨_, Try.underlying23⟩
  have hf5 : (match Try.prog.underlying 23 with | some (.struct fs) => fs.toList.map (fun f => (f.type, f.offset)) | _ => []) = [(3, 0), (9, 1), (9, 2), (2, 3), (2, 4)] := by kernel_rfl
  have hC : Try.prog.cellsOf 23 = 5 := by kernel_rfl
  have c3 : Try.prog.cellsOf 3 = 1 := by kernel_rfl
  have c9 : Try.prog.cellsOf 9 = 1 := by kernel_rfl
  have c2 : Try.prog.cellsOf 2 = 1 := by kernel_rfl
  rw [hs] at hf5
  obtain ⟨cs, rfl, hsz⟩ := okWide_struct hs hv
  obtain ⟨fuel, hf⟩ := h
  obtain ⟨xs, n, _, hx, _, hlen, hg⟩ := DataW.trod_struct hs hf
  obtain ⟨fs⟩ := fs
  simp only at hf5
  match fs, hf5 with
  | [f0, f1, f2, f3, f4], hf5 =>
    simp only [List.map_cons, List.map_nil, List.cons.injEq, Prod.mk.injEq, and_true] at hf5
    obtain ⟨⟨t0, o0⟩, ⟨t1, o1⟩, ⟨t2, o2⟩, ⟨t3, o3⟩, ⟨t4, o4⟩⟩ := hf5
    obtain ⟨l⟩ := cs
    match l, hsz.trans hC with
    | [v0, v1, v2, v3, v4], _ =>
      match xs, hlen with
      | [y0, y1, y2, y3, y4], _ =>
        have g0 := hg 0 f0 rfl
        have g1 := hg 1 f1 rfl
        have g2 := hg 2 f2 rfl
        have g3 := hg 3 f3 rfl
        have g4 := hg 4 f4 rfl
        rw [t0, o0, c3] at g0
        rw [t1, o1, c9] at g1
        rw [t2, o2, c9] at g2
        rw [t3, o3, c2] at g3
        rw [t4, o4, c2] at g4
        simp [Value.cells] at g0 g1 g2 g3 g4
        obtain ⟨k, e0, _⟩ := DataW.trod_int Try.underlying3 g0
        obtain ⟨a, e1, _, ha⟩ := DataW.trod_string Try.underlying9 g1
        obtain ⟨b, e2, _, hb⟩ := DataW.trod_string Try.underlying9 g2
        obtain ⟨n, e3, _⟩ := DataW.trod_int Try.underlying2 g3
        obtain ⟨m, e4, _⟩ := DataW.trod_int Try.underlying2 g4
        simp at e0 e1 e2 e3 e4
        subst e0 e1 e2 e3 e4
        exact ⟨k, n, m, a, b, rfl, ha, hb⟩
/-- bytes that were handed in -/
theorem open_bytes {v : Value} {d : DataW H} {p : List MemPlace} (hv : Value.okWide Try.prog W r b0 24 v) (h : DataW.Trod enc Try.prog W 0 (fun _ => true) true 24 v d p) :
    ∃ (A : Option Addr) (n c : Nat) (l : List UInt8), v = .slice A n c ∧ Rd W A n c l := by
  obtain ⟨A, n, c, rfl⟩ := okWide_slice Try.underlying24 hv
  obtain ⟨fuel, hf⟩ := h
  have hlt := DataW.trod_lt fuel _ _ _ hf
  rcases open_ints Try.underlying24 Try.underlying5 (by kernel_rfl) hf with ⟨hcs, _⟩ | ⟨x, l, c', zs, hcs, _, hl, hm, hz, hx, hcell, hwz⟩
  · simp [Value.cells] at hcs
    obtain ⟨rfl, rfl, rfl⟩ := hcs
    exact ⟨none, 0, 0, [], rfl, Rd.nil W⟩
  · simp [Value.cells] at hcs
    obtain ⟨rfl, rfl, rfl⟩ := hcs
    rw [if_pos rfl] at hz
    have h8 : ∀ z ∈ zs, 0 ≤ z ∧ z < 256 := fun z hz => by
      have := hwz z hz
      simp [Lit.wf, IntKind.min, IntKind.max, IntKind.signed, IntKind.bits] at this
      omega
    refine ⟨some x, n, c, (zs.take n).map (fun z => UInt8.ofNat z.toNat), rfl, by simp; omega, hl, hm, fun hn => ?_⟩
    have h0 := hcell 0 (by omega)
    obtain ⟨b, off, spot⟩ := x
    have hs : spot = none := by simpa [Addr.add] using World.cell?_spot h0
    subst hs
    refine ⟨b, off, rfl, block_lt_of_cell h0, fun i hi => ?_⟩
    have hi' := hcell i (by omega)
    have hadd : (⟨b, off, none⟩ : Addr).add i = ⟨b, off + i, none⟩ := by unfold Addr.add; split <;> simp_all
    rw [hadd] at hi'
    rw [hi']
    have hzi : zs.getD i 0 = zs[i]'(by omega) := by simp [List.getD, List.getElem?_eq_getElem (show i < zs.length by omega)]
    have := h8 (zs[i]'(by omega)) (List.getElem_mem _)
    rw [hzi]
    simp [List.getD, hi, List.getElem?_eq_getElem (show i < zs.length by omega)]
    omega
end
end Go.Proofs.Ytjpchjbbfbmjgaa
