import Derived.Test.YtibipfdpembkgaaGreatDoorPkTopGrace7
set_option linter.unusedSimpArgs false
set_option linter.unusedVariables false
set_option linter.unusedSectionVars false
set_option maxRecDepth 100000
set_option maxHeartbeats 40000000
namespace Go.Proofs.YtibipfdpembkgaaGreatDoor
open Go.ChangeShapes Go.WideShapes Go.ChangeAt Go.RowKit
open Go.ChangeMaps (open_string shut_string)
theorem Ge (os : Os) : laidMet Tryz.prog Rows.topGraceRow.laid ((R0 os).forCall (fun _ _ => 0) ⟨#[], #[.int .u8 0, .bool false], []⟩).memory :=
  laidMet_of_run' 8 (by kernel_rfl) (by kernel_rfl)
theorem Fp : (Rows.topGraceRow.inPlace == Tryz.pinned.checked.prog.inPlace 3) = true := by kernel_rfl
theorem Fq : (Rows.topGraceRow.unfollowed == Tryz.pinned.checked.prog.unfollowed 3) = true := by kernel_rfl
theorem Fs : (Rows.topGraceRow.recurses == Tryz.pinned.checked.prog.recurses 3) = true := by kernel_rfl
theorem Ft : (Rows.topGraceRow.named == Tryz.pinned.checked.prog.varsNamed 3) = true := by kernel_rfl
theorem R1 : joinedFacts Tryz.pinned.checked.prog 3 Tryz.f3 (OpenSpec.ofChange Rows.topGraceSpec).bare Rows.topGraceRow = true := by
  unfold joinedFacts
  rw [Fp, Fq, Fs, Ft]
  kernel_rfl
theorem Nt (f : FuncId) (fn : Func) (hf : Tryz.pinned.checked.prog.funcNamed Rows.topGraceRow.func = some f) (hfn : Tryz.pinned.checked.prog.funcs[f]? = some fn) :
    true = Tryz.pinned.checked.prog.looks [] ∧ ∀ (j : Nat) t, fn.params[j]? = some t → Tryz.pinned.checked.prog.wantsStandIn t = false := by
  obtain rfl : f = 3 := Option.some.inj ((show Tryz.prog.funcNamed Rows.topGraceRow.func = some 3 by kernel_rfl).symm.trans hf) |>.symm
  obtain rfl : fn = Tryz.f3 := (Option.some.inj (Tryz.func3.symm.trans hfn)).symm
  refine ⟨by kernel_rfl, fun j t ht => ?_⟩
  have ha : (Tryz.f3.params.toList.all fun t => !Tryz.prog.wantsStandIn t) = true := by kernel_rfl
  rw [List.all_eq_true] at ha
  have := ha t (by rw [← Array.getElem?_toList] at ht; exact List.mem_of_getElem? ht)
  have h2 : Tryz.prog.wantsStandIn t = false := by simpa using this
  exact h2
theorem Ig : Rows.topGraceRow.wfByText (OpenSpec.ofChange Rows.topGraceSpec) = true := by kernel_rfl
theorem goes_none {P : Program} (h : P.funcs.toList.any Func.goes = false) (f : FuncId) : P.goes f = false := by
  have h' : P.funcs.any Func.goes = false := by rw [← Array.any_toList]; exact h
  unfold Program.goes
  rw [h', Bool.and_false, Bool.or_false, List.any_eq_false]
  intro g _
  cases hf : P.funcs[g]? with
  | none => simp
  | some fn =>
    have hm : fn ∈ P.funcs.toList := by rw [← Array.getElem?_toList] at hf; exact List.mem_of_getElem? hf
    have := List.any_eq_false.1 h fn hm
    simpa using this
theorem B1 {P : Program} (h : P.funcs.toList.any Func.goes = false) (s : String) : P.goesFrom s = false := by
  unfold Program.goesFrom
  cases P.funcNamed s with
  | none => rfl
  | some f => exact goes_none h f
theorem Fu {P : Program} {c : OpenClaim} (h : P.funcs.toList.any Func.goes = false) (hs : c.start = .entering) : false = c.goesBy P := by
  unfold OpenClaim.goesBy Program.goesAt
  rw [B1 h, hs]; rfl
theorem B2 : Tryz.pinned.checked.prog.funcs.toList.any Func.goes = false := by kernel_rfl
theorem B3 : false = Rows.topGraceRow.goesBy Tryz.pinned.checked.prog := Fu B2 rfl
end Go.Proofs.YtibipfdpembkgaaGreatDoor
