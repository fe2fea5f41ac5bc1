/- THE STATEMENT Rows.GatePlaysSaid AND ITS CARD. -/
import Derived.Test.YtfffjaijflbeaaaDoorGatePlaysL
import Derived.Test.YtfffjaijflbeaaaDoorGateOpen
import Derived.Test.YtfffjaijflbeaaaDoorLaidN
import Derived.Test.YtfffjaijflbeaaaDoorOpen
namespace Go.Proofs.YtfffjaijflbeaaaDoor
set_option linter.unusedSimpArgs false
set_option linter.unusedVariables false
open Go.ChangeShapes Go.WideShapes Go.ChangeAt Go.RowKit
open Go.ChangeMaps (open_string shut_string)
set_option maxRecDepth 100000 in
theorem gatePlays_contract (H : Type) (enc : TypeId × Value → H) (W : World) (base : Nat) (args : Array Value) (ds gs : List (DataW H)) (before : List MemPlace) (vt : List TypeId)
    (hval : ∀ (j : Nat) t v, Tryd.f3.params[j]? = some t → args[j]? = some v → Value.okWide Tryd.prog W .any base t v)
    (hW : DataW.Whole enc Tryd.prog Tryd.f3.params.toList Rows.gatePlaysSpec.vars false W args.toList ds gs before) (hL : laidMetH Tryd.prog Rows.gatePlaysRow.laid W)
    (hZ : (DataW.weightsEach Tryd.prog (Tryd.f3.params.toList ++ vt) (ds ++ gs)).all (· ≤ reachBytes) = true) :
    Calls Tryd.prog 3 args W fun e W' => ∃ v, e = .returned v ∧ Rows.gatePlaysSpec.post enc Tryd.prog Tryd.f3 false true false false W args v W' := by
  have hW' := hW
  obtain ⟨p, q, hA0, hV, rfl, hfz, hnd⟩ := hW
  have hA : DataW.TrodAll enc Tryd.prog W 0 (fun _ => true) true Tryd.f3.params.toList args.toList ds p := hA0
  rw [Tryd.params3] at hA hval hZ
  obtain ⟨v0, vs0, d0, ds0, p0, q0, hargs, rfl, rfl, h0, r0⟩ := trodAll_cons hA
  obtain ⟨v1, vs1, d1, ds1, p1, q1, rfl, rfl, rfl, h1, r1⟩ := trodAll_cons r0
  obtain ⟨rfl, rfl, rfl⟩ := trodAll_nil r1
  obtain rfl : args = #[v0, v1] := by cases args; simp_all
  obtain ⟨rfl, rfl⟩ := trodVars_none hV
  have wz : ∀ (j : Nat) t d, _ → _ → ∀ n ∈ DataW.weights Tryd.prog t d, n ≤ reachBytes := fun j t d ht hd n hn => of_decide_eq_true (List.all_eq_true.1 hZ n (DataW.weights_mem_each (j := j) ht hd n hn))
  have k0 := h0
  have lt0 : ∀ x ∈ p0, x.block < W.heap.size := by obtain ⟨m, hm⟩ := k0; exact DataW.trod_lt m _ _ _ hm
  have k1 := h1
  have lt1 : ∀ x ∈ p1, x.block < W.heap.size := by obtain ⟨m, hm⟩ := k1; exact DataW.trod_lt m _ _ _ hm
  obtain ⟨a0_0, a0_1, a0_2, a0_3, A0_, c0_, l0_, rfl, q0_⟩ := open_cfg (hval 0 24 v0 rfl rfl) h0 (wz 0 24 d0 rfl rfl)
  obtain ⟨A1_, c1_, l1_, rfl, hr1_, hb1_, hq1_⟩ := open_row Tryd.underlying25 opg_rds (by kernel_rfl) (by decide) (hval 1 25 v1 rfl rfl) h1 (wz 1 25 d1 rfl rfl)
  have hl1_ : l1_.length ≤ reachBytes := Nat.le_trans (Nat.le_mul_of_pos_right _ (of_decide_eq_true (by kernel_rfl))) hb1_
  clear hA0
  refine (L_subwaylaw11_GatePlays_walk A0_ c0_ A1_ c1_ a0_0 a0_1 a0_2 a0_3 l0_ l1_ W (laid_of hL) q0_.2.2.2.2.1 hr1_ true (gatePlays_plain _ _ _ _ _ _ (cfg_q q0_).1 (cfg_q q0_).2 (opg_q hl1_ hq1_).1 (opg_q hl1_ hq1_).2)).mono fun e W' ⟨he, bel0⟩ => ?_
  have bel := SP.keeps bel0
  subst he
  exact ⟨_, rfl, _, _, _, [], _, [], hW', trodAll_mk1 (shut_bool Tryd.underlying4 _), (trodAll_cons_mk (Below.trod laidOut (by kernel_rfl) (of_decide_eq_true (by kernel_rfl)) k0 bel lt0) (trodAll_cons_mk (Below.trod laidOut (by kernel_rfl) (of_decide_eq_true (by kernel_rfl)) k1 bel lt1) trodAll_mk0)), rfl, bel.frame _, fun h => by cases h⟩
theorem gatePlays_laid_met (os : Os) : laidMet Tryd.prog Rows.gatePlaysRow.laid ((laidWorld os).forCall (fun _ _ => 0) ⟨#[], #[.agg #[.int .i64 0, .int .i64 0, .int .i64 0, .int .i64 0, .slice none 0 0], .slice none 0 0], []⟩).memory :=
  laidMet_of_run' 8 (by kernel_rfl) (by kernel_rfl)
theorem gatePlays_reads (os : Os) {H : Type} (enc : TypeId × Value → H) : ∃ places, DataW.whole enc Tryd.prog ((laidWorld os).forCall (fun _ _ => 0) ⟨#[], #[.agg #[.int .i64 0, .int .i64 0, .int .i64 0, .int .i64 0, .slice none 0 0], .slice none 0 0], []⟩).memory Tryd.f3.params.toList Rows.gatePlaysSpec.vars false [.agg #[.int .i64 0, .int .i64 0, .int .i64 0, .int .i64 0, .slice none 0 0], .slice none 0 0] 8 = some ([.agg [.lit (.int .i64 0), .lit (.int .i64 0), .lit (.int .i64 0), .lit (.int .i64 0), .nil], .nil], [], places) :=
  ⟨[], by kernel_rfl⟩
set_option maxRecDepth 100000 in
theorem gatePlays_lifted (os : Os) (started : os.Started) (H : Type) (enc : TypeId × Value → H) (F : Stop.Interp) :
    ReturnsInHanded {} Tryd.checked os 3 .any ((OpenSpec.ofChange Rows.gatePlaysSpec).preRow enc Tryd.prog Tryd.f3 Rows.gatePlaysRow.domain false Rows.gatePlaysRow.laid) (((OpenSpec.ofChange Rows.gatePlaysSpec).at F).post enc Tryd.prog Tryd.f3 false true false false) := by
  obtain ⟨places, hx⟩ := gatePlays_reads os enc
  refine returnsInHanded_of_row (C := Tryd.checked) (s := OpenSpec.ofChange Rows.gatePlaysSpec) own started (by kernel_rfl) Tryd.func3
    (witness_row_at (enc := enc) (C := Tryd.checked) false (laidWorld os) #[.agg #[.int .i64 0, .int .i64 0, .int .i64 0, .int .i64 0, .slice none 0 0], .slice none 0 0] rfl (by kernel_rfl) (by kernel_rfl) (by kernel_rfl)
      (OpenSpec.preRow_of_cond 8 hx (by kernel_rfl) (fun k hk => by cases hk) (by kernel_rfl) (gatePlays_laid_met os))) ?_
  intro W base args ds gs before hval hW _ _ hZ hL _ _
  exact gatePlays_contract H enc W base args ds gs before _ hval hW hL hZ
theorem gatePlays_said : Rows.GatePlaysSaid :=
  OpenClaim.holds_of_cond 3 Tryd.f3 rfl rfl rfl rfl rfl rfl rfl ⟨rfl, rfl, rfl, rfl, rfl⟩ rfl rfl rfl rfl rfl (by kernel_rfl) Tryd.func3 (by kernel_rfl)
    (of_decide_eq_true (by kernel_rfl)) (by unfold Func.isWrapper; first | (rw [if_pos (by decide +kernel)]; kernel_rfl) | (rw [if_neg (by decide +kernel)]; exact ⟨rfl, rfl⟩))
    (fun os started H enc _ F => by rw [OpenClaim.pre_eq_preRow]; exact gatePlays_lifted os started H enc F)
theorem gatePlays_plain_row (f : FuncId) (fn : Func) (hf : Tryd.pinned.checked.prog.funcNamed Rows.gatePlaysRow.func = some f) (hfn : Tryd.pinned.checked.prog.funcs[f]? = some fn) :
    false = Tryd.pinned.checked.prog.looks [] ∧ ∀ (j : Nat) t, fn.params[j]? = some t → Tryd.pinned.checked.prog.wantsStandIn t = false := by
  obtain rfl : f = 3 := Option.some.inj ((show Tryd.prog.funcNamed Rows.gatePlaysRow.func = some 3 by kernel_rfl).symm.trans hf) |>.symm
  obtain rfl : fn = Tryd.f3 := (Option.some.inj (Tryd.func3.symm.trans hfn)).symm
  refine ⟨by kernel_rfl, fun j t ht => ?_⟩
  have ha : (Tryd.f3.params.toList.all fun t => !Tryd.prog.wantsStandIn t) = true := by kernel_rfl
  rw [List.all_eq_true] at ha
  have := ha t (by rw [← Array.getElem?_toList] at ht; exact List.mem_of_getElem? ht)
  have h2 : Tryd.prog.wantsStandIn t = false := by simpa using this
  exact h2
theorem gatePlays_card : Rows.GatePlaysCardSaid :=
  Claim7.holds_tied_plain_at .later [] _ _ _ _ gatePlays_said (fun _ h => by cases h) (by kernel_rfl) (fun _ h => by cases h) gatePlays_row_tie rfl ⟨rfl, rfl⟩ (by kernel_rfl) rfl gatePlays_plain_row (by kernel_rfl)
#print axioms gatePlays_card
end Go.Proofs.YtfffjaijflbeaaaDoor
