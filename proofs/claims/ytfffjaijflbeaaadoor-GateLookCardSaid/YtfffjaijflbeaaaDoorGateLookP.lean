/- THE STATEMENT Rows.GateLookSaid AND ITS CARD. -/
import Derived.Test.YtfffjaijflbeaaaDoorGateLookL
import Derived.Test.YtfffjaijflbeaaaDoorGateOpen
import Derived.Test.YtfffjaijflbeaaaDoorLaidN
import Derived.Test.YtfffjaijflbeaaaDoorOpen
namespace Go.Proofs.YtfffjaijflbeaaaDoor
set_option linter.unusedSimpArgs false
set_option linter.unusedVariables false
open Go.ChangeShapes Go.WideShapes Go.ChangeAt Go.RowKit
open Go.ChangeMaps (open_string shut_string)
set_option maxRecDepth 100000 in
theorem gateLook_contract (H : Type) (enc : TypeId × Value → H) (W : World) (base : Nat) (args : Array Value) (ds gs : List (DataW H)) (before : List MemPlace) (vt : List TypeId)
    (hval : ∀ (j : Nat) t v, Tryd.f8.params[j]? = some t → args[j]? = some v → Value.okWide Tryd.prog W .any base t v)
    (hW : DataW.Whole enc Tryd.prog Tryd.f8.params.toList Rows.gateLookSpec.vars false W args.toList ds gs before) (hL : laidMetH Tryd.prog Rows.gateLookRow.laid W)
    (hZ : (DataW.weightsEach Tryd.prog (Tryd.f8.params.toList ++ vt) (ds ++ gs)).all (· ≤ reachBytes) = true) :
    Calls Tryd.prog 8 args W fun e W' => ∃ v, e = .returned v ∧ Rows.gateLookSpec.post enc Tryd.prog Tryd.f8 false true false false W args v W' := by
  have hW' := hW
  obtain ⟨p, q, hA0, hV, rfl, hfz, hnd⟩ := hW
  have hA : DataW.TrodAll enc Tryd.prog W 0 (fun _ => true) true Tryd.f8.params.toList args.toList ds p := hA0
  rw [Tryd.params8] at hA hval hZ
  obtain ⟨v0, vs0, d0, ds0, p0, q0, hargs, rfl, rfl, h0, r0⟩ := trodAll_cons hA
  obtain ⟨v1, vs1, d1, ds1, p1, q1, rfl, rfl, rfl, h1, r1⟩ := trodAll_cons r0
  obtain ⟨v2, vs2, d2, ds2, p2, q2, rfl, rfl, rfl, h2, r2⟩ := trodAll_cons r1
  obtain ⟨v3, vs3, d3, ds3, p3, q3, rfl, rfl, rfl, h3, r3⟩ := trodAll_cons r2
  obtain ⟨rfl, rfl, rfl⟩ := trodAll_nil r3
  obtain rfl : args = #[v0, v1, v2, v3] := by cases args; simp_all
  obtain ⟨rfl, rfl⟩ := trodVars_none hV
  have wz : ∀ (j : Nat) t d, _ → _ → ∀ n ∈ DataW.weights Tryd.prog t d, n ≤ reachBytes := fun j t d ht hd n hn => of_decide_eq_true (List.all_eq_true.1 hZ n (DataW.weights_mem_each (j := j) ht hd n hn))
  have k0 := h0
  have lt0 : ∀ x ∈ p0, x.block < W.heap.size := by obtain ⟨m, hm⟩ := k0; exact DataW.trod_lt m _ _ _ hm
  have k1 := h1
  have lt1 : ∀ x ∈ p1, x.block < W.heap.size := by obtain ⟨m, hm⟩ := k1; exact DataW.trod_lt m _ _ _ hm
  have k2 := h2
  have lt2 : ∀ x ∈ p2, x.block < W.heap.size := by obtain ⟨m, hm⟩ := k2; exact DataW.trod_lt m _ _ _ hm
  have k3 := h3
  have lt3 : ∀ x ∈ p3, x.block < W.heap.size := by obtain ⟨m, hm⟩ := k3; exact DataW.trod_lt m _ _ _ hm
  obtain ⟨a0_0, a0_1, a0_2, a0_3, A0_, c0_, l0_, rfl, q0_⟩ := open_cfg (hval 0 24 v0 rfl rfl) h0 (wz 0 24 d0 rfl rfl)
  obtain ⟨A1_, c1_, l1_, rfl, hr1_, hb1_, hq1_⟩ := open_row Tryd.underlying25 opg_rds (by kernel_rfl) (by decide) (hval 1 25 v1 rfl rfl) h1 (wz 1 25 d1 rfl rfl)
  have hl1_ : l1_.length ≤ reachBytes := Nat.le_trans (Nat.le_mul_of_pos_right _ (of_decide_eq_true (by kernel_rfl))) hb1_
  obtain ⟨s2_, rfl, ed2_, _, hs2_⟩ := open_string Tryd.underlying9 (hval 2 9 v2 rfl rfl) h2
  have hn2_ : s2_.data.toList.length ≤ reachBytes := (wz 2 9 d2 rfl rfl) _ (by rw [ed2_]; simp [DataW.weights])
  obtain ⟨i3_, rfl, _, _, w3_⟩ := open_int Tryd.underlying33 (hval 3 33 v3 rfl rfl) h3
  have x3_ := w3_
  simp [Lit.wf, IntKind.min, IntKind.max, IntKind.signed, IntKind.bits] at x3_
  clear hA0
  refine (L_subwaylaw11_GateLook_walk A0_ c0_ A1_ c1_ a0_0 a0_1 a0_2 a0_3 l0_ l1_ s2_.data.toList i3_ W (laid_of hL) q0_.2.2.2.2.1 hr1_ true (gateLook_plain _ _ _ _ _ _ _ _ (by omega) (cfg_q q0_).1 (cfg_q q0_).2 (opg_q hl1_ hq1_).1 (opg_q hl1_ hq1_).2)).mono fun e W' ⟨he, bel0⟩ => ?_
  have bel := SP.keeps bel0
  subst he
  exact ⟨_, rfl, _, _, _, [], _, [], hW', trodAll_mk1 (shut_bool Tryd.underlying4 _), (trodAll_cons_mk (Below.trod laidOut (by kernel_rfl) (of_decide_eq_true (by kernel_rfl)) k0 bel lt0) (trodAll_cons_mk (Below.trod laidOut (by kernel_rfl) (of_decide_eq_true (by kernel_rfl)) k1 bel lt1) (trodAll_cons_mk (Below.trod laidOut (by kernel_rfl) (of_decide_eq_true (by kernel_rfl)) k2 bel lt2) (trodAll_cons_mk (Below.trod laidOut (by kernel_rfl) (of_decide_eq_true (by kernel_rfl)) k3 bel lt3) trodAll_mk0)))), rfl, bel.frame _, fun h => by cases h⟩
theorem gateLook_laid_met (os : Os) : laidMet Tryd.prog Rows.gateLookRow.laid ((laidWorld os).forCall (fun _ _ => 0) ⟨#[], #[.agg #[.int .i64 0, .int .i64 0, .int .i64 0, .int .i64 0, .slice none 0 0], .slice none 0 0, .string ⟨#[]⟩, .int .u32 0], []⟩).memory :=
  laidMet_of_run' 8 (by kernel_rfl) (by kernel_rfl)
theorem gateLook_reads (os : Os) {H : Type} (enc : TypeId × Value → H) : ∃ places, DataW.whole enc Tryd.prog ((laidWorld os).forCall (fun _ _ => 0) ⟨#[], #[.agg #[.int .i64 0, .int .i64 0, .int .i64 0, .int .i64 0, .slice none 0 0], .slice none 0 0, .string ⟨#[]⟩, .int .u32 0], []⟩).memory Tryd.f8.params.toList Rows.gateLookSpec.vars false [.agg #[.int .i64 0, .int .i64 0, .int .i64 0, .int .i64 0, .slice none 0 0], .slice none 0 0, .string ⟨#[]⟩, .int .u32 0] 8 = some ([.agg [.lit (.int .i64 0), .lit (.int .i64 0), .lit (.int .i64 0), .lit (.int .i64 0), .nil], .nil, .lit (.string []), .lit (.int .u32 0)], [], places) :=
  ⟨[], by kernel_rfl⟩
set_option maxRecDepth 100000 in
theorem gateLook_lifted (os : Os) (started : os.Started) (H : Type) (enc : TypeId × Value → H) (F : Stop.Interp) :
    ReturnsInHanded {} Tryd.checked os 8 .any ((OpenSpec.ofChange Rows.gateLookSpec).preRow enc Tryd.prog Tryd.f8 Rows.gateLookRow.domain false Rows.gateLookRow.laid) (((OpenSpec.ofChange Rows.gateLookSpec).at F).post enc Tryd.prog Tryd.f8 false true false false) := by
  obtain ⟨places, hx⟩ := gateLook_reads os enc
  refine returnsInHanded_of_row (C := Tryd.checked) (s := OpenSpec.ofChange Rows.gateLookSpec) own started (by kernel_rfl) Tryd.func8
    (witness_row_at (enc := enc) (C := Tryd.checked) false (laidWorld os) #[.agg #[.int .i64 0, .int .i64 0, .int .i64 0, .int .i64 0, .slice none 0 0], .slice none 0 0, .string ⟨#[]⟩, .int .u32 0] rfl (by kernel_rfl) (by kernel_rfl) (by kernel_rfl)
      (OpenSpec.preRow_of_cond 8 hx (by kernel_rfl) (fun k hk => by cases hk) (by kernel_rfl) (gateLook_laid_met os))) ?_
  intro W base args ds gs before hval hW _ _ hZ hL _ _
  exact gateLook_contract H enc W base args ds gs before _ hval hW hL hZ
theorem gateLook_said : Rows.GateLookSaid :=
  OpenClaim.holds_of_cond 8 Tryd.f8 rfl rfl rfl rfl rfl rfl rfl ⟨rfl, rfl, rfl, rfl, rfl⟩ rfl rfl rfl rfl rfl (by kernel_rfl) Tryd.func8 (by kernel_rfl)
    (of_decide_eq_true (by kernel_rfl)) (by unfold Func.isWrapper; first | (rw [if_pos (by decide +kernel)]; kernel_rfl) | (rw [if_neg (by decide +kernel)]; exact ⟨rfl, rfl⟩))
    (fun os started H enc _ F => by rw [OpenClaim.pre_eq_preRow]; exact gateLook_lifted os started H enc F)
theorem gateLook_plain_row (f : FuncId) (fn : Func) (hf : Tryd.pinned.checked.prog.funcNamed Rows.gateLookRow.func = some f) (hfn : Tryd.pinned.checked.prog.funcs[f]? = some fn) :
    false = Tryd.pinned.checked.prog.looks [] ∧ ∀ (j : Nat) t, fn.params[j]? = some t → Tryd.pinned.checked.prog.wantsStandIn t = false := by
  obtain rfl : f = 8 := Option.some.inj ((show Tryd.prog.funcNamed Rows.gateLookRow.func = some 8 by kernel_rfl).symm.trans hf) |>.symm
  obtain rfl : fn = Tryd.f8 := (Option.some.inj (Tryd.func8.symm.trans hfn)).symm
  refine ⟨by kernel_rfl, fun j t ht => ?_⟩
  have ha : (Tryd.f8.params.toList.all fun t => !Tryd.prog.wantsStandIn t) = true := by kernel_rfl
  rw [List.all_eq_true] at ha
  have := ha t (by rw [← Array.getElem?_toList] at ht; exact List.mem_of_getElem? ht)
  have h2 : Tryd.prog.wantsStandIn t = false := by simpa using this
  exact h2
theorem gateLook_card : Rows.GateLookCardSaid :=
  Claim7.holds_tied_plain_at .later [] _ _ _ _ gateLook_said (fun _ h => by cases h) (by kernel_rfl) (fun _ h => by cases h) gateLook_row_tie rfl ⟨rfl, rfl⟩ (by kernel_rfl) rfl gateLook_plain_row (by kernel_rfl)
#print axioms gateLook_card
end Go.Proofs.YtfffjaijflbeaaaDoor
