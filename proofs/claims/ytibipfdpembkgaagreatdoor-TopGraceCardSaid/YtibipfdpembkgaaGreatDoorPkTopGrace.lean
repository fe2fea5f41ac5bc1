import Derived.Test.YtibipfdpembkgaaGreatDoorPkTopGraceS
import Derived.Test.YtibipfdpembkgaaGreatDoorPkTopGraceP0
import Derived.Test.YtibipfdpembkgaaGreatDoorPkTopGraceP1
import Derived.Test.YtibipfdpembkgaaGreatDoorPkTopGraceP2
import Derived.Test.YtibipfdpembkgaaGreatDoorPkTopGraceP3
import Derived.Test.YtibipfdpembkgaaGreatDoorPkTopGraceP4
import Derived.Test.YtibipfdpembkgaaGreatDoorPkTopGraceP5
import Derived.Test.YtibipfdpembkgaaGreatDoorPkTopGraceP6
import Derived.Test.YtibipfdpembkgaaGreatDoorPkTopGraceP7
import Derived.Test.YtibipfdpembkgaaGreatDoorPkTopGraceP8
set_option linter.unusedSimpArgs false
set_option linter.unusedVariables false
set_option linter.unusedSectionVars false
set_option maxRecDepth 100000
set_option maxHeartbeats 40000000
namespace Go.Proofs.YtibipfdpembkgaaGreatDoor
open Go.Ev Go.RowKit
set_option maxRecDepth 100000
def okG (n : Nat) (b : Bool) : Prop := okT (fnE (clE U9 (prE TD TR true) 60) c3 [.q n, .b b] ⟨.e, .e, .h⟩) = true
theorem okG_all : ∀ n, n < 12 → ∀ b, okG n b
  | 0, _, false => (Q3 (Q3 gr0).1).1
  | 0, _, true => (Q3 (Q3 gr0).1).2
  | 1, _, false => (Q3 gr0).2
  | 1, _, true => (Q3 (Q3 gr1).1).1
  | 2, _, false => (Q3 (Q3 gr1).1).2
  | 2, _, true => (Q3 gr1).2
  | 3, _, false => (Q3 (Q3 gr2).1).1
  | 3, _, true => (Q3 (Q3 gr2).1).2
  | 4, _, false => (Q3 gr2).2
  | 4, _, true => (Q3 (Q3 gr3).1).1
  | 5, _, false => (Q3 (Q3 gr3).1).2
  | 5, _, true => (Q3 gr3).2
  | 6, _, false => (Q3 (Q3 gr4).1).1
  | 6, _, true => (Q3 (Q3 gr4).1).2
  | 7, _, false => (Q3 gr4).2
  | 7, _, true => (Q3 (Q3 gr5).1).1
  | 8, _, false => (Q3 (Q3 gr5).1).2
  | 8, _, true => (Q3 gr5).2
  | 9, _, false => (Q3 (Q3 gr6).1).1
  | 9, _, true => (Q3 (Q3 gr6).1).2
  | 10, _, false => (Q3 gr6).2
  | 10, _, true => (Q3 (Q3 gr7).1).1
  | 11, _, false => (Q3 (Q3 gr7).1).2
  | 11, _, true => (Q3 gr7).2
  | n + 12, h, _ => absurd h (by omega)
theorem B0 (i : Int) (b : Bool) (W : World) (h0 : 0 ≤ i) (h1 : i < 256) : Calls Tryz.prog 3 #[.int .u8 i, .bool b] W fun e W' => e = .returned (.bool true) ∧ Below W.heap.size W W' := by
  obtain ⟨n, rfl⟩ := Int.eq_ofNat_of_zero_le h0
  have hn : n < 256 := by omega
  refine Hr (g := .o (.o .h)) ctOk W (prS TD_ok TR_ok (fun _ => headS) W) Tryz.func3 (cF_ok Qt hM (Q3 k3).2) (show VRs (fun _ => none) [.q (n % 12), .b b] [.int .u8 n, .bool b] from ?_) (okG_all (n % 12) (Nat.mod_lt _ (by omega)) b)
  rw [VRs]
  refine ⟨_, _, rfl, by rw [VR]; exact ⟨n, rfl, hn, rfl⟩, ?_⟩
  rw [VRs]
  exact ⟨_, _, rfl, by rw [VR], by rw [VRs]⟩
end Go.Proofs.YtibipfdpembkgaaGreatDoor
namespace Go.Proofs.YtibipfdpembkgaaGreatDoor
open Go.ChangeShapes Go.WideShapes Go.ChangeAt Go.RowKit
open Go.ChangeMaps (open_string shut_string)
theorem Gf (H : Type) (enc : TypeId × Value → H) (W : World) (base : Nat) (args : Array Value) (ds gs : List (DataW H)) (before : List MemPlace) (vt : List TypeId)
    (hval : ∀ (j : Nat) t v, Tryz.f3.params[j]? = some t → args[j]? = some v → Value.okWide Tryz.prog W .any base t v)
    (hW : DataW.Whole enc Tryz.prog Tryz.f3.params.toList Rows.topGraceSpec.vars false W args.toList ds gs before) (hL : laidMetH Tryz.prog Rows.topGraceRow.laid W)
    (hZ : (DataW.weightsEach Tryz.prog (Tryz.f3.params.toList ++ vt) (ds ++ gs)).all (· ≤ reachBytes) = true) :
    Calls Tryz.prog 3 args W fun e W' => ∃ v, e = .returned v ∧ Rows.topGraceSpec.post enc Tryz.prog Tryz.f3 false true false false W args v W' := by
  have hW' := hW
  obtain ⟨p, q, hA0, hV, rfl, hfz, hnd⟩ := hW
  have hA : DataW.TrodAll enc Tryz.prog W 0 (fun _ => true) true Tryz.f3.params.toList args.toList ds p := hA0
  rw [Tryz.params3] at hA hval hZ
  obtain ⟨v0, vs0, d0, ds0, p0, q0, hargs, rfl, rfl, h0, r0⟩ := trodAll_cons hA
  obtain ⟨v1, vs1, d1, ds1, p1, q1, rfl, rfl, rfl, h1, r1⟩ := trodAll_cons r0
  obtain ⟨rfl, rfl, rfl⟩ := trodAll_nil r1
  obtain rfl : args = #[v0, v1] := by cases args; simp_all
  obtain ⟨rfl, rfl⟩ := trodVars_none hV
  have wz : ∀ (j : Nat) t d, _ → _ → ∀ n ∈ DataW.weights Tryz.prog t d, n ≤ reachBytes := fun j t d ht hd n hn => of_decide_eq_true (List.all_eq_true.1 hZ n (DataW.weights_mem_each (j := j) ht hd n hn))
  have k0 := h0
  have lt0 : ∀ x ∈ p0, x.block < W.heap.size := by obtain ⟨m, hm⟩ := k0; exact DataW.trod_lt m _ _ _ hm
  have k1 := h1
  have lt1 : ∀ x ∈ p1, x.block < W.heap.size := by obtain ⟨m, hm⟩ := k1; exact DataW.trod_lt m _ _ _ hm
  obtain ⟨i0_, rfl, _, _, w0_⟩ := open_int Tryz.underlying5 (hval 0 5 v0 rfl rfl) h0
  have x0_ := w0_
  simp [Lit.wf, IntKind.min, IntKind.max, IntKind.signed, IntKind.bits] at x0_
  obtain ⟨b1_, rfl, _⟩ := open_bool Tryz.underlying4 (hval 1 4 v1 rfl rfl) h1
  clear hA0
  refine (B0 i0_ b1_ W (by omega) (by omega)).mono fun e W' ⟨he, bel⟩ => ?_
  subst he
  exact ⟨_, rfl, _, _, _, [], _, [], hW', trodAll_mk1 (shut_bool Tryz.underlying4 _), (trodAll_cons_mk (Below.trod laidOut (by kernel_rfl) (of_decide_eq_true (by kernel_rfl)) k0 bel lt0) (trodAll_cons_mk (Below.trod laidOut (by kernel_rfl) (of_decide_eq_true (by kernel_rfl)) k1 bel lt1) trodAll_mk0)), rfl, bel.frame _, fun h => by cases h⟩
theorem Db (os : Os) {H : Type} (enc : TypeId × Value → H) : ∃ places, DataW.whole enc Tryz.prog ((R0 os).forCall (fun _ _ => 0) ⟨#[], #[.int .u8 0, .bool false], []⟩).memory Tryz.f3.params.toList Rows.topGraceSpec.vars false [.int .u8 0, .bool false] 8 = some ([.lit (.int .u8 0), .lit (.bool false)], [], places) :=
  ⟨[], by kernel_rfl⟩
theorem R2 (os : Os) (started : os.Started) (H : Type) (enc : TypeId × Value → H) (F : Stop.Interp) :
    ReturnsInHanded {} Tryz.checked os 3 .any ((OpenSpec.ofChange Rows.topGraceSpec).preRow enc Tryz.prog Tryz.f3 Rows.topGraceRow.domain false Rows.topGraceRow.laid) (((OpenSpec.ofChange Rows.topGraceSpec).at F).post enc Tryz.prog Tryz.f3 false true false false) := by
  obtain ⟨places, hx⟩ := Db os enc
  refine returnsInHanded_of_row (C := Tryz.checked) (s := OpenSpec.ofChange Rows.topGraceSpec) own started (by kernel_rfl) Tryz.func3
    (witness_row_at (enc := enc) (C := Tryz.checked) false (R0 os) #[.int .u8 0, .bool false] rfl (by kernel_rfl) (by kernel_rfl) (by kernel_rfl)
      (OpenSpec.preRow_of_cond 8 hx (by kernel_rfl) (fun k hk => by cases hk) (by kernel_rfl) (Ge os))) ?_
  intro W base args ds gs before hval hW _ _ hZ hL _ _
  exact Gf H enc W base args ds gs before _ hval hW hL hZ
theorem B4 : Rows.TopGraceSaid :=
  OpenClaim.holds_of_cond 3 Tryz.f3 rfl rfl rfl rfl rfl rfl rfl ⟨rfl, rfl, rfl, rfl, rfl⟩ rfl rfl rfl rfl rfl (by kernel_rfl) Tryz.func3 R1
    (of_decide_eq_true (by kernel_rfl)) (by unfold Func.isWrapper; first | (rw [if_pos (by decide +kernel)]; kernel_rfl) | (rw [if_neg (by decide +kernel)]; exact ⟨rfl, rfl⟩))
    (fun os started H enc _ F => by rw [OpenClaim.pre_eq_preRow]; exact R2 os started H enc F)
theorem topGrace_card : Rows.TopGraceCardSaid :=
  Claim7.holds_tied_plain_at .later [] _ _ _ _ B4 (fun _ h => by cases h) Ig (fun _ h => by cases h) topGrace_row_tie rfl ⟨rfl, rfl⟩ (by kernel_rfl) rfl Nt B3
#print axioms topGrace_card
end Go.Proofs.YtibipfdpembkgaaGreatDoor
