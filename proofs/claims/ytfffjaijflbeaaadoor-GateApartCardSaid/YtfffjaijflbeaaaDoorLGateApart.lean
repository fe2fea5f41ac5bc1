/- LIFTED BY PROGRAM (tools/lift.py): what functions compute, and that they do. -/
import Derived.Test.YtfffjaijflbeaaaDoorLGH
namespace Go.Proofs.YtfffjaijflbeaaaDoor
set_option linter.unusedSimpArgs false
set_option linter.unusedVariables false
open Go.RowKit

/-! L_subwaylaw11_GateApart -/
def L_subwaylaw11_GateApart_k38 (rec32 : (List (List Int)) → (List (List Int)) → Int → Option (Bool)) (v1703 : Int) (v2608 : (List (List Int))) (v2609 : (List (List Int))) (v2920 : Bool) : Option (Bool) :=
  (cond v2920 (some (false)) (rec32 v2608 v2609 (IntKind.wrap .i64 (v1703 + 1))))
def L_subwaylaw11_GateApart_k37 (rec32 : (List (List Int)) → (List (List Int)) → Int → Option (Bool)) (pTenants5 : (List TenantL)) (p14 : (List UInt8)) (v1703 : Int) (x2510 : (Int × (List UInt8) × Int × Int)) (v2608 : (List (List Int))) (v2609 : (List (List Int))) : Option (Bool) :=
  ((L_gate_Gate_Used pTenants5 v2608 p14 1).bind fun z2924 => ((L_gate_Gate_Used pTenants5 v2609 p14 1).bind fun z2930 => (cond (z2924 != z2930) (L_subwaylaw11_GateApart_k38 rec32 v1703 v2608 v2609 true) ((L_gate_Gate_Used pTenants5 v2608 p14 2).bind fun z2967 => ((L_gate_Gate_Used pTenants5 v2609 p14 2).bind fun z2973 => (cond (z2967 != z2973) (L_subwaylaw11_GateApart_k38 rec32 v1703 v2608 v2609 true) ((L_gate_Gate_Admit pTenants5 v2608 p14 x2510.2.2.2).bind fun z3057 => ((L_gate_Gate_Admit pTenants5 v2609 p14 x2510.2.2.2).bind fun z3063 => (L_subwaylaw11_GateApart_k38 rec32 v1703 v2608 v2609 (z3057 != z3063))))))))))
def L_subwaylaw11_GateApart_k39 (rec32 : (List (List Int)) → (List (List Int)) → Int → Option (Bool)) (pTenants5 : (List TenantL)) (p14 : (List UInt8)) (v1703 : Int) (x2510 : (Int × (List UInt8) × Int × Int)) (z3233 : (Bool × (List (List Int)))) (v3246 : (List (List Int))) (v3247 : Bool) : Option (Bool) :=
  (cond v3247 (some (false)) (L_subwaylaw11_GateApart_k37 rec32 pTenants5 p14 v1703 x2510 z3233.2 v3246))
def L_subwaylaw11_GateApart_k41 (rec32 : (List (List Int)) → (List (List Int)) → Int → Option (Bool)) (pTenants5 : (List TenantL)) (p14 : (List UInt8)) (v1703 : Int) (x2510 : (Int × (List UInt8) × Int × Int)) (v3284 : (List (List Int))) (v3285 : (List (List Int))) : Option (Bool) :=
  (L_subwaylaw11_GateApart_k37 rec32 pTenants5 p14 v1703 x2510 v3284 v3285)
def L_subwaylaw11_GateApart_k42 (rec32 : (List (List Int)) → (List (List Int)) → Int → Option (Bool)) (pTenants5 : (List TenantL)) (p14 : (List UInt8)) (v1703 : Int) (x2510 : (Int × (List UInt8) × Int × Int)) (z3289 : (Int × (List (List Int)))) (v3302 : (List (List Int))) (v3303 : Bool) : Option (Bool) :=
  (cond v3303 (some (false)) (L_subwaylaw11_GateApart_k41 rec32 pTenants5 p14 v1703 x2510 z3289.2 v3302))
def L_subwaylaw11_GateApart_b22 (rec32 : (List (List Int)) → (List (List Int)) → Int → Option (Bool)) (pTenants5 : (List TenantL)) (p10 : (List (Int × (List UInt8) × Int × Int))) (p14 : (List UInt8)) (z19 : (Bool)) (v1701 : (List (List Int))) (v1702 : (List (List Int))) (v1703 : Int) : Option (Bool) :=
  (cond (decide (v1703 < ((List.length p10 : Nat) : Int))) ((idx p10 v1703).bind fun x2510 => (cond (x2510.1 == 2) ((L_gate_Gate_Give pTenants5 v1701 x2510.2.1 x2510.2.2.1).bind fun z3233 => (cond (x2510.2.1 == p14) ((L_gate_Gate_Give pTenants5 v1702 x2510.2.1 x2510.2.2.1).bind fun z3252 => (L_subwaylaw11_GateApart_k39 rec32 pTenants5 p14 v1703 x2510 z3233 z3252.2 (!(z3233.1 == z3252.1)))) (L_subwaylaw11_GateApart_k39 rec32 pTenants5 p14 v1703 x2510 z3233 v1702 false))) (cond (x2510.1 != 3) ((L_gate_Gate_Take pTenants5 v1701 x2510.2.1 x2510.2.2.1).bind fun z3289 => (cond (x2510.2.1 == p14) ((L_gate_Gate_Take pTenants5 v1702 x2510.2.1 x2510.2.2.1).bind fun z3308 => (L_subwaylaw11_GateApart_k42 rec32 pTenants5 p14 v1703 x2510 z3289 z3308.2 (z3289.1 != z3308.1))) (L_subwaylaw11_GateApart_k42 rec32 pTenants5 p14 v1703 x2510 z3289 v1702 false))) (L_subwaylaw11_GateApart_k41 rec32 pTenants5 p14 v1703 x2510 v1701 v1702)))) (some (z19)))
def L_subwaylaw11_GateApart_l22 (pTenants5 : (List TenantL)) (p10 : (List (Int × (List UInt8) × Int × Int))) (p14 : (List UInt8)) (z19 : (Bool)) : Nat → (List (List Int)) → (List (List Int)) → Int → Option (Bool)
  | 0, _, _, _ => none
  | f + 1, v1701, v1702, v1703 => L_subwaylaw11_GateApart_b22  (L_subwaylaw11_GateApart_l22 pTenants5 p10 p14 z19 f) pTenants5 p10 p14 z19 v1701 v1702 v1703
def L_subwaylaw11_GateApart_k1 (pTenants5 : (List TenantL)) (p10 : (List (Int × (List UInt8) × Int × Int))) (p14 : (List UInt8)) (z19 : (Bool)) (o27 : ((List (List Int)))) (o55 : ((List (List Int)))) (v81 : Bool) : Option (Bool) :=
  (cond v81 (some (z19)) (L_subwaylaw11_GateApart_l22 pTenants5 p10 p14 z19 fuel o27 o55 0))
def L_subwaylaw11_GateApart (pWait1 : Int) (pGrace2 : Int) (pIdle3 : Int) (pLease4 : Int) (pTenants5 : (List TenantL)) (p10 : (List (Int × (List UInt8) × Int × Int))) (p14 : (List UInt8)) : Option (Bool) :=
  ((L_subwaylaw11_head ).bind fun z19 => ((L_gate_New pWait1 pGrace2 pIdle3 pLease4 pTenants5).bind fun z25 => (optE z25 ((L_gate_New pWait1 pGrace2 pIdle3 pLease4 pTenants5).bind fun z32 => (optE z32 (some (z19)) (fun o34 => (some (z19))))) (fun o27 => ((L_gate_New pWait1 pGrace2 pIdle3 pLease4 pTenants5).bind fun z53 => (optE z53 (some (z19)) (fun o55 => ((L_subwaylaw09_Great pWait1 pGrace2 pIdle3 pLease4 pTenants5).bind fun z3314 => (cond z3314 (L_subwaylaw11_GateApart_k1 pTenants5 p10 p14 z19 o27 o55 true) ((L_subwaylaw11_great p10).bind fun z3321 => (cond z3321 (L_subwaylaw11_GateApart_k1 pTenants5 p10 p14 z19 o27 o55 true) (L_subwaylaw11_GateApart_k1 pTenants5 p10 p14 z19 o27 o55 (decide (((List.length p14 : Nat) : Int) > 1000))))))))))))))
set_option maxRecDepth 100000 in
set_option maxHeartbeats 4000000 in
theorem L_subwaylaw11_GateApart_walk (A6 : Option Addr) (c7 : Nat) (A11 : Option Addr) (c12 : Nat) (pWait1 : Int) (pGrace2 : Int) (pIdle3 : Int) (pLease4 : Int) (d9 : (List TenantD)) (p10 : (List (Int × (List UInt8) × Int × Int))) (p14 : (List UInt8)) (w0 : World) (hL : LaidW w0) (hr8 : (dDS eTen dTen).ok w0 (A6, c7, d9)) (hr13 : RdT (ePair (eInt .i64) (ePair eStr (ePair (eInt .i64) (eInt .u32)))) w0 A11 c12 p10) (r : (Bool)) (H : L_subwaylaw11_GateApart pWait1 pGrace2 pIdle3 pLease4 (List.map stT d9) p10 p14 = some r) :
  Calls Tryd.prog 5 #[(.agg #[(.int .i64 pWait1), (.int .i64 pGrace2), (.int .i64 pIdle3), (.int .i64 pLease4), (.slice A6 (List.length (List.map stT d9)) c7)]), (.slice A11 (List.length p10) c12), (.string ⟨List.toArray p14⟩)] w0 (fun e w' => e = .returned (.bool r) ∧ SP [] w0 w' []) := by
 unfold L_subwaylaw11_GateApart at H
 refine calls_go (n := 124) Tryd.func5 K K K ?_
 have hs0 := SP.start [] w0
 refine At.sq K ?_
 refine At.region K K ?_
 refine In.step (k' := 1) rfl K ?_
 refine Step.box (t := 24) (x := (.tmp 0)) (v := (.agg #[(.int .i64 pWait1), (.int .i64 pGrace2), (.int .i64 pIdle3), (.int .i64 pLease4), (.slice A6 (List.length (List.map stT d9)) c7)])) (d := (some 3)) (k := 0) K rfl K hs0 ?_
 intro g15 w16 (hs18 : SP [] w0 w16 [boxE g15 24 #[(.int .i64 pWait1), (.int .i64 pGrace2), (.int .i64 pIdle3), (.int .i64 pLease4), (.slice A6 (List.length (List.map stT d9)) c7)]])
 refine In.run' 1 (k' := 2) rfl [(6, (.bool false))] K ?_
 refine In.fin K ?_
 refine At.sq K ?_
 refine At.region K K ?_
 obtain ⟨z19, hz20, H⟩ := bind_elim H
 refine In.step (k' := 1) rfl K ?_
 refine Step.callF (f := 9) (fo := (.func 9)) (xs := #[]) (tys := #[]) (first := #[]) (captured := #[]) (d := (some 15)) (k := 0) K rfl K K Tryd.call9 (L_subwaylaw11_head_walk   w16 (laid_below hL (SP.keeps hs18)) z19 hz20) ?_
 rintro e w21 ⟨rfl, hs22⟩
 refine ⟨_, rfl, ?_⟩
 have hs24 : SP [] w0 w21 [boxE g15 24 #[(.int .i64 pWait1), (.int .i64 pGrace2), (.int .i64 pIdle3), (.int .i64 pLease4), (.slice A6 (List.length (List.map stT d9)) c7)]] := SP.call hs18 hs22
 clear hs22
 refine In.run' 1 (k' := 2) rfl [(7, (.bool z19))] K ?_
 refine In.fin K ?_
 refine At.sq K ?_
 refine At.region K K ?_
 refine In.step (k' := 1) rfl K ?_
 refine Step.load (t := 24) (x := (.tmp 3)) (g := g15) (off := 0) (i := 0) (v := (.agg #[(.int .i64 pWait1), (.int .i64 pGrace2), (.int .i64 pIdle3), (.int .i64 pLease4), (.slice A6 (List.length (List.map stT d9)) c7)])) (d := (some 16)) (k := 0) K rfl K hs24 rfl K ?_
 obtain ⟨z25, hz26, H⟩ := bind_elim H
 rcases z25 with _ | o27
 ·have H := optN H
  refine In.step (k' := 2) rfl K ?_
  refine Step.callF (f := 12) (fo := (.func 12)) (xs := #[(.tmp 16)]) (tys := #[24]) (first := #[]) (captured := #[]) (d := (some 17)) (k := 1) K rfl K K Tryd.call12 (L_gate_New_walk A6 c7 pWait1 pGrace2 pIdle3 pLease4 d9 w21 (laid_below hL (SP.keeps hs24)) (Dp.sp hr8 hs24) none hz26) ?_
  rintro e w28 ⟨rfl, hs29⟩
  refine ⟨_, rfl, ?_⟩
  have hs31 : SP [] w0 w28 [boxE g15 24 #[(.int .i64 pWait1), (.int .i64 pGrace2), (.int .i64 pIdle3), (.int .i64 pLease4), (.slice A6 (List.length (List.map stT d9)) c7)]] := SP.call hs24 hs29
  clear hs29
  refine In.run' 1 (k' := 3) rfl [(8, (.pointer none))] K ?_
  refine In.fin K ?_
  refine At.sq K ?_
  refine At.region K K ?_
  refine In.step (k' := 1) rfl K ?_
  refine Step.load (t := 24) (x := (.tmp 3)) (g := g15) (off := 0) (i := 0) (v := (.agg #[(.int .i64 pWait1), (.int .i64 pGrace2), (.int .i64 pIdle3), (.int .i64 pLease4), (.slice A6 (List.length (List.map stT d9)) c7)])) (d := (some 18)) (k := 0) K rfl K hs31 rfl K ?_
  obtain ⟨z32, hz33, H⟩ := bind_elim H
  rcases z32 with _ | o34
  ·have H := optN H
   refine In.step (k' := 2) rfl K ?_
   refine Step.callF (f := 12) (fo := (.func 12)) (xs := #[(.tmp 18)]) (tys := #[24]) (first := #[]) (captured := #[]) (d := (some 19)) (k := 1) K rfl K K Tryd.call12 (L_gate_New_walk A6 c7 pWait1 pGrace2 pIdle3 pLease4 d9 w28 (laid_below hL (SP.keeps hs31)) (Dp.sp hr8 hs31) none hz33) ?_
   rintro e w35 ⟨rfl, hs36⟩
   refine ⟨_, rfl, ?_⟩
   have hs38 : SP [] w0 w35 [boxE g15 24 #[(.int .i64 pWait1), (.int .i64 pGrace2), (.int .i64 pIdle3), (.int .i64 pLease4), (.slice A6 (List.length (List.map stT d9)) c7)]] := SP.call hs31 hs36
   clear hs36
   refine In.run' 1 (k' := 3) rfl [(9, (.pointer none))] K ?_
   refine In.fin K ?_
   refine At.sq K ?_
   refine At.sq K ?_
   refine At.region K K ?_
   refine In.run' 19 (k' := 19) rfl [(20, (.pointer none)), (21, (.bool true)), (22, (.bool true)), (23, undef), (24, undef), (25, (.bool true)), (26, (.bool true)), (27, undef), (28, undef), (29, (.bool true)), (30, (.bool true)), (31, undef), (32, undef), (33, (.bool true)), (34, (.bool true)), (35, undef), (36, undef), (37, undef), (38, (.bool true))] K ?_
   refine In.fin K ?_
   refine At.cd K (o := (.tmp 38)) K (b := true) K (fun hb39 => ?_) (fun hb39 => ?_)
   rotate_left
   ·cases hb39
   refine At.sq K ?_
   refine At.region K K ?_
   refine In.run' 2 (k' := 2) rfl [(39, (.bool z19)), (6, (.bool z19))] K ?_
   refine In.fin K ?_
   refine At.ret K ?_
   refine ⟨(.bool z19), K, ?_⟩
   obtain rfl := some_elim H
   exact ⟨rfl, SP.sel hs38 [] rfl rfl⟩
  ·have H := optS H
   refine In.step (k' := 2) rfl K ?_
   refine Step.callF (f := 12) (fo := (.func 12)) (xs := #[(.tmp 18)]) (tys := #[24]) (first := #[]) (captured := #[]) (d := (some 19)) (k := 1) K rfl K K Tryd.call12 (L_gate_New_walk A6 c7 pWait1 pGrace2 pIdle3 pLease4 d9 w28 (laid_below hL (SP.keeps hs31)) (Dp.sp hr8 hs31) (some o34) hz33) ?_
   rintro e w40 ⟨g42, F43, rfl, hs41⟩
   refine ⟨_, rfl, ?_⟩
   have hs45 : SP [] w0 w40 [boxE g15 24 #[(.int .i64 pWait1), (.int .i64 pGrace2), (.int .i64 pIdle3), (.int .i64 pLease4), (.slice A6 (List.length (List.map stT d9)) c7)], gateE g42 F43 d9 o34] := SP.call hs31 hs41
   clear hs41
   refine In.run' 1 (k' := 3) rfl [(9, (pt g42 0))] K ?_
   refine In.fin K ?_
   refine At.sq K ?_
   refine At.sq K ?_
   refine At.region K K ?_
   refine In.run' 19 (k' := 19) rfl [(20, (.pointer none)), (21, (.bool true)), (22, (.bool true)), (23, undef), (24, undef), (25, (.bool true)), (26, (.bool true)), (27, undef), (28, undef), (29, (.bool true)), (30, (.bool true)), (31, undef), (32, undef), (33, (.bool true)), (34, (.bool true)), (35, undef), (36, undef), (37, undef), (38, (.bool true))] K ?_
   refine In.fin K ?_
   refine At.cd K (o := (.tmp 38)) K (b := true) K (fun hb46 => ?_) (fun hb46 => ?_)
   rotate_left
   ·cases hb46
   refine At.sq K ?_
   refine At.region K K ?_
   refine In.run' 2 (k' := 2) rfl [(39, (.bool z19)), (6, (.bool z19))] K ?_
   refine In.fin K ?_
   refine At.ret K ?_
   refine ⟨(.bool z19), K, ?_⟩
   obtain rfl := some_elim H
   exact ⟨rfl, SP.sel hs45 [] rfl rfl⟩
 ·have H := optS H
  refine In.step (k' := 2) rfl K ?_
  refine Step.callF (f := 12) (fo := (.func 12)) (xs := #[(.tmp 16)]) (tys := #[24]) (first := #[]) (captured := #[]) (d := (some 17)) (k := 1) K rfl K K Tryd.call12 (L_gate_New_walk A6 c7 pWait1 pGrace2 pIdle3 pLease4 d9 w21 (laid_below hL (SP.keeps hs24)) (Dp.sp hr8 hs24) (some o27) hz26) ?_
  rintro e w47 ⟨g49, F50, rfl, hs48⟩
  refine ⟨_, rfl, ?_⟩
  have hs52 : SP [] w0 w47 [boxE g15 24 #[(.int .i64 pWait1), (.int .i64 pGrace2), (.int .i64 pIdle3), (.int .i64 pLease4), (.slice A6 (List.length (List.map stT d9)) c7)], gateE g49 F50 d9 o27] := SP.call hs24 hs48
  clear hs48
  refine In.run' 1 (k' := 3) rfl [(8, (pt g49 0))] K ?_
  refine In.fin K ?_
  refine At.sq K ?_
  refine At.region K K ?_
  refine In.step (k' := 1) rfl K ?_
  refine Step.load (t := 24) (x := (.tmp 3)) (g := g15) (off := 0) (i := 0) (v := (.agg #[(.int .i64 pWait1), (.int .i64 pGrace2), (.int .i64 pIdle3), (.int .i64 pLease4), (.slice A6 (List.length (List.map stT d9)) c7)])) (d := (some 18)) (k := 0) K rfl K hs52 rfl K ?_
  obtain ⟨z53, hz54, H⟩ := bind_elim H
  rcases z53 with _ | o55
  ·have H := optN H
   refine In.step (k' := 2) rfl K ?_
   refine Step.callF (f := 12) (fo := (.func 12)) (xs := #[(.tmp 18)]) (tys := #[24]) (first := #[]) (captured := #[]) (d := (some 19)) (k := 1) K rfl K K Tryd.call12 (L_gate_New_walk A6 c7 pWait1 pGrace2 pIdle3 pLease4 d9 w47 (laid_below hL (SP.keeps hs52)) (Dp.sp hr8 hs52) none hz54) ?_
   rintro e w56 ⟨rfl, hs57⟩
   refine ⟨_, rfl, ?_⟩
   have hs59 : SP [] w0 w56 [boxE g15 24 #[(.int .i64 pWait1), (.int .i64 pGrace2), (.int .i64 pIdle3), (.int .i64 pLease4), (.slice A6 (List.length (List.map stT d9)) c7)], gateE g49 F50 d9 o27] := SP.call hs52 hs57
   clear hs57
   refine In.run' 1 (k' := 3) rfl [(9, (.pointer none))] K ?_
   refine In.fin K ?_
   refine At.sq K ?_
   refine At.sq K ?_
   refine At.region K K ?_
   refine In.run' 19 (k' := 19) rfl [(20, (pt g49 0)), (21, (.bool false)), (22, (.bool false)), (23, (.pointer none)), (24, (.bool true)), (25, (.bool true)), (26, (.bool true)), (27, undef), (28, undef), (29, (.bool true)), (30, (.bool true)), (31, undef), (32, undef), (33, (.bool true)), (34, (.bool true)), (35, undef), (36, undef), (37, undef), (38, (.bool true))] K ?_
   refine In.fin K ?_
   refine At.cd K (o := (.tmp 38)) K (b := true) K (fun hb60 => ?_) (fun hb60 => ?_)
   rotate_left
   ·cases hb60
   refine At.sq K ?_
   refine At.region K K ?_
   refine In.run' 2 (k' := 2) rfl [(39, (.bool z19)), (6, (.bool z19))] K ?_
   refine In.fin K ?_
   refine At.ret K ?_
   refine ⟨(.bool z19), K, ?_⟩
   obtain rfl := some_elim H
   exact ⟨rfl, SP.sel hs59 [] rfl rfl⟩
  ·have H := optS H
   refine In.step (k' := 2) rfl K ?_
   refine Step.callF (f := 12) (fo := (.func 12)) (xs := #[(.tmp 18)]) (tys := #[24]) (first := #[]) (captured := #[]) (d := (some 19)) (k := 1) K rfl K K Tryd.call12 (L_gate_New_walk A6 c7 pWait1 pGrace2 pIdle3 pLease4 d9 w47 (laid_below hL (SP.keeps hs52)) (Dp.sp hr8 hs52) (some o55) hz54) ?_
   rintro e w61 ⟨g63, F64, rfl, hs62⟩
   refine ⟨_, rfl, ?_⟩
   have hs66 : SP [] w0 w61 [boxE g15 24 #[(.int .i64 pWait1), (.int .i64 pGrace2), (.int .i64 pIdle3), (.int .i64 pLease4), (.slice A6 (List.length (List.map stT d9)) c7)], gateE g49 F50 d9 o27, gateE g63 F64 d9 o55] := SP.call hs52 hs62
   clear hs62
   refine In.run' 1 (k' := 3) rfl [(9, (pt g63 0))] K ?_
   refine In.fin K ?_
   refine At.sq K ?_
   refine At.sq K ?_
   refine At.join (fun ρ w => ∃ (v81 : Bool), Known ρ [(1, (.slice A11 (List.length p10) c12)), (2, (.string ⟨List.toArray p14⟩)), (7, (.bool z19)), (8, (pt g49 0)), (9, (pt g63 0)), (38, (.bool v81))] ∧ SP [] w0 w [gateE g49 F50 d9 o27, gateE g63 F64 d9 o55] ∧ L_subwaylaw11_GateApart_k1 (List.map stT d9) p10 p14 z19 o27 o55 v81 = some r) ?_ ?_
   ·refine At.region K K ?_
    refine In.run' 7 (k' := 7) rfl [(20, (pt g49 0)), (21, (.bool false)), (22, (.bool false)), (23, (pt g63 0)), (24, (.bool false)), (25, (.bool false)), (26, (.bool false))] K ?_
    refine In.step (k' := 8) rfl K ?_
    refine Step.load (t := 24) (x := (.tmp 3)) (g := g15) (off := 0) (i := 0) (v := (.agg #[(.int .i64 pWait1), (.int .i64 pGrace2), (.int .i64 pIdle3), (.int .i64 pLease4), (.slice A6 (List.length (List.map stT d9)) c7)])) (d := (some 27)) (k := 7) K rfl K hs66 rfl K ?_
    obtain ⟨z3314, hz3315, H⟩ := bind_elim H
    refine In.step (k' := 9) rfl K ?_
    refine Step.callF (f := 10) (fo := (.func 10)) (xs := #[(.tmp 27)]) (tys := #[24]) (first := #[]) (captured := #[]) (d := (some 28)) (k := 8) K rfl K K Tryd.call10 (L_subwaylaw09_Great_walk A6 c7 pWait1 pGrace2 pIdle3 pLease4 d9 w61 (Dp.sp hr8 hs66) z3314 hz3315) ?_
    rintro e w3316 ⟨rfl, hs3317⟩
    refine ⟨_, rfl, ?_⟩
    have hs3319 : SP [] w0 w3316 [boxE g15 24 #[(.int .i64 pWait1), (.int .i64 pGrace2), (.int .i64 pIdle3), (.int .i64 pLease4), (.slice A6 (List.length (List.map stT d9)) c7)], gateE g49 F50 d9 o27, gateE g63 F64 d9 o55] := SP.call hs66 hs3317
    clear hs3317
    refine In.run' 2 (k' := 11) rfl [(29, (.bool z3314)), (30, (.bool z3314))] K ?_
    refine In.guard (t := 30) (b := z3314) K (fun hb3320 => ?_) (fun hb3320 => ?_)
    ·have H := ct H hb3320
     refine In.run' 8 (k' := 19) rfl [(31, undef), (32, undef), (33, (.bool true)), (34, (.bool true)), (35, undef), (36, undef), (37, undef), (38, (.bool true))] K ?_
     refine In.fin K ?_
     exact ⟨true, ⟨K, K, K, K, K, K, trivial⟩, SP.sel hs3319 [1, 2] rfl rfl, H⟩
    ·have H := cf H hb3320
     refine In.run' 1 (k' := 12) rfl [(31, (.slice A11 (List.length p10) c12))] K ?_
     obtain ⟨z3321, hz3322, H⟩ := bind_elim H
     refine In.step (k' := 13) rfl K ?_
     refine Step.callF (f := 11) (fo := (.func 11)) (xs := #[(.tmp 31)]) (tys := #[25]) (first := #[]) (captured := #[]) (d := (some 32)) (k := 12) K rfl K K Tryd.call11 (L_subwaylaw11_great_walk A11 c12 p10 w3316 (RdT.sp hr13 hs3319) z3321 hz3322) ?_
     rintro e w3323 ⟨rfl, hs3324⟩
     refine ⟨_, rfl, ?_⟩
     have hs3326 : SP [] w0 w3323 [boxE g15 24 #[(.int .i64 pWait1), (.int .i64 pGrace2), (.int .i64 pIdle3), (.int .i64 pLease4), (.slice A6 (List.length (List.map stT d9)) c7)], gateE g49 F50 d9 o27, gateE g63 F64 d9 o55] := SP.call hs3319 hs3324
     clear hs3324
     refine In.run' 2 (k' := 15) rfl [(33, (.bool z3321)), (34, (.bool z3321))] K ?_
     refine In.guard (t := 34) (b := z3321) K (fun hb3327 => ?_) (fun hb3327 => ?_)
     ·have H := ct H hb3327
      refine In.run' 4 (k' := 19) rfl [(35, undef), (36, undef), (37, undef), (38, (.bool true))] K ?_
      refine In.fin K ?_
      exact ⟨true, ⟨K, K, K, K, K, K, trivial⟩, SP.sel hs3326 [1, 2] rfl rfl, H⟩
     ·have H := cf H hb3327
      refine In.run' 4 (k' := 19) rfl [(35, (.string ⟨List.toArray p14⟩)), (36, (.int .i64 ((List.length p14 : Nat) : Int))), (37, (.bool (decide (((List.length p14 : Nat) : Int) > 1000)))), (38, (.bool (decide (((List.length p14 : Nat) : Int) > 1000))))] K ?_
      refine In.fin K ?_
      exact ⟨(decide (((List.length p14 : Nat) : Int) > 1000)), ⟨K, K, K, K, K, K, trivial⟩, SP.sel hs3326 [1, 2] rfl rfl, H⟩
   ·rintro ρ w82 ⟨v81, hk, hs83, H⟩
    unfold L_subwaylaw11_GateApart_k1 at H
    first | refine At.known [(1, (.slice A11 (List.length p10) c12)), (2, (.string ⟨List.toArray p14⟩)), (7, (.bool z19)), (8, (pt g49 0)), (9, (pt g63 0)), (38, (.bool v81))] hk ?_ | rw [← known_updL (l := [(1, (.slice A11 (List.length p10) c12)), (2, (.string ⟨List.toArray p14⟩)), (7, (.bool z19)), (8, (pt g49 0)), (9, (pt g63 0)), (38, (.bool v81))]) hk]
    refine At.cd K (o := (.tmp 38)) K (b := v81) K (fun hb84 => ?_) (fun hb84 => ?_)
    ·have H := ct H hb84
     refine At.sq K ?_
     refine At.region K K ?_
     refine In.run' 2 (k' := 2) rfl [(39, (.bool z19)), (6, (.bool z19))] K ?_
     refine In.fin K ?_
     refine At.ret K ?_
     refine ⟨(.bool z19), K, ?_⟩
     obtain rfl := some_elim H
     exact ⟨rfl, SP.sel hs83 [] rfl rfl⟩
    ·have H := cf H hb84
     refine At.skip K ?_
     refine At.sq K ?_
     refine At.sq K ?_
     refine At.region K K ?_
     refine In.run' 1 (k' := 1) rfl [(10, (.int .i64 0))] K ?_
     refine In.fin K ?_
     refine At.bk K (id := 0) K ?_
     refine At.lp K (fun f32 ρ w => ∃ (v1701 : (List (List Int))) (v1702 : (List (List Int))) (v1703 : Int), Known ρ [(1, (.slice A11 (List.length p10) c12)), (2, (.string ⟨List.toArray p14⟩)), (7, (.bool z19)), (8, (pt g49 0)), (9, (pt g63 0)), (10, (.int .i64 v1703))] ∧ SP [] w0 w [gateE g49 F50 d9 v1701, gateE g63 F64 d9 v1702] ∧ L_subwaylaw11_GateApart_l22 (List.map stT d9) p10 p14 z19 f32 v1701 v1702 v1703 = some r) (by rintro ρ w ⟨v1701, v1702, v1703, hk, hs, H⟩; cases H) ?_ fuel ?_
     ·rintro f32 ρ w1699 ⟨v1701, v1702, v1703, hk, hs1700, H⟩
      refine At.known [(1, (.slice A11 (List.length p10) c12)), (2, (.string ⟨List.toArray p14⟩)), (7, (.bool z19)), (8, (pt g49 0)), (9, (pt g63 0)), (10, (.int .i64 v1703))] hk ?_
      replace H := (show L_subwaylaw11_GateApart_b22 (L_subwaylaw11_GateApart_l22 (List.map stT d9) p10 p14 z19 f32) (List.map stT d9) p10 p14 z19 v1701 v1702 v1703 = some r from H)
      unfold L_subwaylaw11_GateApart_b22 at H
      refine At.sq K ?_
      refine At.sq K ?_
      refine At.region K K ?_
      refine In.run' 4 (k' := 4) rfl [(40, (.int .i64 v1703)), (41, (.slice A11 (List.length p10) c12)), (42, (.int .i64 ((List.length p10 : Nat) : Int))), (43, (.bool (decide (v1703 < ((List.length p10 : Nat) : Int)))))] K ?_
      refine In.fin K ?_
      refine At.cd K (o := (.tmp 43)) K (b := (decide (v1703 < ((List.length p10 : Nat) : Int)))) K (fun hb2509 => ?_) (fun hb2509 => ?_)
      ·have H := ct H hb2509
       refine At.skip K ?_
       refine At.sq K ?_
       refine At.bk K (id := 1) K ?_
       refine At.sq K ?_
       refine At.region K K ?_
       refine In.run' 2 (k' := 2) rfl [(46, (.slice A11 (List.length p10) c12)), (47, (.int .i64 v1703))] K ?_
       obtain ⟨x2510, hp2511, hq2512, hx2513, H⟩ := idx_elim H
       refine In.step (k' := 3) rfl K ?_
       refine Step.elem (e := (ePair (eInt .i64) (ePair eStr (ePair (eInt .i64) (eInt .u32))))) (l := p10) (A := A11) (c := c12) (T := 25) (E := 35) (x := (.tmp 46)) (ix := (.tmp 47)) (ki := .i64) (iz := v1703) (d := (some 48)) (k := 2) K rfl K K K K (RdT.sp hr13 hs1700) hp2511 hq2512 ?_
       intro b2514 o2515 hA2517 hb2518 hc2516
       refine In.step (k' := 4) rfl K ?_
       refine Step.cells (t := 35) (x := (.tmp 48)) (b := b2514) (off := (o2515 + Int.toNat v1703 * (ePair (eInt .i64) (ePair eStr (ePair (eInt .i64) (eInt .u32)))).sz)) (xs := [(.int .i64 x2510.1), (.string ⟨List.toArray x2510.2.1⟩), (.int .i64 x2510.2.2.1), (.int .u32 x2510.2.2.2)]) (d := (some 49)) (k := 3) K rfl K K K (elem_cells0 (e := (ePair (eInt .i64) (ePair eStr (ePair (eInt .i64) (eInt .u32))))) (rdt_cells (RdT.sp hr13 hs1700) hA2517 hp2511 hq2512) hx2513 rfl) ?_
       refine In.step (k' := 5) rfl K ?_
       refine Step.alloc (t := 35) (z := (.agg #[(.int .i64 0), (.string ⟨List.toArray ([] : List UInt8)⟩), (.int .i64 0), (.int .u32 0)])) (d := (some 11)) (k := 4) K rfl K hs1700 ?_
       intro g2519 w2520 (hs2522 : SP [] w0 w2520 [gateE g49 F50 d9 v1701, gateE g63 F64 d9 v1702, boxE g2519 35 #[(.int .i64 0), (.string ⟨List.toArray ([] : List UInt8)⟩), (.int .i64 0), (.int .u32 0)]])
       refine In.step (k' := 6) rfl K ?_
       refine Step.store (t := 35) (x := (.tmp 11)) (y := (.tmp 49)) (g := g2519) (off := 0) (i := 2) (v := (.agg #[(.int .i64 x2510.1), (.string ⟨List.toArray x2510.2.1⟩), (.int .i64 x2510.2.2.1), (.int .u32 x2510.2.2.2)])) (cs' := #[(.int .i64 x2510.1), (.string ⟨List.toArray x2510.2.1⟩), (.int .i64 x2510.2.2.1), (.int .u32 x2510.2.2.2)]) (d := none) (k := 5) K rfl K K hs2522 rfl K ?_
       intro w2523 (hs2525 : SP [] w0 w2523 [gateE g49 F50 d9 v1701, gateE g63 F64 d9 v1702, boxE g2519 35 #[(.int .i64 x2510.1), (.string ⟨List.toArray x2510.2.1⟩), (.int .i64 x2510.2.2.1), (.int .u32 x2510.2.2.2)]])
       refine In.fin K ?_
       refine At.sq K ?_
       refine At.region K K ?_
       refine In.run' 1 (k' := 1) rfl [(50, (pt g2519 1))] K ?_
       refine In.step (k' := 2) rfl K ?_
       refine Step.load (t := 9) (x := (.tmp 50)) (g := g2519) (off := 1) (i := 2) (v := (.string ⟨List.toArray x2510.2.1⟩)) (d := (some 51)) (k := 1) K rfl K hs2525 rfl K ?_
       refine In.run' 1 (k' := 3) rfl [(52, (.string ⟨List.toArray p14⟩))] K ?_
       refine In.step (k' := 4) rfl K ?_
       refine Step.strOp (op := .eql) (T := 9) (T' := 9) (x := (.tmp 51)) (y := (.tmp 52)) (a := x2510.2.1) (b := p14) (r := (.bool (x2510.2.1 == p14))) (d := (some 53)) (k := 3) K rfl K K rfl ?_
       refine In.run' 1 (k' := 5) rfl [(12, (.bool (x2510.2.1 == p14)))] K ?_
       refine In.fin K ?_
       refine At.sq K ?_
       refine At.sq K ?_
       refine At.region K K ?_
       refine In.run' 1 (k' := 1) rfl [(54, (pt g2519 0))] K ?_
       refine In.step (k' := 2) rfl K ?_
       refine Step.load (t := 3) (x := (.tmp 54)) (g := g2519) (off := 0) (i := 2) (v := (.int .i64 x2510.1)) (d := (some 55)) (k := 1) K rfl K hs2525 rfl K ?_
       refine In.run' 1 (k' := 3) rfl [(56, (.bool (x2510.1 == 2)))] K ?_
       refine In.fin K ?_
       refine At.join (fun ρ w => ∃ (v2608 : (List (List Int))) (v2609 : (List (List Int))), Known ρ [(1, (.slice A11 (List.length p10) c12)), (2, (.string ⟨List.toArray p14⟩)), (7, (.bool z19)), (8, (pt g49 0)), (9, (pt g63 0)), (10, (.int .i64 v1703)), (11, (pt g2519 0))] ∧ SP [] w0 w [gateE g49 F50 d9 v2608, gateE g63 F64 d9 v2609, boxE g2519 35 #[(.int .i64 x2510.1), (.string ⟨List.toArray x2510.2.1⟩), (.int .i64 x2510.2.2.1), (.int .u32 x2510.2.2.2)]] ∧ L_subwaylaw11_GateApart_k37 (L_subwaylaw11_GateApart_l22 (List.map stT d9) p10 p14 z19 f32) (List.map stT d9) p14 v1703 x2510 v2608 v2609 = some r) ?_ ?_
       ·refine At.cd K (o := (.tmp 56)) K (b := (x2510.1 == 2)) K (fun hb3232 => ?_) (fun hb3232 => ?_)
        ·have H := ct H hb3232
         refine At.sq K ?_
         refine At.region K K ?_
         refine In.run' 2 (k' := 2) rfl [(57, (pt g49 0)), (58, (pt g2519 1))] K ?_
         refine In.step (k' := 3) rfl K ?_
         refine Step.load (t := 9) (x := (.tmp 58)) (g := g2519) (off := 1) (i := 2) (v := (.string ⟨List.toArray x2510.2.1⟩)) (d := (some 59)) (k := 2) K rfl K hs2525 rfl K ?_
         refine In.run' 1 (k' := 4) rfl [(60, (pt g2519 2))] K ?_
         refine In.step (k' := 5) rfl K ?_
         refine Step.load (t := 3) (x := (.tmp 60)) (g := g2519) (off := 2) (i := 2) (v := (.int .i64 x2510.2.2.1)) (d := (some 61)) (k := 4) K rfl K hs2525 rfl K ?_
         obtain ⟨z3233, hz3234, H⟩ := bind_elim H
         refine In.step (k' := 6) rfl K ?_
         refine Step.callF (f := 14) (fo := (.func 14)) (xs := #[(.tmp 57), (.tmp 59), (.tmp 61)]) (tys := #[29, 9, 3]) (first := #[]) (captured := #[]) (d := (some 62)) (k := 5) K rfl K K Tryd.call14 (L_gate_Gate_Give_walk g49 A6 c7 F50 d9 v1701 x2510.2.1 x2510.2.2.1 w2523 (SP.sub hs2525 [0] rfl rfl) (fun w hm => Dp.mono _ (SP.below_of hs2525 (l := [0]) rfl hm) hr8) z3233 hz3234) ?_
         rintro e w3235 ⟨rfl, hs3236⟩
         refine ⟨_, rfl, ?_⟩
         have hs3238 : SP [] w0 w3235 [gateE g63 F64 d9 v1702, boxE g2519 35 #[(.int .i64 x2510.1), (.string ⟨List.toArray x2510.2.1⟩), (.int .i64 x2510.2.2.1), (.int .u32 x2510.2.2.2)], gateE g49 F50 d9 z3233.2] := SP.callS hs2525 [0] [1, 2] rfl rfl hs3236 rfl
         clear hs3236
         refine In.run' 1 (k' := 7) rfl [(13, (.bool z3233.1))] K ?_
         refine In.fin K ?_
         refine At.sq K ?_
         refine At.join (fun ρ w => ∃ (v3246 : (List (List Int))) (v3247 : Bool), Known ρ [(1, (.slice A11 (List.length p10) c12)), (2, (.string ⟨List.toArray p14⟩)), (7, (.bool z19)), (8, (pt g49 0)), (9, (pt g63 0)), (10, (.int .i64 v1703)), (11, (pt g2519 0)), (73, (.bool v3247))] ∧ SP [] w0 w [gateE g49 F50 d9 z3233.2, gateE g63 F64 d9 v3246, boxE g2519 35 #[(.int .i64 x2510.1), (.string ⟨List.toArray x2510.2.1⟩), (.int .i64 x2510.2.2.1), (.int .u32 x2510.2.2.2)]] ∧ L_subwaylaw11_GateApart_k39 (L_subwaylaw11_GateApart_l22 (List.map stT d9) p10 p14 z19 f32) (List.map stT d9) p14 v1703 x2510 z3233 v3246 v3247 = some r) ?_ ?_
         ·refine At.region K K ?_
          refine In.run' 2 (k' := 2) rfl [(63, (.bool (x2510.2.1 == p14))), (64, (.bool (x2510.2.1 == p14)))] K ?_
          refine In.guard (t := 64) (b := (x2510.2.1 == p14)) K (fun hb3251 => ?_) (fun hb3251 => ?_)
          ·have H := ct H hb3251
           refine In.run' 3 (k' := 5) rfl [(65, (.bool z3233.1)), (66, (pt g63 0)), (67, (pt g2519 1))] K ?_
           refine In.step (k' := 6) rfl K ?_
           refine Step.load (t := 9) (x := (.tmp 67)) (g := g2519) (off := 1) (i := 1) (v := (.string ⟨List.toArray x2510.2.1⟩)) (d := (some 68)) (k := 5) K rfl K hs3238 rfl K ?_
           refine In.run' 1 (k' := 7) rfl [(69, (pt g2519 2))] K ?_
           refine In.step (k' := 8) rfl K ?_
           refine Step.load (t := 3) (x := (.tmp 69)) (g := g2519) (off := 2) (i := 1) (v := (.int .i64 x2510.2.2.1)) (d := (some 70)) (k := 7) K rfl K hs3238 rfl K ?_
           obtain ⟨z3252, hz3253, H⟩ := bind_elim H
           refine In.step (k' := 9) rfl K ?_
           refine Step.callF (f := 14) (fo := (.func 14)) (xs := #[(.tmp 66), (.tmp 68), (.tmp 70)]) (tys := #[29, 9, 3]) (first := #[]) (captured := #[]) (d := (some 71)) (k := 8) K rfl K K Tryd.call14 (L_gate_Gate_Give_walk g63 A6 c7 F64 d9 v1702 x2510.2.1 x2510.2.2.1 w3235 (SP.sub hs3238 [0] rfl rfl) (fun w hm => Dp.mono _ (SP.below_of hs3238 (l := [0]) rfl hm) hr8) z3252 hz3253) ?_
           rintro e w3254 ⟨rfl, hs3255⟩
           refine ⟨_, rfl, ?_⟩
           have hs3257 : SP [] w0 w3254 [boxE g2519 35 #[(.int .i64 x2510.1), (.string ⟨List.toArray x2510.2.1⟩), (.int .i64 x2510.2.2.1), (.int .u32 x2510.2.2.2)], gateE g49 F50 d9 z3233.2, gateE g63 F64 d9 z3252.2] := SP.callS hs3238 [0] [1, 2] rfl rfl hs3255 rfl
           clear hs3255
           refine In.run' 2 (k' := 11) rfl [(72, (.bool (!(z3233.1 == z3252.1)))), (73, (.bool (!(z3233.1 == z3252.1))))] K ?_
           refine In.fin K ?_
           exact ⟨z3252.2, (!(z3233.1 == z3252.1)), ⟨K, K, K, K, K, K, K, K, trivial⟩, SP.sel hs3257 [1, 2, 0] rfl rfl, H⟩
          ·have H := cf H hb3251
           refine In.run' 9 (k' := 11) rfl [(65, undef), (66, undef), (67, undef), (68, undef), (69, undef), (70, undef), (71, undef), (72, undef), (73, (.bool false))] K ?_
           refine In.fin K ?_
           exact ⟨v1702, false, ⟨K, K, K, K, K, K, K, K, trivial⟩, SP.sel hs3238 [2, 0, 1] rfl rfl, H⟩
         ·rintro ρ w3248 ⟨v3246, v3247, hk, hs3249, H⟩
          unfold L_subwaylaw11_GateApart_k39 at H
          first | refine At.known [(1, (.slice A11 (List.length p10) c12)), (2, (.string ⟨List.toArray p14⟩)), (7, (.bool z19)), (8, (pt g49 0)), (9, (pt g63 0)), (10, (.int .i64 v1703)), (11, (pt g2519 0)), (73, (.bool v3247))] hk ?_ | rw [← known_updL (l := [(1, (.slice A11 (List.length p10) c12)), (2, (.string ⟨List.toArray p14⟩)), (7, (.bool z19)), (8, (pt g49 0)), (9, (pt g63 0)), (10, (.int .i64 v1703)), (11, (pt g2519 0)), (73, (.bool v3247))]) hk]
          refine At.cd K (o := (.tmp 73)) K (b := v3247) K (fun hb3250 => ?_) (fun hb3250 => ?_)
          ·have H := ct H hb3250
           refine At.sq K ?_
           refine At.region K K ?_
           refine In.run' 1 (k' := 1) rfl [(6, (.bool false))] K ?_
           refine In.fin K ?_
           refine At.ret K ?_
           refine ⟨(.bool false), K, ?_⟩
           obtain rfl := some_elim H
           exact ⟨rfl, SP.sel hs3249 [] rfl rfl⟩
          ·have H := cf H hb3250
           refine At.skip K ?_
           exact ⟨z3233.2, v3246, ⟨K, K, K, K, K, K, K, trivial⟩, SP.sel hs3249 [0, 1, 2] rfl rfl, H⟩
        ·have H := cf H hb3232
         refine At.sq K ?_
         refine At.region K K ?_
         refine In.run' 1 (k' := 1) rfl [(74, (pt g2519 0))] K ?_
         refine In.step (k' := 2) rfl K ?_
         refine Step.load (t := 3) (x := (.tmp 74)) (g := g2519) (off := 0) (i := 2) (v := (.int .i64 x2510.1)) (d := (some 75)) (k := 1) K rfl K hs2525 rfl K ?_
         refine In.run' 1 (k' := 3) rfl [(76, (.bool (x2510.1 != 3)))] K ?_
         refine In.fin K ?_
         refine At.join (fun ρ w => ∃ (v3284 : (List (List Int))) (v3285 : (List (List Int))), Known ρ [(1, (.slice A11 (List.length p10) c12)), (2, (.string ⟨List.toArray p14⟩)), (7, (.bool z19)), (8, (pt g49 0)), (9, (pt g63 0)), (10, (.int .i64 v1703)), (11, (pt g2519 0))] ∧ SP [] w0 w [gateE g49 F50 d9 v3284, gateE g63 F64 d9 v3285, boxE g2519 35 #[(.int .i64 x2510.1), (.string ⟨List.toArray x2510.2.1⟩), (.int .i64 x2510.2.2.1), (.int .u32 x2510.2.2.2)]] ∧ L_subwaylaw11_GateApart_k41 (L_subwaylaw11_GateApart_l22 (List.map stT d9) p10 p14 z19 f32) (List.map stT d9) p14 v1703 x2510 v3284 v3285 = some r) ?_ ?_
         ·refine At.cd K (o := (.tmp 76)) K (b := (x2510.1 != 3)) K (fun hb3288 => ?_) (fun hb3288 => ?_)
          ·have H := ct H hb3288
           refine At.sq K ?_
           refine At.region K K ?_
           refine In.run' 2 (k' := 2) rfl [(77, (pt g49 0)), (78, (pt g2519 1))] K ?_
           refine In.step (k' := 3) rfl K ?_
           refine Step.load (t := 9) (x := (.tmp 78)) (g := g2519) (off := 1) (i := 2) (v := (.string ⟨List.toArray x2510.2.1⟩)) (d := (some 79)) (k := 2) K rfl K hs2525 rfl K ?_
           refine In.run' 1 (k' := 4) rfl [(80, (pt g2519 2))] K ?_
           refine In.step (k' := 5) rfl K ?_
           refine Step.load (t := 3) (x := (.tmp 80)) (g := g2519) (off := 2) (i := 2) (v := (.int .i64 x2510.2.2.1)) (d := (some 81)) (k := 4) K rfl K hs2525 rfl K ?_
           obtain ⟨z3289, hz3290, H⟩ := bind_elim H
           refine In.step (k' := 6) rfl K ?_
           refine Step.callF (f := 18) (fo := (.func 18)) (xs := #[(.tmp 77), (.tmp 79), (.tmp 81)]) (tys := #[29, 9, 3]) (first := #[]) (captured := #[]) (d := (some 82)) (k := 5) K rfl K K Tryd.call18 (L_gate_Gate_Take_walk g49 A6 c7 F50 d9 v1701 x2510.2.1 x2510.2.2.1 w2523 (SP.sub hs2525 [0] rfl rfl) (fun w hm => Dp.mono _ (SP.below_of hs2525 (l := [0]) rfl hm) hr8) z3289 hz3290) ?_
           rintro e w3291 ⟨rfl, hs3292⟩
           refine ⟨_, rfl, ?_⟩
           have hs3294 : SP [] w0 w3291 [gateE g63 F64 d9 v1702, boxE g2519 35 #[(.int .i64 x2510.1), (.string ⟨List.toArray x2510.2.1⟩), (.int .i64 x2510.2.2.1), (.int .u32 x2510.2.2.2)], gateE g49 F50 d9 z3289.2] := SP.callS hs2525 [0] [1, 2] rfl rfl hs3292 rfl
           clear hs3292
           refine In.run' 1 (k' := 7) rfl [(14, (.int .i64 z3289.1))] K ?_
           refine In.fin K ?_
           refine At.sq K ?_
           refine At.join (fun ρ w => ∃ (v3302 : (List (List Int))) (v3303 : Bool), Known ρ [(1, (.slice A11 (List.length p10) c12)), (2, (.string ⟨List.toArray p14⟩)), (7, (.bool z19)), (8, (pt g49 0)), (9, (pt g63 0)), (10, (.int .i64 v1703)), (11, (pt g2519 0)), (93, (.bool v3303))] ∧ SP [] w0 w [gateE g49 F50 d9 z3289.2, gateE g63 F64 d9 v3302, boxE g2519 35 #[(.int .i64 x2510.1), (.string ⟨List.toArray x2510.2.1⟩), (.int .i64 x2510.2.2.1), (.int .u32 x2510.2.2.2)]] ∧ L_subwaylaw11_GateApart_k42 (L_subwaylaw11_GateApart_l22 (List.map stT d9) p10 p14 z19 f32) (List.map stT d9) p14 v1703 x2510 z3289 v3302 v3303 = some r) ?_ ?_
           ·refine At.region K K ?_
            refine In.run' 2 (k' := 2) rfl [(83, (.bool (x2510.2.1 == p14))), (84, (.bool (x2510.2.1 == p14)))] K ?_
            refine In.guard (t := 84) (b := (x2510.2.1 == p14)) K (fun hb3307 => ?_) (fun hb3307 => ?_)
            ·have H := ct H hb3307
             refine In.run' 3 (k' := 5) rfl [(85, (.int .i64 z3289.1)), (86, (pt g63 0)), (87, (pt g2519 1))] K ?_
             refine In.step (k' := 6) rfl K ?_
             refine Step.load (t := 9) (x := (.tmp 87)) (g := g2519) (off := 1) (i := 1) (v := (.string ⟨List.toArray x2510.2.1⟩)) (d := (some 88)) (k := 5) K rfl K hs3294 rfl K ?_
             refine In.run' 1 (k' := 7) rfl [(89, (pt g2519 2))] K ?_
             refine In.step (k' := 8) rfl K ?_
             refine Step.load (t := 3) (x := (.tmp 89)) (g := g2519) (off := 2) (i := 1) (v := (.int .i64 x2510.2.2.1)) (d := (some 90)) (k := 7) K rfl K hs3294 rfl K ?_
             obtain ⟨z3308, hz3309, H⟩ := bind_elim H
             refine In.step (k' := 9) rfl K ?_
             refine Step.callF (f := 18) (fo := (.func 18)) (xs := #[(.tmp 86), (.tmp 88), (.tmp 90)]) (tys := #[29, 9, 3]) (first := #[]) (captured := #[]) (d := (some 91)) (k := 8) K rfl K K Tryd.call18 (L_gate_Gate_Take_walk g63 A6 c7 F64 d9 v1702 x2510.2.1 x2510.2.2.1 w3291 (SP.sub hs3294 [0] rfl rfl) (fun w hm => Dp.mono _ (SP.below_of hs3294 (l := [0]) rfl hm) hr8) z3308 hz3309) ?_
             rintro e w3310 ⟨rfl, hs3311⟩
             refine ⟨_, rfl, ?_⟩
             have hs3313 : SP [] w0 w3310 [boxE g2519 35 #[(.int .i64 x2510.1), (.string ⟨List.toArray x2510.2.1⟩), (.int .i64 x2510.2.2.1), (.int .u32 x2510.2.2.2)], gateE g49 F50 d9 z3289.2, gateE g63 F64 d9 z3308.2] := SP.callS hs3294 [0] [1, 2] rfl rfl hs3311 rfl
             clear hs3311
             refine In.run' 2 (k' := 11) rfl [(92, (.bool (z3289.1 != z3308.1))), (93, (.bool (z3289.1 != z3308.1)))] K ?_
             refine In.fin K ?_
             exact ⟨z3308.2, (z3289.1 != z3308.1), ⟨K, K, K, K, K, K, K, K, trivial⟩, SP.sel hs3313 [1, 2, 0] rfl rfl, H⟩
            ·have H := cf H hb3307
             refine In.run' 9 (k' := 11) rfl [(85, undef), (86, undef), (87, undef), (88, undef), (89, undef), (90, undef), (91, undef), (92, undef), (93, (.bool false))] K ?_
             refine In.fin K ?_
             exact ⟨v1702, false, ⟨K, K, K, K, K, K, K, K, trivial⟩, SP.sel hs3294 [2, 0, 1] rfl rfl, H⟩
           ·rintro ρ w3304 ⟨v3302, v3303, hk, hs3305, H⟩
            unfold L_subwaylaw11_GateApart_k42 at H
            first | refine At.known [(1, (.slice A11 (List.length p10) c12)), (2, (.string ⟨List.toArray p14⟩)), (7, (.bool z19)), (8, (pt g49 0)), (9, (pt g63 0)), (10, (.int .i64 v1703)), (11, (pt g2519 0)), (93, (.bool v3303))] hk ?_ | rw [← known_updL (l := [(1, (.slice A11 (List.length p10) c12)), (2, (.string ⟨List.toArray p14⟩)), (7, (.bool z19)), (8, (pt g49 0)), (9, (pt g63 0)), (10, (.int .i64 v1703)), (11, (pt g2519 0)), (93, (.bool v3303))]) hk]
            refine At.cd K (o := (.tmp 93)) K (b := v3303) K (fun hb3306 => ?_) (fun hb3306 => ?_)
            ·have H := ct H hb3306
             refine At.sq K ?_
             refine At.region K K ?_
             refine In.run' 1 (k' := 1) rfl [(6, (.bool false))] K ?_
             refine In.fin K ?_
             refine At.ret K ?_
             refine ⟨(.bool false), K, ?_⟩
             obtain rfl := some_elim H
             exact ⟨rfl, SP.sel hs3305 [] rfl rfl⟩
            ·have H := cf H hb3306
             refine At.skip K ?_
             exact ⟨z3289.2, v3302, ⟨K, K, K, K, K, K, K, trivial⟩, SP.sel hs3305 [0, 1, 2] rfl rfl, H⟩
          ·have H := cf H hb3288
           refine At.skip K ?_
           exact ⟨v1701, v1702, ⟨K, K, K, K, K, K, K, trivial⟩, SP.sel hs2525 [0, 1, 2] rfl rfl, H⟩
         ·rintro ρ w3286 ⟨v3284, v3285, hk, hs3287, H⟩
          unfold L_subwaylaw11_GateApart_k41 at H
          first | refine At.known [(1, (.slice A11 (List.length p10) c12)), (2, (.string ⟨List.toArray p14⟩)), (7, (.bool z19)), (8, (pt g49 0)), (9, (pt g63 0)), (10, (.int .i64 v1703)), (11, (pt g2519 0))] hk ?_ | rw [← known_updL (l := [(1, (.slice A11 (List.length p10) c12)), (2, (.string ⟨List.toArray p14⟩)), (7, (.bool z19)), (8, (pt g49 0)), (9, (pt g63 0)), (10, (.int .i64 v1703)), (11, (pt g2519 0))]) hk]
          exact ⟨v3284, v3285, ⟨K, K, K, K, K, K, K, trivial⟩, SP.sel hs3287 [0, 1, 2] rfl rfl, H⟩
       ·rintro ρ w2610 ⟨v2608, v2609, hk, hs2611, H⟩
        unfold L_subwaylaw11_GateApart_k37 at H
        first | refine At.known [(1, (.slice A11 (List.length p10) c12)), (2, (.string ⟨List.toArray p14⟩)), (7, (.bool z19)), (8, (pt g49 0)), (9, (pt g63 0)), (10, (.int .i64 v1703)), (11, (pt g2519 0))] hk ?_ | rw [← known_updL (l := [(1, (.slice A11 (List.length p10) c12)), (2, (.string ⟨List.toArray p14⟩)), (7, (.bool z19)), (8, (pt g49 0)), (9, (pt g63 0)), (10, (.int .i64 v1703)), (11, (pt g2519 0))]) hk]
        refine At.sq K ?_
        refine At.join (fun ρ w => ∃ (v2920 : Bool), Known ρ [(1, (.slice A11 (List.length p10) c12)), (2, (.string ⟨List.toArray p14⟩)), (7, (.bool z19)), (8, (pt g49 0)), (9, (pt g63 0)), (10, (.int .i64 v1703)), (122, (.bool v2920))] ∧ SP [] w0 w [gateE g49 F50 d9 v2608, gateE g63 F64 d9 v2609] ∧ L_subwaylaw11_GateApart_k38 (L_subwaylaw11_GateApart_l22 (List.map stT d9) p10 p14 z19 f32) v1703 v2608 v2609 v2920 = some r) ?_ ?_
        ·obtain ⟨z2924, hz2925, H⟩ := bind_elim H
         obtain ⟨z2930, hz2931, H⟩ := bind_elim H
         rcases Bool.eq_false_or_eq_true (z2924 != z2930) with hb2936 | hb2936
         ·have H := ct H hb2936
          refine At.stages K K K K K [GEq (pt g49 0), GEq (.string ⟨List.toArray p14⟩), GEq (.int .i64 z2924), GEq (pt g63 0), GEq (.string ⟨List.toArray p14⟩), GEq (.int .i64 z2930), GEq (.bool (z2924 != z2930)), GEq (.bool (z2924 != z2930)), GEq undef, GEq undef, GEq undef, GEq undef, GEq undef, GEq undef, GEq undef, GEq (.bool true), GEq (.bool true), GEq undef, GEq undef, GEq undef, GEq undef, GEq undef, GEq undef, GEq undef, GEq undef, GEq undef, GEq undef, GEq undef, GEq (.bool true)] [2, 5] [([], fun vs w => VL vs [] ∧ SP [] w0 w [gateE g49 F50 d9 v2608, gateE g63 F64 d9 v2609, boxE g2519 35 #[(.int .i64 x2510.1), (.string ⟨List.toArray x2510.2.1⟩), (.int .i64 x2510.2.2.1), (.int .u32 x2510.2.2.2)]]), ([2], fun vs w => VL vs [(.int .i64 z2924)] ∧ SP [] w0 w [gateE g63 F64 d9 v2609, boxE g2519 35 #[(.int .i64 x2510.1), (.string ⟨List.toArray x2510.2.1⟩), (.int .i64 x2510.2.2.1), (.int .u32 x2510.2.2.2)], gateE g49 F50 d9 v2608]), ([2, 5], fun vs w => VL vs [(.int .i64 z2924), (.int .i64 z2930)] ∧ SP [] w0 w [boxE g2519 35 #[(.int .i64 x2510.1), (.string ⟨List.toArray x2510.2.1⟩), (.int .i64 x2510.2.2.1), (.int .u32 x2510.2.2.2)], gateE g49 F50 d9 v2608, gateE g63 F64 d9 v2609])] (N := 29) K ⟨K, Nat.zero_lt_succ _⟩ (show VL [] [] ∧ SP [] w0 w2610.drew [gateE g49 F50 d9 v2608, gateE g63 F64 d9 v2609, boxE g2519 35 #[(.int .i64 x2510.1), (.string ⟨List.toArray x2510.2.1⟩), (.int .i64 x2510.2.2.1), (.int .u32 x2510.2.2.2)]] from ⟨trivial, SP.drew hs2611⟩) ⟨⟨⟨⟨⟨⟨⟨⟨⟨⟨⟨⟨⟨⟨⟨⟨⟨⟨⟨⟨⟨⟨⟨⟨⟨⟨⟨⟨⟨trivial, ?_⟩, ?_⟩, ?_⟩, ?_⟩, ?_⟩, ?_⟩, ?_⟩, ?_⟩, ?_⟩, ?_⟩, ?_⟩, ?_⟩, ?_⟩, ?_⟩, ?_⟩, ?_⟩, ?_⟩, ?_⟩, ?_⟩, ?_⟩, ?_⟩, ?_⟩, ?_⟩, ?_⟩, ?_⟩, ?_⟩, ?_⟩, ?_⟩, ?_⟩ (last := 2) K ?_
          ·exact Owe.run K [(8, (pt g49 0))] ⟨gS K K, trivial⟩ (pt g49 0) (fun _ _ => K) rfl
          ·exact Owe.run K [(2, (.string ⟨List.toArray p14⟩))] ⟨gS K K, trivial⟩ (.string ⟨List.toArray p14⟩) (fun _ _ => K) rfl
          ·refine Owe.heavy K [(0, 1)] K (all_cons ⟨K, K, ?_⟩ all_nil)
           ·rintro ρ' w' hs hah ⟨hvl2950, hs2949⟩
            have hkn : Known ρ' [(94, (pt g49 0)), (95, (.string ⟨List.toArray p14⟩))] := ⟨hah 0 94 K, hah 1 95 K, trivial⟩
            refine Step.known _ hkn ?_
            refine Step.callF (f := 20) (fo := (.func 20)) (xs := #[(.tmp 94), (.tmp 95), (.const (.int .i64 (1)))]) (tys := #[29, 9, 3]) (first := #[]) (captured := #[]) (d := (some 96)) (k := 2) K rfl K K Tryd.call20 (L_gate_Gate_Used_walk g49 A6 c7 F50 d9 v2608 p14 1 w' (SP.sub hs2949 [0] rfl rfl) (fun w hm => Dp.mono _ (SP.below_of hs2949 (l := [0]) rfl hm) hr8) z2924 hz2925) ?_
            rintro e w2951 ⟨rfl, hs2952⟩
            refine ⟨_, rfl, ?_⟩
            have hs2954 : SP [] w0 w2951 [gateE g63 F64 d9 v2609, boxE g2519 35 #[(.int .i64 x2510.1), (.string ⟨List.toArray x2510.2.1⟩), (.int .i64 x2510.2.2.1), (.int .u32 x2510.2.2.2)], gateE g49 F50 d9 v2608] := SP.callS hs2949 [0] [1, 2] rfl rfl hs2952 rfl
            clear hs2952
            refine ⟨_, updO_known hkn, rfl, ?_⟩
            exact (And.intro (And.intro rfl (trivial)) (hs2954))
          ·exact Owe.run K [(9, (pt g63 0))] ⟨gS K K, trivial⟩ (pt g63 0) (fun _ _ => K) rfl
          ·exact Owe.run K [(2, (.string ⟨List.toArray p14⟩))] ⟨gS K K, trivial⟩ (.string ⟨List.toArray p14⟩) (fun _ _ => K) rfl
          ·refine Owe.heavy K [(1, 2)] K (all_cons ⟨K, K, ?_⟩ all_nil)
           ·rintro ρ' w' hs hah ⟨⟨q2956, -⟩, hs2955⟩
            have hkn : Known ρ' [(97, (pt g63 0)), (98, (.string ⟨List.toArray p14⟩))] := ⟨hah 3 97 K, hah 4 98 K, trivial⟩
            refine Step.known _ hkn ?_
            refine Step.callF (f := 20) (fo := (.func 20)) (xs := #[(.tmp 97), (.tmp 98), (.const (.int .i64 (1)))]) (tys := #[29, 9, 3]) (first := #[]) (captured := #[]) (d := (some 99)) (k := 5) K rfl K K Tryd.call20 (L_gate_Gate_Used_walk g63 A6 c7 F64 d9 v2609 p14 1 w' (SP.sub hs2955 [0] rfl rfl) (fun w hm => Dp.mono _ (SP.below_of hs2955 (l := [0]) rfl hm) hr8) z2930 hz2931) ?_
            rintro e w2958 ⟨rfl, hs2959⟩
            refine ⟨_, rfl, ?_⟩
            have hs2961 : SP [] w0 w2958 [boxE g2519 35 #[(.int .i64 x2510.1), (.string ⟨List.toArray x2510.2.1⟩), (.int .i64 x2510.2.2.1), (.int .u32 x2510.2.2.2)], gateE g49 F50 d9 v2608, gateE g63 F64 d9 v2609] := SP.callS hs2955 [0] [1, 2] rfl rfl hs2959 rfl
            clear hs2959
            refine ⟨_, updO_known hkn, rfl, ?_⟩
            exact (And.intro (And.intro q2956 (And.intro rfl (trivial))) (hs2961))
          ·exact Owe.run K [(96, (.int .i64 z2924)), (99, (.int .i64 z2930))] ⟨gA 2 K K, gA 5 K K, trivial⟩ (.bool (z2924 != z2930)) (fun _ _ => K) rfl
          ·exact Owe.run K [(100, (.bool (z2924 != z2930)))] ⟨gA 6 K K, trivial⟩ (.bool (z2924 != z2930)) (fun _ _ => K) rfl
          ·exact Owe.skip K [(101, (.bool true))] ⟨gB 7 K (z2924 != z2930) K hb2936, trivial⟩ (some 102) (fun _ => K) K rfl
          ·exact Owe.skip K [(101, (.bool true))] ⟨gB 7 K (z2924 != z2930) K hb2936, trivial⟩ (some 103) (fun _ => K) K rfl
          ·exact Owe.skip K [(101, (.bool true))] ⟨gB 7 K (z2924 != z2930) K hb2936, trivial⟩ (some 104) (fun _ => K) K rfl
          ·exact Owe.skip K [(101, (.bool true))] ⟨gB 7 K (z2924 != z2930) K hb2936, trivial⟩ (some 105) (fun _ => K) K rfl
          ·exact Owe.skip K [(101, (.bool true))] ⟨gB 7 K (z2924 != z2930) K hb2936, trivial⟩ (some 106) (fun _ => K) K rfl
          ·exact Owe.skip K [(101, (.bool true))] ⟨gB 7 K (z2924 != z2930) K hb2936, trivial⟩ (some 107) (fun _ => K) K rfl
          ·exact Owe.skip K [(101, (.bool true))] ⟨gB 7 K (z2924 != z2930) K hb2936, trivial⟩ (some 108) (fun _ => K) K rfl
          ·exact Owe.run K [(101, (.bool true)), (108, undef)] ⟨gB 7 K (z2924 != z2930) K hb2936, gA 14 K K, trivial⟩ (.bool true) (fun _ _ => K) rfl
          ·exact Owe.run K [(109, (.bool true))] ⟨gA 15 K K, trivial⟩ (.bool true) (fun _ _ => K) rfl
          ·exact Owe.skip K [(110, (.bool true))] ⟨gA 16 K K, trivial⟩ (some 111) (fun _ => K) K rfl
          ·exact Owe.skip K [(110, (.bool true))] ⟨gA 16 K K, trivial⟩ (some 112) (fun _ => K) K rfl
          ·exact Owe.skip K [(110, (.bool true))] ⟨gA 16 K K, trivial⟩ (some 113) (fun _ => K) K rfl
          ·exact Owe.skip K [(110, (.bool true))] ⟨gA 16 K K, trivial⟩ (some 114) (fun _ => K) K rfl
          ·exact Owe.skip K [(110, (.bool true))] ⟨gA 16 K K, trivial⟩ (some 115) (fun _ => K) K rfl
          ·exact Owe.skip K [(110, (.bool true))] ⟨gA 16 K K, trivial⟩ (some 116) (fun _ => K) K rfl
          ·exact Owe.skip K [(110, (.bool true))] ⟨gA 16 K K, trivial⟩ (some 117) (fun _ => K) K rfl
          ·exact Owe.skip K [(110, (.bool true))] ⟨gA 16 K K, trivial⟩ (some 118) (fun _ => K) K rfl
          ·exact Owe.skip K [(110, (.bool true))] ⟨gA 16 K K, trivial⟩ (some 119) (fun _ => K) K rfl
          ·exact Owe.skip K [(110, (.bool true))] ⟨gA 16 K K, trivial⟩ (some 120) (fun _ => K) K rfl
          ·exact Owe.skip K [(110, (.bool true))] ⟨gA 16 K K, trivial⟩ (some 121) (fun _ => K) K rfl
          ·exact Owe.run K [(110, (.bool true)), (121, undef)] ⟨gA 16 K K, gA 27 K K, trivial⟩ (.bool true) (fun _ _ => K) rfl
          ·rintro ρ' w' hs hf ⟨⟨q2963, q2964, -⟩, hs2962⟩
           refine postKnown [(1, (.slice A11 (List.length p10) c12)), (2, (.string ⟨List.toArray p14⟩)), (7, (.bool z19)), (8, (pt g49 0)), (9, (pt g63 0)), (10, (.int .i64 v1703)), (122, (.bool true))] ⟨(hs 1 K).trans K, (hs 2 K).trans K, (hs 7 K).trans K, (hs 8 K).trans K, (hs 9 K).trans K, (hs 10 K).trans K, hf 28 122 K, trivial⟩ ?_
           obtain ⟨w2966, hww2966⟩ : ∃ x, w' = x := ⟨_, rfl⟩
           rw [hww2966] at hs2962 ⊢
           exact ⟨true, ⟨K, K, K, K, K, K, K, trivial⟩, SP.sel hs2962 [1, 2] rfl rfl, H⟩
         ·have H := cf H hb2936
          obtain ⟨z2967, hz2968, H⟩ := bind_elim H
          obtain ⟨z2973, hz2974, H⟩ := bind_elim H
          rcases Bool.eq_false_or_eq_true (z2967 != z2973) with hb2979 | hb2979
          ·have H := ct H hb2979
           refine At.stages K K K K K [GEq (pt g49 0), GEq (.string ⟨List.toArray p14⟩), GEq (.int .i64 z2924), GEq (pt g63 0), GEq (.string ⟨List.toArray p14⟩), GEq (.int .i64 z2930), GEq (.bool (z2924 != z2930)), GEq (.bool (z2924 != z2930)), GEq (pt g49 0), GEq (.string ⟨List.toArray p14⟩), GEq (.int .i64 z2967), GEq (pt g63 0), GEq (.string ⟨List.toArray p14⟩), GEq (.int .i64 z2973), GEq (.bool (z2967 != z2973)), GEq (.bool (z2967 != z2973)), GEq (.bool (z2967 != z2973)), GEq undef, GEq undef, GEq undef, GEq undef, GEq undef, GEq undef, GEq undef, GEq undef, GEq undef, GEq undef, GEq undef, GEq (.bool true)] [2, 5, 10, 13] [([], fun vs w => VL vs [] ∧ SP [] w0 w [gateE g49 F50 d9 v2608, gateE g63 F64 d9 v2609, boxE g2519 35 #[(.int .i64 x2510.1), (.string ⟨List.toArray x2510.2.1⟩), (.int .i64 x2510.2.2.1), (.int .u32 x2510.2.2.2)]]), ([2], fun vs w => VL vs [(.int .i64 z2924)] ∧ SP [] w0 w [gateE g63 F64 d9 v2609, boxE g2519 35 #[(.int .i64 x2510.1), (.string ⟨List.toArray x2510.2.1⟩), (.int .i64 x2510.2.2.1), (.int .u32 x2510.2.2.2)], gateE g49 F50 d9 v2608]), ([2, 5], fun vs w => VL vs [(.int .i64 z2924), (.int .i64 z2930)] ∧ SP [] w0 w [boxE g2519 35 #[(.int .i64 x2510.1), (.string ⟨List.toArray x2510.2.1⟩), (.int .i64 x2510.2.2.1), (.int .u32 x2510.2.2.2)], gateE g49 F50 d9 v2608, gateE g63 F64 d9 v2609]), ([2, 5, 10], fun vs w => VL vs [(.int .i64 z2924), (.int .i64 z2930), (.int .i64 z2967)] ∧ SP [] w0 w [boxE g2519 35 #[(.int .i64 x2510.1), (.string ⟨List.toArray x2510.2.1⟩), (.int .i64 x2510.2.2.1), (.int .u32 x2510.2.2.2)], gateE g63 F64 d9 v2609, gateE g49 F50 d9 v2608]), ([2, 5, 10, 13], fun vs w => VL vs [(.int .i64 z2924), (.int .i64 z2930), (.int .i64 z2967), (.int .i64 z2973)] ∧ SP [] w0 w [boxE g2519 35 #[(.int .i64 x2510.1), (.string ⟨List.toArray x2510.2.1⟩), (.int .i64 x2510.2.2.1), (.int .u32 x2510.2.2.2)], gateE g49 F50 d9 v2608, gateE g63 F64 d9 v2609])] (N := 29) K ⟨K, Nat.zero_lt_succ _⟩ (show VL [] [] ∧ SP [] w0 w2610.drew [gateE g49 F50 d9 v2608, gateE g63 F64 d9 v2609, boxE g2519 35 #[(.int .i64 x2510.1), (.string ⟨List.toArray x2510.2.1⟩), (.int .i64 x2510.2.2.1), (.int .u32 x2510.2.2.2)]] from ⟨trivial, SP.drew hs2611⟩) ⟨⟨⟨⟨⟨⟨⟨⟨⟨⟨⟨⟨⟨⟨⟨⟨⟨⟨⟨⟨⟨⟨⟨⟨⟨⟨⟨⟨⟨trivial, ?_⟩, ?_⟩, ?_⟩, ?_⟩, ?_⟩, ?_⟩, ?_⟩, ?_⟩, ?_⟩, ?_⟩, ?_⟩, ?_⟩, ?_⟩, ?_⟩, ?_⟩, ?_⟩, ?_⟩, ?_⟩, ?_⟩, ?_⟩, ?_⟩, ?_⟩, ?_⟩, ?_⟩, ?_⟩, ?_⟩, ?_⟩, ?_⟩, ?_⟩ (last := 4) K ?_
           ·exact Owe.run K [(8, (pt g49 0))] ⟨gS K K, trivial⟩ (pt g49 0) (fun _ _ => K) rfl
           ·exact Owe.run K [(2, (.string ⟨List.toArray p14⟩))] ⟨gS K K, trivial⟩ (.string ⟨List.toArray p14⟩) (fun _ _ => K) rfl
           ·refine Owe.heavy K [(0, 1)] K (all_cons ⟨K, K, ?_⟩ all_nil)
            ·rintro ρ' w' hs hah ⟨hvl3021, hs3020⟩
             have hkn : Known ρ' [(94, (pt g49 0)), (95, (.string ⟨List.toArray p14⟩))] := ⟨hah 0 94 K, hah 1 95 K, trivial⟩
             refine Step.known _ hkn ?_
             refine Step.callF (f := 20) (fo := (.func 20)) (xs := #[(.tmp 94), (.tmp 95), (.const (.int .i64 (1)))]) (tys := #[29, 9, 3]) (first := #[]) (captured := #[]) (d := (some 96)) (k := 2) K rfl K K Tryd.call20 (L_gate_Gate_Used_walk g49 A6 c7 F50 d9 v2608 p14 1 w' (SP.sub hs3020 [0] rfl rfl) (fun w hm => Dp.mono _ (SP.below_of hs3020 (l := [0]) rfl hm) hr8) z2924 hz2925) ?_
             rintro e w3022 ⟨rfl, hs3023⟩
             refine ⟨_, rfl, ?_⟩
             have hs3025 : SP [] w0 w3022 [gateE g63 F64 d9 v2609, boxE g2519 35 #[(.int .i64 x2510.1), (.string ⟨List.toArray x2510.2.1⟩), (.int .i64 x2510.2.2.1), (.int .u32 x2510.2.2.2)], gateE g49 F50 d9 v2608] := SP.callS hs3020 [0] [1, 2] rfl rfl hs3023 rfl
             clear hs3023
             refine ⟨_, updO_known hkn, rfl, ?_⟩
             exact (And.intro (And.intro rfl (trivial)) (hs3025))
           ·exact Owe.run K [(9, (pt g63 0))] ⟨gS K K, trivial⟩ (pt g63 0) (fun _ _ => K) rfl
           ·exact Owe.run K [(2, (.string ⟨List.toArray p14⟩))] ⟨gS K K, trivial⟩ (.string ⟨List.toArray p14⟩) (fun _ _ => K) rfl
           ·refine Owe.heavy K [(1, 2)] K (all_cons ⟨K, K, ?_⟩ all_nil)
            ·rintro ρ' w' hs hah ⟨⟨q3027, -⟩, hs3026⟩
             have hkn : Known ρ' [(97, (pt g63 0)), (98, (.string ⟨List.toArray p14⟩))] := ⟨hah 3 97 K, hah 4 98 K, trivial⟩
             refine Step.known _ hkn ?_
             refine Step.callF (f := 20) (fo := (.func 20)) (xs := #[(.tmp 97), (.tmp 98), (.const (.int .i64 (1)))]) (tys := #[29, 9, 3]) (first := #[]) (captured := #[]) (d := (some 99)) (k := 5) K rfl K K Tryd.call20 (L_gate_Gate_Used_walk g63 A6 c7 F64 d9 v2609 p14 1 w' (SP.sub hs3026 [0] rfl rfl) (fun w hm => Dp.mono _ (SP.below_of hs3026 (l := [0]) rfl hm) hr8) z2930 hz2931) ?_
             rintro e w3029 ⟨rfl, hs3030⟩
             refine ⟨_, rfl, ?_⟩
             have hs3032 : SP [] w0 w3029 [boxE g2519 35 #[(.int .i64 x2510.1), (.string ⟨List.toArray x2510.2.1⟩), (.int .i64 x2510.2.2.1), (.int .u32 x2510.2.2.2)], gateE g49 F50 d9 v2608, gateE g63 F64 d9 v2609] := SP.callS hs3026 [0] [1, 2] rfl rfl hs3030 rfl
             clear hs3030
             refine ⟨_, updO_known hkn, rfl, ?_⟩
             exact (And.intro (And.intro q3027 (And.intro rfl (trivial))) (hs3032))
           ·exact Owe.run K [(96, (.int .i64 z2924)), (99, (.int .i64 z2930))] ⟨gA 2 K K, gA 5 K K, trivial⟩ (.bool (z2924 != z2930)) (fun _ _ => K) rfl
           ·exact Owe.run K [(100, (.bool (z2924 != z2930)))] ⟨gA 6 K K, trivial⟩ (.bool (z2924 != z2930)) (fun _ _ => K) rfl
           ·exact Owe.run K [(8, (pt g49 0)), (101, (.bool false))] ⟨gS K K, gB 7 K (z2924 != z2930) K hb2936, trivial⟩ (pt g49 0) (fun _ _ => K) rfl
           ·exact Owe.run K [(2, (.string ⟨List.toArray p14⟩)), (101, (.bool false))] ⟨gS K K, gB 7 K (z2924 != z2930) K hb2936, trivial⟩ (.string ⟨List.toArray p14⟩) (fun _ _ => K) rfl
           ·refine Owe.heavy K [(2, 3)] K (all_cons ⟨K, K, ?_⟩ all_nil)
            ·rintro ρ' w' hs hah ⟨⟨q3034, q3035, -⟩, hs3033⟩
             have e102 := hah 8 102 K
             have e103 := hah 9 103 K
             have e101 := hah 7 101 K
             have hkn : Known ρ' [(102, (pt g49 0)), (103, (.string ⟨List.toArray p14⟩)), (101, (.bool false))] := ⟨e102, e103, (Eq.trans e101 (congrArg Value.bool hb2936)), trivial⟩
             refine Step.known _ hkn ?_
             refine Step.callF (f := 20) (fo := (.func 20)) (xs := #[(.tmp 102), (.tmp 103), (.const (.int .i64 (2)))]) (tys := #[29, 9, 3]) (first := #[]) (captured := #[]) (d := (some 104)) (k := 10) K rfl K K Tryd.call20 (L_gate_Gate_Used_walk g49 A6 c7 F50 d9 v2608 p14 2 w' (SP.sub hs3033 [1] rfl rfl) (fun w hm => Dp.mono _ (SP.below_of hs3033 (l := [1]) rfl hm) hr8) z2967 hz2968) ?_
             rintro e w3037 ⟨rfl, hs3038⟩
             refine ⟨_, rfl, ?_⟩
             have hs3040 : SP [] w0 w3037 [boxE g2519 35 #[(.int .i64 x2510.1), (.string ⟨List.toArray x2510.2.1⟩), (.int .i64 x2510.2.2.1), (.int .u32 x2510.2.2.2)], gateE g63 F64 d9 v2609, gateE g49 F50 d9 v2608] := SP.callS hs3033 [1] [0, 2] rfl rfl hs3038 rfl
             clear hs3038
             refine ⟨_, updO_known hkn, rfl, ?_⟩
             exact (And.intro (And.intro q3034 (And.intro q3035 (And.intro rfl (trivial)))) (hs3040))
           ·exact Owe.run K [(9, (pt g63 0)), (101, (.bool false))] ⟨gS K K, gB 7 K (z2924 != z2930) K hb2936, trivial⟩ (pt g63 0) (fun _ _ => K) rfl
           ·exact Owe.run K [(2, (.string ⟨List.toArray p14⟩)), (101, (.bool false))] ⟨gS K K, gB 7 K (z2924 != z2930) K hb2936, trivial⟩ (.string ⟨List.toArray p14⟩) (fun _ _ => K) rfl
           ·refine Owe.heavy K [(3, 4)] K (all_cons ⟨K, K, ?_⟩ all_nil)
            ·rintro ρ' w' hs hah ⟨⟨q3042, q3043, q3044, -⟩, hs3041⟩
             have e105 := hah 11 105 K
             have e106 := hah 12 106 K
             have e101 := hah 7 101 K
             have hkn : Known ρ' [(105, (pt g63 0)), (106, (.string ⟨List.toArray p14⟩)), (101, (.bool false))] := ⟨e105, e106, (Eq.trans e101 (congrArg Value.bool hb2936)), trivial⟩
             refine Step.known _ hkn ?_
             refine Step.callF (f := 20) (fo := (.func 20)) (xs := #[(.tmp 105), (.tmp 106), (.const (.int .i64 (2)))]) (tys := #[29, 9, 3]) (first := #[]) (captured := #[]) (d := (some 107)) (k := 13) K rfl K K Tryd.call20 (L_gate_Gate_Used_walk g63 A6 c7 F64 d9 v2609 p14 2 w' (SP.sub hs3041 [1] rfl rfl) (fun w hm => Dp.mono _ (SP.below_of hs3041 (l := [1]) rfl hm) hr8) z2973 hz2974) ?_
             rintro e w3046 ⟨rfl, hs3047⟩
             refine ⟨_, rfl, ?_⟩
             have hs3049 : SP [] w0 w3046 [boxE g2519 35 #[(.int .i64 x2510.1), (.string ⟨List.toArray x2510.2.1⟩), (.int .i64 x2510.2.2.1), (.int .u32 x2510.2.2.2)], gateE g49 F50 d9 v2608, gateE g63 F64 d9 v2609] := SP.callS hs3041 [1] [0, 2] rfl rfl hs3047 rfl
             clear hs3047
             refine ⟨_, updO_known hkn, rfl, ?_⟩
             exact (And.intro (And.intro q3042 (And.intro q3043 (And.intro q3044 (And.intro rfl (trivial))))) (hs3049))
           ·exact Owe.run K [(104, (.int .i64 z2967)), (107, (.int .i64 z2973)), (101, (.bool false))] ⟨gA 10 K K, gA 13 K K, gB 7 K (z2924 != z2930) K hb2936, trivial⟩ (.bool (z2967 != z2973)) (fun _ _ => K) rfl
           ·exact Owe.run K [(101, (.bool false)), (108, (.bool (z2967 != z2973)))] ⟨gB 7 K (z2924 != z2930) K hb2936, gA 14 K K, trivial⟩ (.bool (z2967 != z2973)) (fun _ _ => K) rfl
           ·exact Owe.run K [(109, (.bool (z2967 != z2973)))] ⟨gA 15 K K, trivial⟩ (.bool (z2967 != z2973)) (fun _ _ => K) rfl
           ·exact Owe.skip K [(110, (.bool true))] ⟨gB 16 K (z2967 != z2973) K hb2979, trivial⟩ (some 111) (fun _ => K) K rfl
           ·exact Owe.skip K [(110, (.bool true))] ⟨gB 16 K (z2967 != z2973) K hb2979, trivial⟩ (some 112) (fun _ => K) K rfl
           ·exact Owe.skip K [(110, (.bool true))] ⟨gB 16 K (z2967 != z2973) K hb2979, trivial⟩ (some 113) (fun _ => K) K rfl
           ·exact Owe.skip K [(110, (.bool true))] ⟨gB 16 K (z2967 != z2973) K hb2979, trivial⟩ (some 114) (fun _ => K) K rfl
           ·exact Owe.skip K [(110, (.bool true))] ⟨gB 16 K (z2967 != z2973) K hb2979, trivial⟩ (some 115) (fun _ => K) K rfl
           ·exact Owe.skip K [(110, (.bool true))] ⟨gB 16 K (z2967 != z2973) K hb2979, trivial⟩ (some 116) (fun _ => K) K rfl
           ·exact Owe.skip K [(110, (.bool true))] ⟨gB 16 K (z2967 != z2973) K hb2979, trivial⟩ (some 117) (fun _ => K) K rfl
           ·exact Owe.skip K [(110, (.bool true))] ⟨gB 16 K (z2967 != z2973) K hb2979, trivial⟩ (some 118) (fun _ => K) K rfl
           ·exact Owe.skip K [(110, (.bool true))] ⟨gB 16 K (z2967 != z2973) K hb2979, trivial⟩ (some 119) (fun _ => K) K rfl
           ·exact Owe.skip K [(110, (.bool true))] ⟨gB 16 K (z2967 != z2973) K hb2979, trivial⟩ (some 120) (fun _ => K) K rfl
           ·exact Owe.skip K [(110, (.bool true))] ⟨gB 16 K (z2967 != z2973) K hb2979, trivial⟩ (some 121) (fun _ => K) K rfl
           ·exact Owe.run K [(110, (.bool true)), (121, undef)] ⟨gB 16 K (z2967 != z2973) K hb2979, gA 27 K K, trivial⟩ (.bool true) (fun _ _ => K) rfl
           ·rintro ρ' w' hs hf ⟨⟨q3051, q3052, q3053, q3054, -⟩, hs3050⟩
            refine postKnown [(1, (.slice A11 (List.length p10) c12)), (2, (.string ⟨List.toArray p14⟩)), (7, (.bool z19)), (8, (pt g49 0)), (9, (pt g63 0)), (10, (.int .i64 v1703)), (122, (.bool true))] ⟨(hs 1 K).trans K, (hs 2 K).trans K, (hs 7 K).trans K, (hs 8 K).trans K, (hs 9 K).trans K, (hs 10 K).trans K, hf 28 122 K, trivial⟩ ?_
            obtain ⟨w3056, hww3056⟩ : ∃ x, w' = x := ⟨_, rfl⟩
            rw [hww3056] at hs3050 ⊢
            exact ⟨true, ⟨K, K, K, K, K, K, K, trivial⟩, SP.sel hs3050 [1, 2] rfl rfl, H⟩
          ·have H := cf H hb2979
           obtain ⟨z3057, hz3058, H⟩ := bind_elim H
           obtain ⟨z3063, hz3064, H⟩ := bind_elim H
           refine At.stages K K K K K [GEq (pt g49 0), GEq (.string ⟨List.toArray p14⟩), GEq (.int .i64 z2924), GEq (pt g63 0), GEq (.string ⟨List.toArray p14⟩), GEq (.int .i64 z2930), GEq (.bool (z2924 != z2930)), GEq (.bool (z2924 != z2930)), GEq (pt g49 0), GEq (.string ⟨List.toArray p14⟩), GEq (.int .i64 z2967), GEq (pt g63 0), GEq (.string ⟨List.toArray p14⟩), GEq (.int .i64 z2973), GEq (.bool (z2967 != z2973)), GEq (.bool (z2967 != z2973)), GEq (.bool (z2967 != z2973)), GEq (pt g49 0), GEq (.string ⟨List.toArray p14⟩), GEq (pt g2519 3), GEq (.int .u32 x2510.2.2.2), GEq (.int .i64 z3057), GEq (pt g63 0), GEq (.string ⟨List.toArray p14⟩), GEq (pt g2519 3), GEq (.int .u32 x2510.2.2.2), GEq (.int .i64 z3063), GEq (.bool (z3057 != z3063)), GEq (.bool (z3057 != z3063))] [2, 5, 10, 13, 21, 26] [([], fun vs w => VL vs [] ∧ SP [] w0 w [gateE g49 F50 d9 v2608, gateE g63 F64 d9 v2609, boxE g2519 35 #[(.int .i64 x2510.1), (.string ⟨List.toArray x2510.2.1⟩), (.int .i64 x2510.2.2.1), (.int .u32 x2510.2.2.2)]]), ([2], fun vs w => VL vs [(.int .i64 z2924)] ∧ SP [] w0 w [gateE g63 F64 d9 v2609, boxE g2519 35 #[(.int .i64 x2510.1), (.string ⟨List.toArray x2510.2.1⟩), (.int .i64 x2510.2.2.1), (.int .u32 x2510.2.2.2)], gateE g49 F50 d9 v2608]), ([2, 5], fun vs w => VL vs [(.int .i64 z2924), (.int .i64 z2930)] ∧ SP [] w0 w [boxE g2519 35 #[(.int .i64 x2510.1), (.string ⟨List.toArray x2510.2.1⟩), (.int .i64 x2510.2.2.1), (.int .u32 x2510.2.2.2)], gateE g49 F50 d9 v2608, gateE g63 F64 d9 v2609]), ([2, 5, 10], fun vs w => VL vs [(.int .i64 z2924), (.int .i64 z2930), (.int .i64 z2967)] ∧ SP [] w0 w [boxE g2519 35 #[(.int .i64 x2510.1), (.string ⟨List.toArray x2510.2.1⟩), (.int .i64 x2510.2.2.1), (.int .u32 x2510.2.2.2)], gateE g63 F64 d9 v2609, gateE g49 F50 d9 v2608]), ([2, 5, 10, 13], fun vs w => VL vs [(.int .i64 z2924), (.int .i64 z2930), (.int .i64 z2967), (.int .i64 z2973)] ∧ SP [] w0 w [boxE g2519 35 #[(.int .i64 x2510.1), (.string ⟨List.toArray x2510.2.1⟩), (.int .i64 x2510.2.2.1), (.int .u32 x2510.2.2.2)], gateE g49 F50 d9 v2608, gateE g63 F64 d9 v2609]), ([2, 5, 10, 13, 21], fun vs w => VL vs [(.int .i64 z2924), (.int .i64 z2930), (.int .i64 z2967), (.int .i64 z2973), (.int .i64 z3057)] ∧ SP [] w0 w [boxE g2519 35 #[(.int .i64 x2510.1), (.string ⟨List.toArray x2510.2.1⟩), (.int .i64 x2510.2.2.1), (.int .u32 x2510.2.2.2)], gateE g63 F64 d9 v2609, gateE g49 F50 d9 v2608]), ([2, 5, 10, 13, 21, 26], fun vs w => VL vs [(.int .i64 z2924), (.int .i64 z2930), (.int .i64 z2967), (.int .i64 z2973), (.int .i64 z3057), (.int .i64 z3063)] ∧ SP [] w0 w [boxE g2519 35 #[(.int .i64 x2510.1), (.string ⟨List.toArray x2510.2.1⟩), (.int .i64 x2510.2.2.1), (.int .u32 x2510.2.2.2)], gateE g49 F50 d9 v2608, gateE g63 F64 d9 v2609])] (N := 29) K ⟨K, Nat.zero_lt_succ _⟩ (show VL [] [] ∧ SP [] w0 w2610.drew [gateE g49 F50 d9 v2608, gateE g63 F64 d9 v2609, boxE g2519 35 #[(.int .i64 x2510.1), (.string ⟨List.toArray x2510.2.1⟩), (.int .i64 x2510.2.2.1), (.int .u32 x2510.2.2.2)]] from ⟨trivial, SP.drew hs2611⟩) ⟨⟨⟨⟨⟨⟨⟨⟨⟨⟨⟨⟨⟨⟨⟨⟨⟨⟨⟨⟨⟨⟨⟨⟨⟨⟨⟨⟨⟨trivial, ?_⟩, ?_⟩, ?_⟩, ?_⟩, ?_⟩, ?_⟩, ?_⟩, ?_⟩, ?_⟩, ?_⟩, ?_⟩, ?_⟩, ?_⟩, ?_⟩, ?_⟩, ?_⟩, ?_⟩, ?_⟩, ?_⟩, ?_⟩, ?_⟩, ?_⟩, ?_⟩, ?_⟩, ?_⟩, ?_⟩, ?_⟩, ?_⟩, ?_⟩ (last := 6) K ?_
           ·exact Owe.run K [(8, (pt g49 0))] ⟨gS K K, trivial⟩ (pt g49 0) (fun _ _ => K) rfl
           ·exact Owe.run K [(2, (.string ⟨List.toArray p14⟩))] ⟨gS K K, trivial⟩ (.string ⟨List.toArray p14⟩) (fun _ _ => K) rfl
           ·refine Owe.heavy K [(0, 1)] K (all_cons ⟨K, K, ?_⟩ all_nil)
            ·rintro ρ' w' hs hah ⟨hvl3154, hs3153⟩
             have hkn : Known ρ' [(94, (pt g49 0)), (95, (.string ⟨List.toArray p14⟩))] := ⟨hah 0 94 K, hah 1 95 K, trivial⟩
             refine Step.known _ hkn ?_
             refine Step.callF (f := 20) (fo := (.func 20)) (xs := #[(.tmp 94), (.tmp 95), (.const (.int .i64 (1)))]) (tys := #[29, 9, 3]) (first := #[]) (captured := #[]) (d := (some 96)) (k := 2) K rfl K K Tryd.call20 (L_gate_Gate_Used_walk g49 A6 c7 F50 d9 v2608 p14 1 w' (SP.sub hs3153 [0] rfl rfl) (fun w hm => Dp.mono _ (SP.below_of hs3153 (l := [0]) rfl hm) hr8) z2924 hz2925) ?_
             rintro e w3155 ⟨rfl, hs3156⟩
             refine ⟨_, rfl, ?_⟩
             have hs3158 : SP [] w0 w3155 [gateE g63 F64 d9 v2609, boxE g2519 35 #[(.int .i64 x2510.1), (.string ⟨List.toArray x2510.2.1⟩), (.int .i64 x2510.2.2.1), (.int .u32 x2510.2.2.2)], gateE g49 F50 d9 v2608] := SP.callS hs3153 [0] [1, 2] rfl rfl hs3156 rfl
             clear hs3156
             refine ⟨_, updO_known hkn, rfl, ?_⟩
             exact (And.intro (And.intro rfl (trivial)) (hs3158))
           ·exact Owe.run K [(9, (pt g63 0))] ⟨gS K K, trivial⟩ (pt g63 0) (fun _ _ => K) rfl
           ·exact Owe.run K [(2, (.string ⟨List.toArray p14⟩))] ⟨gS K K, trivial⟩ (.string ⟨List.toArray p14⟩) (fun _ _ => K) rfl
           ·refine Owe.heavy K [(1, 2)] K (all_cons ⟨K, K, ?_⟩ all_nil)
            ·rintro ρ' w' hs hah ⟨⟨q3160, -⟩, hs3159⟩
             have hkn : Known ρ' [(97, (pt g63 0)), (98, (.string ⟨List.toArray p14⟩))] := ⟨hah 3 97 K, hah 4 98 K, trivial⟩
             refine Step.known _ hkn ?_
             refine Step.callF (f := 20) (fo := (.func 20)) (xs := #[(.tmp 97), (.tmp 98), (.const (.int .i64 (1)))]) (tys := #[29, 9, 3]) (first := #[]) (captured := #[]) (d := (some 99)) (k := 5) K rfl K K Tryd.call20 (L_gate_Gate_Used_walk g63 A6 c7 F64 d9 v2609 p14 1 w' (SP.sub hs3159 [0] rfl rfl) (fun w hm => Dp.mono _ (SP.below_of hs3159 (l := [0]) rfl hm) hr8) z2930 hz2931) ?_
             rintro e w3162 ⟨rfl, hs3163⟩
             refine ⟨_, rfl, ?_⟩
             have hs3165 : SP [] w0 w3162 [boxE g2519 35 #[(.int .i64 x2510.1), (.string ⟨List.toArray x2510.2.1⟩), (.int .i64 x2510.2.2.1), (.int .u32 x2510.2.2.2)], gateE g49 F50 d9 v2608, gateE g63 F64 d9 v2609] := SP.callS hs3159 [0] [1, 2] rfl rfl hs3163 rfl
             clear hs3163
             refine ⟨_, updO_known hkn, rfl, ?_⟩
             exact (And.intro (And.intro q3160 (And.intro rfl (trivial))) (hs3165))
           ·exact Owe.run K [(96, (.int .i64 z2924)), (99, (.int .i64 z2930))] ⟨gA 2 K K, gA 5 K K, trivial⟩ (.bool (z2924 != z2930)) (fun _ _ => K) rfl
           ·exact Owe.run K [(100, (.bool (z2924 != z2930)))] ⟨gA 6 K K, trivial⟩ (.bool (z2924 != z2930)) (fun _ _ => K) rfl
           ·exact Owe.run K [(8, (pt g49 0)), (101, (.bool false))] ⟨gS K K, gB 7 K (z2924 != z2930) K hb2936, trivial⟩ (pt g49 0) (fun _ _ => K) rfl
           ·exact Owe.run K [(2, (.string ⟨List.toArray p14⟩)), (101, (.bool false))] ⟨gS K K, gB 7 K (z2924 != z2930) K hb2936, trivial⟩ (.string ⟨List.toArray p14⟩) (fun _ _ => K) rfl
           ·refine Owe.heavy K [(2, 3)] K (all_cons ⟨K, K, ?_⟩ all_nil)
            ·rintro ρ' w' hs hah ⟨⟨q3167, q3168, -⟩, hs3166⟩
             have e102 := hah 8 102 K
             have e103 := hah 9 103 K
             have e101 := hah 7 101 K
             have hkn : Known ρ' [(102, (pt g49 0)), (103, (.string ⟨List.toArray p14⟩)), (101, (.bool false))] := ⟨e102, e103, (Eq.trans e101 (congrArg Value.bool hb2936)), trivial⟩
             refine Step.known _ hkn ?_
             refine Step.callF (f := 20) (fo := (.func 20)) (xs := #[(.tmp 102), (.tmp 103), (.const (.int .i64 (2)))]) (tys := #[29, 9, 3]) (first := #[]) (captured := #[]) (d := (some 104)) (k := 10) K rfl K K Tryd.call20 (L_gate_Gate_Used_walk g49 A6 c7 F50 d9 v2608 p14 2 w' (SP.sub hs3166 [1] rfl rfl) (fun w hm => Dp.mono _ (SP.below_of hs3166 (l := [1]) rfl hm) hr8) z2967 hz2968) ?_
             rintro e w3170 ⟨rfl, hs3171⟩
             refine ⟨_, rfl, ?_⟩
             have hs3173 : SP [] w0 w3170 [boxE g2519 35 #[(.int .i64 x2510.1), (.string ⟨List.toArray x2510.2.1⟩), (.int .i64 x2510.2.2.1), (.int .u32 x2510.2.2.2)], gateE g63 F64 d9 v2609, gateE g49 F50 d9 v2608] := SP.callS hs3166 [1] [0, 2] rfl rfl hs3171 rfl
             clear hs3171
             refine ⟨_, updO_known hkn, rfl, ?_⟩
             exact (And.intro (And.intro q3167 (And.intro q3168 (And.intro rfl (trivial)))) (hs3173))
           ·exact Owe.run K [(9, (pt g63 0)), (101, (.bool false))] ⟨gS K K, gB 7 K (z2924 != z2930) K hb2936, trivial⟩ (pt g63 0) (fun _ _ => K) rfl
           ·exact Owe.run K [(2, (.string ⟨List.toArray p14⟩)), (101, (.bool false))] ⟨gS K K, gB 7 K (z2924 != z2930) K hb2936, trivial⟩ (.string ⟨List.toArray p14⟩) (fun _ _ => K) rfl
           ·refine Owe.heavy K [(3, 4)] K (all_cons ⟨K, K, ?_⟩ all_nil)
            ·rintro ρ' w' hs hah ⟨⟨q3175, q3176, q3177, -⟩, hs3174⟩
             have e105 := hah 11 105 K
             have e106 := hah 12 106 K
             have e101 := hah 7 101 K
             have hkn : Known ρ' [(105, (pt g63 0)), (106, (.string ⟨List.toArray p14⟩)), (101, (.bool false))] := ⟨e105, e106, (Eq.trans e101 (congrArg Value.bool hb2936)), trivial⟩
             refine Step.known _ hkn ?_
             refine Step.callF (f := 20) (fo := (.func 20)) (xs := #[(.tmp 105), (.tmp 106), (.const (.int .i64 (2)))]) (tys := #[29, 9, 3]) (first := #[]) (captured := #[]) (d := (some 107)) (k := 13) K rfl K K Tryd.call20 (L_gate_Gate_Used_walk g63 A6 c7 F64 d9 v2609 p14 2 w' (SP.sub hs3174 [1] rfl rfl) (fun w hm => Dp.mono _ (SP.below_of hs3174 (l := [1]) rfl hm) hr8) z2973 hz2974) ?_
             rintro e w3179 ⟨rfl, hs3180⟩
             refine ⟨_, rfl, ?_⟩
             have hs3182 : SP [] w0 w3179 [boxE g2519 35 #[(.int .i64 x2510.1), (.string ⟨List.toArray x2510.2.1⟩), (.int .i64 x2510.2.2.1), (.int .u32 x2510.2.2.2)], gateE g49 F50 d9 v2608, gateE g63 F64 d9 v2609] := SP.callS hs3174 [1] [0, 2] rfl rfl hs3180 rfl
             clear hs3180
             refine ⟨_, updO_known hkn, rfl, ?_⟩
             exact (And.intro (And.intro q3175 (And.intro q3176 (And.intro q3177 (And.intro rfl (trivial))))) (hs3182))
           ·exact Owe.run K [(104, (.int .i64 z2967)), (107, (.int .i64 z2973)), (101, (.bool false))] ⟨gA 10 K K, gA 13 K K, gB 7 K (z2924 != z2930) K hb2936, trivial⟩ (.bool (z2967 != z2973)) (fun _ _ => K) rfl
           ·exact Owe.run K [(101, (.bool false)), (108, (.bool (z2967 != z2973)))] ⟨gB 7 K (z2924 != z2930) K hb2936, gA 14 K K, trivial⟩ (.bool (z2967 != z2973)) (fun _ _ => K) rfl
           ·exact Owe.run K [(109, (.bool (z2967 != z2973)))] ⟨gA 15 K K, trivial⟩ (.bool (z2967 != z2973)) (fun _ _ => K) rfl
           ·exact Owe.run K [(8, (pt g49 0)), (110, (.bool false))] ⟨gS K K, gB 16 K (z2967 != z2973) K hb2979, trivial⟩ (pt g49 0) (fun _ _ => K) rfl
           ·exact Owe.run K [(2, (.string ⟨List.toArray p14⟩)), (110, (.bool false))] ⟨gS K K, gB 16 K (z2967 != z2973) K hb2979, trivial⟩ (.string ⟨List.toArray p14⟩) (fun _ _ => K) rfl
           ·exact Owe.run K [(11, (pt g2519 0)), (110, (.bool false))] ⟨gS K K, gB 16 K (z2967 != z2973) K hb2979, trivial⟩ (pt g2519 3) (fun _ _ => K) rfl
           ·refine Owe.light K [4] K (all_cons ?_ all_nil)
            ·rintro ρ' w' hs hah ⟨⟨q3184, q3185, q3186, q3187, -⟩, hs3183⟩
             have e113 := hah 19 113 K
             have e110 := hah 16 110 K
             have hkn : Known ρ' [(113, (pt g2519 3)), (110, (.bool false))] := ⟨e113, (Eq.trans e110 (congrArg Value.bool hb2979)), trivial⟩
             refine Step.known _ hkn ?_
             refine Step.load (t := 33) (x := (.tmp 113)) (g := g2519) (off := 3) (i := 0) (v := (.int .u32 x2510.2.2.2)) (d := (some 114)) (k := 20) K rfl K hs3183 rfl K ?_
             exact ⟨rfl, _, updO_known hkn, rfl⟩
           ·refine Owe.heavy K [(4, 5)] K (all_cons ⟨K, K, ?_⟩ all_nil)
            ·rintro ρ' w' hs hah ⟨⟨q3190, q3191, q3192, q3193, -⟩, hs3189⟩
             have e111 := hah 17 111 K
             have e112 := hah 18 112 K
             have e114 := hah 20 114 K
             have e110 := hah 16 110 K
             have hkn : Known ρ' [(111, (pt g49 0)), (112, (.string ⟨List.toArray p14⟩)), (114, (.int .u32 x2510.2.2.2)), (110, (.bool false))] := ⟨e111, e112, e114, (Eq.trans e110 (congrArg Value.bool hb2979)), trivial⟩
             refine Step.known _ hkn ?_
             refine Step.callF (f := 16) (fo := (.func 16)) (xs := #[(.tmp 111), (.tmp 112), (.tmp 114)]) (tys := #[29, 9, 33]) (first := #[]) (captured := #[]) (d := (some 115)) (k := 21) K rfl K K Tryd.call16 (L_gate_Gate_Admit_walk g49 A6 c7 F50 d9 v2608 p14 x2510.2.2.2 w' (SP.sub hs3189 [1] rfl rfl) (fun w hm => Dp.mono _ (SP.below_of hs3189 (l := [1]) rfl hm) hr8) z3057 hz3058) ?_
             rintro e w3195 ⟨rfl, hs3196⟩
             refine ⟨_, rfl, ?_⟩
             have hs3198 : SP [] w0 w3195 [boxE g2519 35 #[(.int .i64 x2510.1), (.string ⟨List.toArray x2510.2.1⟩), (.int .i64 x2510.2.2.1), (.int .u32 x2510.2.2.2)], gateE g63 F64 d9 v2609, gateE g49 F50 d9 v2608] := SP.callS hs3189 [1] [0, 2] rfl rfl hs3196 rfl
             clear hs3196
             refine ⟨_, updO_known hkn, rfl, ?_⟩
             exact (And.intro (And.intro q3190 (And.intro q3191 (And.intro q3192 (And.intro q3193 (And.intro rfl (trivial)))))) (hs3198))
           ·exact Owe.run K [(9, (pt g63 0)), (110, (.bool false))] ⟨gS K K, gB 16 K (z2967 != z2973) K hb2979, trivial⟩ (pt g63 0) (fun _ _ => K) rfl
           ·exact Owe.run K [(2, (.string ⟨List.toArray p14⟩)), (110, (.bool false))] ⟨gS K K, gB 16 K (z2967 != z2973) K hb2979, trivial⟩ (.string ⟨List.toArray p14⟩) (fun _ _ => K) rfl
           ·exact Owe.run K [(11, (pt g2519 0)), (110, (.bool false))] ⟨gS K K, gB 16 K (z2967 != z2973) K hb2979, trivial⟩ (pt g2519 3) (fun _ _ => K) rfl
           ·refine Owe.light K [4, 5] K (all_cons ?_ (all_cons ?_ all_nil))
            ·rintro ρ' w' hs hah ⟨⟨q3200, q3201, q3202, q3203, -⟩, hs3199⟩
             have e118 := hah 24 118 K
             have e110 := hah 16 110 K
             have hkn : Known ρ' [(118, (pt g2519 3)), (110, (.bool false))] := ⟨e118, (Eq.trans e110 (congrArg Value.bool hb2979)), trivial⟩
             refine Step.known _ hkn ?_
             refine Step.load (t := 33) (x := (.tmp 118)) (g := g2519) (off := 3) (i := 0) (v := (.int .u32 x2510.2.2.2)) (d := (some 119)) (k := 25) K rfl K hs3199 rfl K ?_
             exact ⟨rfl, _, updO_known hkn, rfl⟩
            ·rintro ρ' w' hs hah ⟨⟨q3206, q3207, q3208, q3209, q3210, -⟩, hs3205⟩
             have e118 := hah 24 118 K
             have e110 := hah 16 110 K
             have hkn : Known ρ' [(118, (pt g2519 3)), (110, (.bool false))] := ⟨e118, (Eq.trans e110 (congrArg Value.bool hb2979)), trivial⟩
             refine Step.known _ hkn ?_
             refine Step.load (t := 33) (x := (.tmp 118)) (g := g2519) (off := 3) (i := 0) (v := (.int .u32 x2510.2.2.2)) (d := (some 119)) (k := 25) K rfl K hs3205 rfl K ?_
             exact ⟨rfl, _, updO_known hkn, rfl⟩
           ·refine Owe.heavy K [(5, 6)] K (all_cons ⟨K, K, ?_⟩ all_nil)
            ·rintro ρ' w' hs hah ⟨⟨q3213, q3214, q3215, q3216, q3217, -⟩, hs3212⟩
             have e116 := hah 22 116 K
             have e117 := hah 23 117 K
             have e119 := hah 25 119 K
             have e110 := hah 16 110 K
             have hkn : Known ρ' [(116, (pt g63 0)), (117, (.string ⟨List.toArray p14⟩)), (119, (.int .u32 x2510.2.2.2)), (110, (.bool false))] := ⟨e116, e117, e119, (Eq.trans e110 (congrArg Value.bool hb2979)), trivial⟩
             refine Step.known _ hkn ?_
             refine Step.callF (f := 16) (fo := (.func 16)) (xs := #[(.tmp 116), (.tmp 117), (.tmp 119)]) (tys := #[29, 9, 33]) (first := #[]) (captured := #[]) (d := (some 120)) (k := 26) K rfl K K Tryd.call16 (L_gate_Gate_Admit_walk g63 A6 c7 F64 d9 v2609 p14 x2510.2.2.2 w' (SP.sub hs3212 [1] rfl rfl) (fun w hm => Dp.mono _ (SP.below_of hs3212 (l := [1]) rfl hm) hr8) z3063 hz3064) ?_
             rintro e w3219 ⟨rfl, hs3220⟩
             refine ⟨_, rfl, ?_⟩
             have hs3222 : SP [] w0 w3219 [boxE g2519 35 #[(.int .i64 x2510.1), (.string ⟨List.toArray x2510.2.1⟩), (.int .i64 x2510.2.2.1), (.int .u32 x2510.2.2.2)], gateE g49 F50 d9 v2608, gateE g63 F64 d9 v2609] := SP.callS hs3212 [1] [0, 2] rfl rfl hs3220 rfl
             clear hs3220
             refine ⟨_, updO_known hkn, rfl, ?_⟩
             exact (And.intro (And.intro q3213 (And.intro q3214 (And.intro q3215 (And.intro q3216 (And.intro q3217 (And.intro rfl (trivial))))))) (hs3222))
           ·exact Owe.run K [(115, (.int .i64 z3057)), (120, (.int .i64 z3063)), (110, (.bool false))] ⟨gA 21 K K, gA 26 K K, gB 16 K (z2967 != z2973) K hb2979, trivial⟩ (.bool (z3057 != z3063)) (fun _ _ => K) rfl
           ·exact Owe.run K [(110, (.bool false)), (121, (.bool (z3057 != z3063)))] ⟨gB 16 K (z2967 != z2973) K hb2979, gA 27 K K, trivial⟩ (.bool (z3057 != z3063)) (fun _ _ => K) rfl
           ·rintro ρ' w' hs hf ⟨⟨q3224, q3225, q3226, q3227, q3228, q3229, -⟩, hs3223⟩
            refine postKnown [(1, (.slice A11 (List.length p10) c12)), (2, (.string ⟨List.toArray p14⟩)), (7, (.bool z19)), (8, (pt g49 0)), (9, (pt g63 0)), (10, (.int .i64 v1703)), (122, (.bool (z3057 != z3063)))] ⟨(hs 1 K).trans K, (hs 2 K).trans K, (hs 7 K).trans K, (hs 8 K).trans K, (hs 9 K).trans K, (hs 10 K).trans K, hf 28 122 K, trivial⟩ ?_
            obtain ⟨w3231, hww3231⟩ : ∃ x, w' = x := ⟨_, rfl⟩
            rw [hww3231] at hs3223 ⊢
            exact ⟨(z3057 != z3063), ⟨K, K, K, K, K, K, K, trivial⟩, SP.sel hs3223 [1, 2] rfl rfl, H⟩
        ·rintro ρ w2921 ⟨v2920, hk, hs2922, H⟩
         unfold L_subwaylaw11_GateApart_k38 at H
         first | refine At.known [(1, (.slice A11 (List.length p10) c12)), (2, (.string ⟨List.toArray p14⟩)), (7, (.bool z19)), (8, (pt g49 0)), (9, (pt g63 0)), (10, (.int .i64 v1703)), (122, (.bool v2920))] hk ?_ | rw [← known_updL (l := [(1, (.slice A11 (List.length p10) c12)), (2, (.string ⟨List.toArray p14⟩)), (7, (.bool z19)), (8, (pt g49 0)), (9, (pt g63 0)), (10, (.int .i64 v1703)), (122, (.bool v2920))]) hk]
         refine At.cd K (o := (.tmp 122)) K (b := v2920) K (fun hb2923 => ?_) (fun hb2923 => ?_)
         ·have H := ct H hb2923
          refine At.sq K ?_
          refine At.region K K ?_
          refine In.run' 1 (k' := 1) rfl [(6, (.bool false))] K ?_
          refine In.fin K ?_
          refine At.ret K ?_
          refine ⟨(.bool false), K, ?_⟩
          obtain rfl := some_elim H
          exact ⟨rfl, SP.sel hs2922 [] rfl rfl⟩
         ·have H := cf H hb2923
          refine At.skip K ?_
          refine At.region K K ?_
          refine In.run' 3 (k' := 3) rfl [(44, (.int .i64 v1703)), (45, (.int .i64 (IntKind.wrap .i64 (v1703 + 1)))), (10, (.int .i64 (IntKind.wrap .i64 (v1703 + 1))))] K ?_
          refine In.fin K ?_
          exact ⟨v2608, v2609, (IntKind.wrap .i64 (v1703 + 1)), ⟨K, K, K, K, K, K, trivial⟩, SP.sel hs2922 [0, 1] rfl rfl, H⟩
      ·have H := cf H hb2509
       refine At.exit K (id := 0) K ?_
       refine At.sq K ?_
       refine At.region K K ?_
       refine In.run' 2 (k' := 2) rfl [(123, (.bool z19)), (6, (.bool z19))] K ?_
       refine In.fin K ?_
       refine At.ret K ?_
       refine ⟨(.bool z19), K, ?_⟩
       obtain rfl := some_elim H
       exact ⟨rfl, SP.sel hs1700 [] rfl rfl⟩
     ·exact ⟨o27, o55, 0, ⟨K, K, K, K, K, K, trivial⟩, SP.sel hs83 [0, 1] rfl rfl, H⟩
end Go.Proofs.YtfffjaijflbeaaaDoor
