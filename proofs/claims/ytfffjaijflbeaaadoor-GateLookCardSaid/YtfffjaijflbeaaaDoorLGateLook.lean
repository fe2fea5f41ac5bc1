/- LIFTED BY PROGRAM (tools/lift.py): what functions compute, and that they do. -/
import Derived.Test.YtfffjaijflbeaaaDoorLGH
namespace Go.Proofs.YtfffjaijflbeaaaDoor
set_option linter.unusedSimpArgs false
set_option linter.unusedVariables false
open Go.RowKit

/-! L_subwaylaw11_GateLook -/
def L_subwaylaw11_GateLook_k12 (rec11 : (List (List Int)) → (List (List Int)) → Int → Option (Bool)) (v712 : Int) (v1166 : (List (List Int))) (v1167 : (List (List Int))) : Option (Bool) :=
  (rec11 v1166 v1167 (IntKind.wrap .i64 (v712 + 1)))
def L_subwaylaw11_GateLook_k13 (rec11 : (List (List Int)) → (List (List Int)) → Int → Option (Bool)) : Option (Bool) :=
  (some (false))
def L_subwaylaw11_GateLook_k14 (rec11 : (List (List Int)) → (List (List Int)) → Int → Option (Bool)) (v1315 : Bool) : Option (Bool) :=
  (some (v1315))
def L_subwaylaw11_GateLook_b8 (rec11 : (List (List Int)) → (List (List Int)) → Int → Option (Bool)) (pWait1 : Int) (pGrace2 : Int) (pIdle3 : Int) (pLease4 : Int) (pTenants5 : (List TenantL)) (p10 : (List (Int × (List UInt8) × Int × Int))) (p14 : (List UInt8)) (p15 : Int) (z20 : (Bool)) (v710 : (List (List Int))) (v711 : (List (List Int))) (v712 : Int) : Option (Bool) :=
  (cond (decide (v712 < ((List.length p10 : Nat) : Int))) ((idx p10 v712).bind fun x1023 => ((L_gate_Gate_Admit pTenants5 v710 x1023.2.1 x1023.2.2.2).bind fun z1039 => ((L_gate_Gate_Used pTenants5 v710 x1023.2.1 x1023.2.2.1).bind fun z1045 => (cond (x1023.1 == 2) ((L_gate_Gate_Give pTenants5 v710 x1023.2.1 x1023.2.2.1).bind fun z1171 => ((L_gate_Gate_Give pTenants5 v711 x1023.2.1 x1023.2.2.1).bind fun z1177 => (cond (!(z1171.1 == z1177.1)) (some (false)) (L_subwaylaw11_GateLook_k12 rec11 v712 z1171.2 z1177.2)))) ((L_gate_Gate_Take pTenants5 v710 x1023.2.1 x1023.2.2.1).bind fun z1228 => ((L_gate_Gate_Take pTenants5 v711 x1023.2.1 x1023.2.2.1).bind fun z1234 => (cond (z1228.1 != z1234.1) (some (false)) (L_subwaylaw11_GateLook_k12 rec11 v712 z1228.2 z1234.2)))))))) ((L_gate_New pWait1 pGrace2 pIdle3 pLease4 pTenants5).bind fun z1285 => (optE z1285 (cond z20 (L_subwaylaw11_GateLook_k13 rec11) (L_subwaylaw11_GateLook_k13 rec11)) (fun o1287 => (cond z20 ((L_gate_Gate_Admit pTenants5 v710 p14 p15).bind fun z1319 => ((L_gate_Gate_Admit pTenants5 o1287 p14 p15).bind fun z1325 => (L_subwaylaw11_GateLook_k14 rec11 (z1319 == z1325)))) (L_subwaylaw11_GateLook_k14 rec11 false))))))
def L_subwaylaw11_GateLook_l8 (pWait1 : Int) (pGrace2 : Int) (pIdle3 : Int) (pLease4 : Int) (pTenants5 : (List TenantL)) (p10 : (List (Int × (List UInt8) × Int × Int))) (p14 : (List UInt8)) (p15 : Int) (z20 : (Bool)) : Nat → (List (List Int)) → (List (List Int)) → Int → Option (Bool)
  | 0, _, _, _ => none
  | f + 1, v710, v711, v712 => L_subwaylaw11_GateLook_b8  (L_subwaylaw11_GateLook_l8 pWait1 pGrace2 pIdle3 pLease4 pTenants5 p10 p14 p15 z20 f) pWait1 pGrace2 pIdle3 pLease4 pTenants5 p10 p14 p15 z20 v710 v711 v712
def L_subwaylaw11_GateLook_k1 (pWait1 : Int) (pGrace2 : Int) (pIdle3 : Int) (pLease4 : Int) (pTenants5 : (List TenantL)) (p10 : (List (Int × (List UInt8) × Int × Int))) (p14 : (List UInt8)) (p15 : Int) (z20 : (Bool)) (o28 : ((List (List Int)))) (o56 : ((List (List Int)))) (v82 : Bool) : Option (Bool) :=
  (cond v82 (some (z20)) (L_subwaylaw11_GateLook_l8 pWait1 pGrace2 pIdle3 pLease4 pTenants5 p10 p14 p15 z20 fuel o28 o56 0))
def L_subwaylaw11_GateLook (pWait1 : Int) (pGrace2 : Int) (pIdle3 : Int) (pLease4 : Int) (pTenants5 : (List TenantL)) (p10 : (List (Int × (List UInt8) × Int × Int))) (p14 : (List UInt8)) (p15 : Int) : Option (Bool) :=
  ((L_subwaylaw11_head ).bind fun z20 => ((L_gate_New pWait1 pGrace2 pIdle3 pLease4 pTenants5).bind fun z26 => (optE z26 ((L_gate_New pWait1 pGrace2 pIdle3 pLease4 pTenants5).bind fun z33 => (optE z33 (some (z20)) (fun o35 => (some (z20))))) (fun o28 => ((L_gate_New pWait1 pGrace2 pIdle3 pLease4 pTenants5).bind fun z54 => (optE z54 (some (z20)) (fun o56 => ((L_subwaylaw09_Great pWait1 pGrace2 pIdle3 pLease4 pTenants5).bind fun z1331 => (cond z1331 (L_subwaylaw11_GateLook_k1 pWait1 pGrace2 pIdle3 pLease4 pTenants5 p10 p14 p15 z20 o28 o56 true) ((L_subwaylaw11_great p10).bind fun z1338 => (cond z1338 (L_subwaylaw11_GateLook_k1 pWait1 pGrace2 pIdle3 pLease4 pTenants5 p10 p14 p15 z20 o28 o56 true) (L_subwaylaw11_GateLook_k1 pWait1 pGrace2 pIdle3 pLease4 pTenants5 p10 p14 p15 z20 o28 o56 (decide (((List.length p14 : Nat) : Int) > 1000))))))))))))))
set_option maxRecDepth 100000 in
set_option maxHeartbeats 4000000 in
theorem L_subwaylaw11_GateLook_walk (A6 : Option Addr) (c7 : Nat) (A11 : Option Addr) (c12 : Nat) (pWait1 : Int) (pGrace2 : Int) (pIdle3 : Int) (pLease4 : Int) (d9 : (List TenantD)) (p10 : (List (Int × (List UInt8) × Int × Int))) (p14 : (List UInt8)) (p15 : Int) (w0 : World) (hL : LaidW w0) (hr8 : (dDS eTen dTen).ok w0 (A6, c7, d9)) (hr13 : RdT (ePair (eInt .i64) (ePair eStr (ePair (eInt .i64) (eInt .u32)))) w0 A11 c12 p10) (r : (Bool)) (H : L_subwaylaw11_GateLook pWait1 pGrace2 pIdle3 pLease4 (List.map stT d9) p10 p14 p15 = some r) :
  Calls Tryd.prog 8 #[(.agg #[(.int .i64 pWait1), (.int .i64 pGrace2), (.int .i64 pIdle3), (.int .i64 pLease4), (.slice A6 (List.length (List.map stT d9)) c7)]), (.slice A11 (List.length p10) c12), (.string ⟨List.toArray p14⟩), (.int .u32 p15)] w0 (fun e w' => e = .returned (.bool r) ∧ SP [] w0 w' []) := by
 unfold L_subwaylaw11_GateLook at H
 refine calls_go (n := 109) Tryd.func8 K K K ?_
 have hs0 := SP.start [] w0
 refine At.sq K ?_
 refine At.region K K ?_
 refine In.step (k' := 1) rfl K ?_
 refine Step.box (t := 24) (x := (.tmp 0)) (v := (.agg #[(.int .i64 pWait1), (.int .i64 pGrace2), (.int .i64 pIdle3), (.int .i64 pLease4), (.slice A6 (List.length (List.map stT d9)) c7)])) (d := (some 4)) (k := 0) K rfl K hs0 ?_
 intro g16 w17 (hs19 : SP [] w0 w17 [boxE g16 24 #[(.int .i64 pWait1), (.int .i64 pGrace2), (.int .i64 pIdle3), (.int .i64 pLease4), (.slice A6 (List.length (List.map stT d9)) c7)]])
 refine In.run' 1 (k' := 2) rfl [(8, (.bool false))] K ?_
 refine In.fin K ?_
 refine At.sq K ?_
 refine At.region K K ?_
 obtain ⟨z20, hz21, H⟩ := bind_elim H
 refine In.step (k' := 1) rfl K ?_
 refine Step.callF (f := 9) (fo := (.func 9)) (xs := #[]) (tys := #[]) (first := #[]) (captured := #[]) (d := (some 15)) (k := 0) K rfl K K Tryd.call9 (L_subwaylaw11_head_walk   w17 (laid_below hL (SP.keeps hs19)) z20 hz21) ?_
 rintro e w22 ⟨rfl, hs23⟩
 refine ⟨_, rfl, ?_⟩
 have hs25 : SP [] w0 w22 [boxE g16 24 #[(.int .i64 pWait1), (.int .i64 pGrace2), (.int .i64 pIdle3), (.int .i64 pLease4), (.slice A6 (List.length (List.map stT d9)) c7)]] := SP.call hs19 hs23
 clear hs23
 refine In.run' 1 (k' := 2) rfl [(9, (.bool z20))] K ?_
 refine In.fin K ?_
 refine At.sq K ?_
 refine At.region K K ?_
 refine In.step (k' := 1) rfl K ?_
 refine Step.load (t := 24) (x := (.tmp 4)) (g := g16) (off := 0) (i := 0) (v := (.agg #[(.int .i64 pWait1), (.int .i64 pGrace2), (.int .i64 pIdle3), (.int .i64 pLease4), (.slice A6 (List.length (List.map stT d9)) c7)])) (d := (some 16)) (k := 0) K rfl K hs25 rfl K ?_
 obtain ⟨z26, hz27, H⟩ := bind_elim H
 rcases z26 with _ | o28
 ·have H := optN H
  refine In.step (k' := 2) rfl K ?_
  refine Step.callF (f := 12) (fo := (.func 12)) (xs := #[(.tmp 16)]) (tys := #[24]) (first := #[]) (captured := #[]) (d := (some 17)) (k := 1) K rfl K K Tryd.call12 (L_gate_New_walk A6 c7 pWait1 pGrace2 pIdle3 pLease4 d9 w22 (laid_below hL (SP.keeps hs25)) (Dp.sp hr8 hs25) none hz27) ?_
  rintro e w29 ⟨rfl, hs30⟩
  refine ⟨_, rfl, ?_⟩
  have hs32 : SP [] w0 w29 [boxE g16 24 #[(.int .i64 pWait1), (.int .i64 pGrace2), (.int .i64 pIdle3), (.int .i64 pLease4), (.slice A6 (List.length (List.map stT d9)) c7)]] := SP.call hs25 hs30
  clear hs30
  refine In.run' 1 (k' := 3) rfl [(10, (.pointer none))] K ?_
  refine In.fin K ?_
  refine At.sq K ?_
  refine At.region K K ?_
  refine In.step (k' := 1) rfl K ?_
  refine Step.load (t := 24) (x := (.tmp 4)) (g := g16) (off := 0) (i := 0) (v := (.agg #[(.int .i64 pWait1), (.int .i64 pGrace2), (.int .i64 pIdle3), (.int .i64 pLease4), (.slice A6 (List.length (List.map stT d9)) c7)])) (d := (some 18)) (k := 0) K rfl K hs32 rfl K ?_
  obtain ⟨z33, hz34, H⟩ := bind_elim H
  rcases z33 with _ | o35
  ·have H := optN H
   refine In.step (k' := 2) rfl K ?_
   refine Step.callF (f := 12) (fo := (.func 12)) (xs := #[(.tmp 18)]) (tys := #[24]) (first := #[]) (captured := #[]) (d := (some 19)) (k := 1) K rfl K K Tryd.call12 (L_gate_New_walk A6 c7 pWait1 pGrace2 pIdle3 pLease4 d9 w29 (laid_below hL (SP.keeps hs32)) (Dp.sp hr8 hs32) none hz34) ?_
   rintro e w36 ⟨rfl, hs37⟩
   refine ⟨_, rfl, ?_⟩
   have hs39 : SP [] w0 w36 [boxE g16 24 #[(.int .i64 pWait1), (.int .i64 pGrace2), (.int .i64 pIdle3), (.int .i64 pLease4), (.slice A6 (List.length (List.map stT d9)) c7)]] := SP.call hs32 hs37
   clear hs37
   refine In.run' 1 (k' := 3) rfl [(11, (.pointer none))] K ?_
   refine In.fin K ?_
   refine At.sq K ?_
   refine At.sq K ?_
   refine At.region K K ?_
   refine In.run' 19 (k' := 19) rfl [(20, (.pointer none)), (21, (.bool true)), (22, (.bool true)), (23, undef), (24, undef), (25, (.bool true)), (26, (.bool true)), (27, undef), (28, undef), (29, (.bool true)), (30, (.bool true)), (31, undef), (32, undef), (33, (.bool true)), (34, (.bool true)), (35, undef), (36, undef), (37, undef), (38, (.bool true))] K ?_
   refine In.fin K ?_
   refine At.cd K (o := (.tmp 38)) K (b := true) K (fun hb40 => ?_) (fun hb40 => ?_)
   rotate_left
   ·cases hb40
   refine At.sq K ?_
   refine At.region K K ?_
   refine In.run' 2 (k' := 2) rfl [(39, (.bool z20)), (8, (.bool z20))] K ?_
   refine In.fin K ?_
   refine At.ret K ?_
   refine ⟨(.bool z20), K, ?_⟩
   obtain rfl := some_elim H
   exact ⟨rfl, SP.sel hs39 [] rfl rfl⟩
  ·have H := optS H
   refine In.step (k' := 2) rfl K ?_
   refine Step.callF (f := 12) (fo := (.func 12)) (xs := #[(.tmp 18)]) (tys := #[24]) (first := #[]) (captured := #[]) (d := (some 19)) (k := 1) K rfl K K Tryd.call12 (L_gate_New_walk A6 c7 pWait1 pGrace2 pIdle3 pLease4 d9 w29 (laid_below hL (SP.keeps hs32)) (Dp.sp hr8 hs32) (some o35) hz34) ?_
   rintro e w41 ⟨g43, F44, rfl, hs42⟩
   refine ⟨_, rfl, ?_⟩
   have hs46 : SP [] w0 w41 [boxE g16 24 #[(.int .i64 pWait1), (.int .i64 pGrace2), (.int .i64 pIdle3), (.int .i64 pLease4), (.slice A6 (List.length (List.map stT d9)) c7)], gateE g43 F44 d9 o35] := SP.call hs32 hs42
   clear hs42
   refine In.run' 1 (k' := 3) rfl [(11, (pt g43 0))] K ?_
   refine In.fin K ?_
   refine At.sq K ?_
   refine At.sq K ?_
   refine At.region K K ?_
   refine In.run' 19 (k' := 19) rfl [(20, (.pointer none)), (21, (.bool true)), (22, (.bool true)), (23, undef), (24, undef), (25, (.bool true)), (26, (.bool true)), (27, undef), (28, undef), (29, (.bool true)), (30, (.bool true)), (31, undef), (32, undef), (33, (.bool true)), (34, (.bool true)), (35, undef), (36, undef), (37, undef), (38, (.bool true))] K ?_
   refine In.fin K ?_
   refine At.cd K (o := (.tmp 38)) K (b := true) K (fun hb47 => ?_) (fun hb47 => ?_)
   rotate_left
   ·cases hb47
   refine At.sq K ?_
   refine At.region K K ?_
   refine In.run' 2 (k' := 2) rfl [(39, (.bool z20)), (8, (.bool z20))] K ?_
   refine In.fin K ?_
   refine At.ret K ?_
   refine ⟨(.bool z20), K, ?_⟩
   obtain rfl := some_elim H
   exact ⟨rfl, SP.sel hs46 [] rfl rfl⟩
 ·have H := optS H
  refine In.step (k' := 2) rfl K ?_
  refine Step.callF (f := 12) (fo := (.func 12)) (xs := #[(.tmp 16)]) (tys := #[24]) (first := #[]) (captured := #[]) (d := (some 17)) (k := 1) K rfl K K Tryd.call12 (L_gate_New_walk A6 c7 pWait1 pGrace2 pIdle3 pLease4 d9 w22 (laid_below hL (SP.keeps hs25)) (Dp.sp hr8 hs25) (some o28) hz27) ?_
  rintro e w48 ⟨g50, F51, rfl, hs49⟩
  refine ⟨_, rfl, ?_⟩
  have hs53 : SP [] w0 w48 [boxE g16 24 #[(.int .i64 pWait1), (.int .i64 pGrace2), (.int .i64 pIdle3), (.int .i64 pLease4), (.slice A6 (List.length (List.map stT d9)) c7)], gateE g50 F51 d9 o28] := SP.call hs25 hs49
  clear hs49
  refine In.run' 1 (k' := 3) rfl [(10, (pt g50 0))] K ?_
  refine In.fin K ?_
  refine At.sq K ?_
  refine At.region K K ?_
  refine In.step (k' := 1) rfl K ?_
  refine Step.load (t := 24) (x := (.tmp 4)) (g := g16) (off := 0) (i := 0) (v := (.agg #[(.int .i64 pWait1), (.int .i64 pGrace2), (.int .i64 pIdle3), (.int .i64 pLease4), (.slice A6 (List.length (List.map stT d9)) c7)])) (d := (some 18)) (k := 0) K rfl K hs53 rfl K ?_
  obtain ⟨z54, hz55, H⟩ := bind_elim H
  rcases z54 with _ | o56
  ·have H := optN H
   refine In.step (k' := 2) rfl K ?_
   refine Step.callF (f := 12) (fo := (.func 12)) (xs := #[(.tmp 18)]) (tys := #[24]) (first := #[]) (captured := #[]) (d := (some 19)) (k := 1) K rfl K K Tryd.call12 (L_gate_New_walk A6 c7 pWait1 pGrace2 pIdle3 pLease4 d9 w48 (laid_below hL (SP.keeps hs53)) (Dp.sp hr8 hs53) none hz55) ?_
   rintro e w57 ⟨rfl, hs58⟩
   refine ⟨_, rfl, ?_⟩
   have hs60 : SP [] w0 w57 [boxE g16 24 #[(.int .i64 pWait1), (.int .i64 pGrace2), (.int .i64 pIdle3), (.int .i64 pLease4), (.slice A6 (List.length (List.map stT d9)) c7)], gateE g50 F51 d9 o28] := SP.call hs53 hs58
   clear hs58
   refine In.run' 1 (k' := 3) rfl [(11, (.pointer none))] K ?_
   refine In.fin K ?_
   refine At.sq K ?_
   refine At.sq K ?_
   refine At.region K K ?_
   refine In.run' 19 (k' := 19) rfl [(20, (pt g50 0)), (21, (.bool false)), (22, (.bool false)), (23, (.pointer none)), (24, (.bool true)), (25, (.bool true)), (26, (.bool true)), (27, undef), (28, undef), (29, (.bool true)), (30, (.bool true)), (31, undef), (32, undef), (33, (.bool true)), (34, (.bool true)), (35, undef), (36, undef), (37, undef), (38, (.bool true))] K ?_
   refine In.fin K ?_
   refine At.cd K (o := (.tmp 38)) K (b := true) K (fun hb61 => ?_) (fun hb61 => ?_)
   rotate_left
   ·cases hb61
   refine At.sq K ?_
   refine At.region K K ?_
   refine In.run' 2 (k' := 2) rfl [(39, (.bool z20)), (8, (.bool z20))] K ?_
   refine In.fin K ?_
   refine At.ret K ?_
   refine ⟨(.bool z20), K, ?_⟩
   obtain rfl := some_elim H
   exact ⟨rfl, SP.sel hs60 [] rfl rfl⟩
  ·have H := optS H
   refine In.step (k' := 2) rfl K ?_
   refine Step.callF (f := 12) (fo := (.func 12)) (xs := #[(.tmp 18)]) (tys := #[24]) (first := #[]) (captured := #[]) (d := (some 19)) (k := 1) K rfl K K Tryd.call12 (L_gate_New_walk A6 c7 pWait1 pGrace2 pIdle3 pLease4 d9 w48 (laid_below hL (SP.keeps hs53)) (Dp.sp hr8 hs53) (some o56) hz55) ?_
   rintro e w62 ⟨g64, F65, rfl, hs63⟩
   refine ⟨_, rfl, ?_⟩
   have hs67 : SP [] w0 w62 [boxE g16 24 #[(.int .i64 pWait1), (.int .i64 pGrace2), (.int .i64 pIdle3), (.int .i64 pLease4), (.slice A6 (List.length (List.map stT d9)) c7)], gateE g50 F51 d9 o28, gateE g64 F65 d9 o56] := SP.call hs53 hs63
   clear hs63
   refine In.run' 1 (k' := 3) rfl [(11, (pt g64 0))] K ?_
   refine In.fin K ?_
   refine At.sq K ?_
   refine At.sq K ?_
   refine At.join (fun ρ w => ∃ (v82 : Bool), Known ρ [(1, (.slice A11 (List.length p10) c12)), (2, (.string ⟨List.toArray p14⟩)), (3, (.int .u32 p15)), (4, (pt g16 0)), (9, (.bool z20)), (10, (pt g50 0)), (11, (pt g64 0)), (38, (.bool v82))] ∧ SP [] w0 w [boxE g16 24 #[(.int .i64 pWait1), (.int .i64 pGrace2), (.int .i64 pIdle3), (.int .i64 pLease4), (.slice A6 (List.length (List.map stT d9)) c7)], gateE g50 F51 d9 o28, gateE g64 F65 d9 o56] ∧ L_subwaylaw11_GateLook_k1 pWait1 pGrace2 pIdle3 pLease4 (List.map stT d9) p10 p14 p15 z20 o28 o56 v82 = some r) ?_ ?_
   ·refine At.region K K ?_
    refine In.run' 7 (k' := 7) rfl [(20, (pt g50 0)), (21, (.bool false)), (22, (.bool false)), (23, (pt g64 0)), (24, (.bool false)), (25, (.bool false)), (26, (.bool false))] K ?_
    refine In.step (k' := 8) rfl K ?_
    refine Step.load (t := 24) (x := (.tmp 4)) (g := g16) (off := 0) (i := 0) (v := (.agg #[(.int .i64 pWait1), (.int .i64 pGrace2), (.int .i64 pIdle3), (.int .i64 pLease4), (.slice A6 (List.length (List.map stT d9)) c7)])) (d := (some 27)) (k := 7) K rfl K hs67 rfl K ?_
    obtain ⟨z1331, hz1332, H⟩ := bind_elim H
    refine In.step (k' := 9) rfl K ?_
    refine Step.callF (f := 10) (fo := (.func 10)) (xs := #[(.tmp 27)]) (tys := #[24]) (first := #[]) (captured := #[]) (d := (some 28)) (k := 8) K rfl K K Tryd.call10 (L_subwaylaw09_Great_walk A6 c7 pWait1 pGrace2 pIdle3 pLease4 d9 w62 (Dp.sp hr8 hs67) z1331 hz1332) ?_
    rintro e w1333 ⟨rfl, hs1334⟩
    refine ⟨_, rfl, ?_⟩
    have hs1336 : SP [] w0 w1333 [boxE g16 24 #[(.int .i64 pWait1), (.int .i64 pGrace2), (.int .i64 pIdle3), (.int .i64 pLease4), (.slice A6 (List.length (List.map stT d9)) c7)], gateE g50 F51 d9 o28, gateE g64 F65 d9 o56] := SP.call hs67 hs1334
    clear hs1334
    refine In.run' 2 (k' := 11) rfl [(29, (.bool z1331)), (30, (.bool z1331))] K ?_
    refine In.guard (t := 30) (b := z1331) K (fun hb1337 => ?_) (fun hb1337 => ?_)
    ·have H := ct H hb1337
     refine In.run' 8 (k' := 19) rfl [(31, undef), (32, undef), (33, (.bool true)), (34, (.bool true)), (35, undef), (36, undef), (37, undef), (38, (.bool true))] K ?_
     refine In.fin K ?_
     exact ⟨true, ⟨K, K, K, K, K, K, K, K, trivial⟩, SP.sel hs1336 [0, 1, 2] rfl rfl, H⟩
    ·have H := cf H hb1337
     refine In.run' 1 (k' := 12) rfl [(31, (.slice A11 (List.length p10) c12))] K ?_
     obtain ⟨z1338, hz1339, H⟩ := bind_elim H
     refine In.step (k' := 13) rfl K ?_
     refine Step.callF (f := 11) (fo := (.func 11)) (xs := #[(.tmp 31)]) (tys := #[25]) (first := #[]) (captured := #[]) (d := (some 32)) (k := 12) K rfl K K Tryd.call11 (L_subwaylaw11_great_walk A11 c12 p10 w1333 (RdT.sp hr13 hs1336) z1338 hz1339) ?_
     rintro e w1340 ⟨rfl, hs1341⟩
     refine ⟨_, rfl, ?_⟩
     have hs1343 : SP [] w0 w1340 [boxE g16 24 #[(.int .i64 pWait1), (.int .i64 pGrace2), (.int .i64 pIdle3), (.int .i64 pLease4), (.slice A6 (List.length (List.map stT d9)) c7)], gateE g50 F51 d9 o28, gateE g64 F65 d9 o56] := SP.call hs1336 hs1341
     clear hs1341
     refine In.run' 2 (k' := 15) rfl [(33, (.bool z1338)), (34, (.bool z1338))] K ?_
     refine In.guard (t := 34) (b := z1338) K (fun hb1344 => ?_) (fun hb1344 => ?_)
     ·have H := ct H hb1344
      refine In.run' 4 (k' := 19) rfl [(35, undef), (36, undef), (37, undef), (38, (.bool true))] K ?_
      refine In.fin K ?_
      exact ⟨true, ⟨K, K, K, K, K, K, K, K, trivial⟩, SP.sel hs1343 [0, 1, 2] rfl rfl, H⟩
     ·have H := cf H hb1344
      refine In.run' 4 (k' := 19) rfl [(35, (.string ⟨List.toArray p14⟩)), (36, (.int .i64 ((List.length p14 : Nat) : Int))), (37, (.bool (decide (((List.length p14 : Nat) : Int) > 1000)))), (38, (.bool (decide (((List.length p14 : Nat) : Int) > 1000))))] K ?_
      refine In.fin K ?_
      exact ⟨(decide (((List.length p14 : Nat) : Int) > 1000)), ⟨K, K, K, K, K, K, K, K, trivial⟩, SP.sel hs1343 [0, 1, 2] rfl rfl, H⟩
   ·rintro ρ w83 ⟨v82, hk, hs84, H⟩
    unfold L_subwaylaw11_GateLook_k1 at H
    first | refine At.known [(1, (.slice A11 (List.length p10) c12)), (2, (.string ⟨List.toArray p14⟩)), (3, (.int .u32 p15)), (4, (pt g16 0)), (9, (.bool z20)), (10, (pt g50 0)), (11, (pt g64 0)), (38, (.bool v82))] hk ?_ | rw [← known_updL (l := [(1, (.slice A11 (List.length p10) c12)), (2, (.string ⟨List.toArray p14⟩)), (3, (.int .u32 p15)), (4, (pt g16 0)), (9, (.bool z20)), (10, (pt g50 0)), (11, (pt g64 0)), (38, (.bool v82))]) hk]
    refine At.cd K (o := (.tmp 38)) K (b := v82) K (fun hb85 => ?_) (fun hb85 => ?_)
    ·have H := ct H hb85
     refine At.sq K ?_
     refine At.region K K ?_
     refine In.run' 2 (k' := 2) rfl [(39, (.bool z20)), (8, (.bool z20))] K ?_
     refine In.fin K ?_
     refine At.ret K ?_
     refine ⟨(.bool z20), K, ?_⟩
     obtain rfl := some_elim H
     exact ⟨rfl, SP.sel hs84 [] rfl rfl⟩
    ·have H := cf H hb85
     refine At.skip K ?_
     refine At.sq K ?_
     refine At.sq K ?_
     refine At.region K K ?_
     refine In.run' 1 (k' := 1) rfl [(12, (.int .i64 0))] K ?_
     refine In.fin K ?_
     refine At.bk K (id := 0) K ?_
     refine At.lp K (fun f11 ρ w => ∃ (v710 : (List (List Int))) (v711 : (List (List Int))) (v712 : Int), Known ρ [(1, (.slice A11 (List.length p10) c12)), (2, (.string ⟨List.toArray p14⟩)), (3, (.int .u32 p15)), (4, (pt g16 0)), (9, (.bool z20)), (10, (pt g50 0)), (11, (pt g64 0)), (12, (.int .i64 v712))] ∧ SP [] w0 w [boxE g16 24 #[(.int .i64 pWait1), (.int .i64 pGrace2), (.int .i64 pIdle3), (.int .i64 pLease4), (.slice A6 (List.length (List.map stT d9)) c7)], gateE g50 F51 d9 v710, gateE g64 F65 d9 v711] ∧ L_subwaylaw11_GateLook_l8 pWait1 pGrace2 pIdle3 pLease4 (List.map stT d9) p10 p14 p15 z20 f11 v710 v711 v712 = some r) (by rintro ρ w ⟨v710, v711, v712, hk, hs, H⟩; cases H) ?_ fuel ?_
     ·rintro f11 ρ w708 ⟨v710, v711, v712, hk, hs709, H⟩
      refine At.known [(1, (.slice A11 (List.length p10) c12)), (2, (.string ⟨List.toArray p14⟩)), (3, (.int .u32 p15)), (4, (pt g16 0)), (9, (.bool z20)), (10, (pt g50 0)), (11, (pt g64 0)), (12, (.int .i64 v712))] hk ?_
      replace H := (show L_subwaylaw11_GateLook_b8 (L_subwaylaw11_GateLook_l8 pWait1 pGrace2 pIdle3 pLease4 (List.map stT d9) p10 p14 p15 z20 f11) pWait1 pGrace2 pIdle3 pLease4 (List.map stT d9) p10 p14 p15 z20 v710 v711 v712 = some r from H)
      unfold L_subwaylaw11_GateLook_b8 at H
      refine At.sq K ?_
      refine At.sq K ?_
      refine At.region K K ?_
      refine In.run' 4 (k' := 4) rfl [(40, (.int .i64 v712)), (41, (.slice A11 (List.length p10) c12)), (42, (.int .i64 ((List.length p10 : Nat) : Int))), (43, (.bool (decide (v712 < ((List.length p10 : Nat) : Int)))))] K ?_
      refine In.fin K ?_
      refine At.cd K (o := (.tmp 43)) K (b := (decide (v712 < ((List.length p10 : Nat) : Int)))) K (fun hb1022 => ?_) (fun hb1022 => ?_)
      ·have H := ct H hb1022
       refine At.skip K ?_
       refine At.sq K ?_
       refine At.bk K (id := 1) K ?_
       refine At.sq K ?_
       refine At.region K K ?_
       refine In.run' 2 (k' := 2) rfl [(46, (.slice A11 (List.length p10) c12)), (47, (.int .i64 v712))] K ?_
       obtain ⟨x1023, hp1024, hq1025, hx1026, H⟩ := idx_elim H
       refine In.step (k' := 3) rfl K ?_
       refine Step.elem (e := (ePair (eInt .i64) (ePair eStr (ePair (eInt .i64) (eInt .u32))))) (l := p10) (A := A11) (c := c12) (T := 25) (E := 35) (x := (.tmp 46)) (ix := (.tmp 47)) (ki := .i64) (iz := v712) (d := (some 48)) (k := 2) K rfl K K K K (RdT.sp hr13 hs709) hp1024 hq1025 ?_
       intro b1027 o1028 hA1030 hb1031 hc1029
       refine In.step (k' := 4) rfl K ?_
       refine Step.cells (t := 35) (x := (.tmp 48)) (b := b1027) (off := (o1028 + Int.toNat v712 * (ePair (eInt .i64) (ePair eStr (ePair (eInt .i64) (eInt .u32)))).sz)) (xs := [(.int .i64 x1023.1), (.string ⟨List.toArray x1023.2.1⟩), (.int .i64 x1023.2.2.1), (.int .u32 x1023.2.2.2)]) (d := (some 49)) (k := 3) K rfl K K K (elem_cells0 (e := (ePair (eInt .i64) (ePair eStr (ePair (eInt .i64) (eInt .u32))))) (rdt_cells (RdT.sp hr13 hs709) hA1030 hp1024 hq1025) hx1026 rfl) ?_
       refine In.step (k' := 5) rfl K ?_
       refine Step.alloc (t := 35) (z := (.agg #[(.int .i64 0), (.string ⟨List.toArray ([] : List UInt8)⟩), (.int .i64 0), (.int .u32 0)])) (d := (some 13)) (k := 4) K rfl K hs709 ?_
       intro g1032 w1033 (hs1035 : SP [] w0 w1033 [boxE g16 24 #[(.int .i64 pWait1), (.int .i64 pGrace2), (.int .i64 pIdle3), (.int .i64 pLease4), (.slice A6 (List.length (List.map stT d9)) c7)], gateE g50 F51 d9 v710, gateE g64 F65 d9 v711, boxE g1032 35 #[(.int .i64 0), (.string ⟨List.toArray ([] : List UInt8)⟩), (.int .i64 0), (.int .u32 0)]])
       refine In.step (k' := 6) rfl K ?_
       refine Step.store (t := 35) (x := (.tmp 13)) (y := (.tmp 49)) (g := g1032) (off := 0) (i := 3) (v := (.agg #[(.int .i64 x1023.1), (.string ⟨List.toArray x1023.2.1⟩), (.int .i64 x1023.2.2.1), (.int .u32 x1023.2.2.2)])) (cs' := #[(.int .i64 x1023.1), (.string ⟨List.toArray x1023.2.1⟩), (.int .i64 x1023.2.2.1), (.int .u32 x1023.2.2.2)]) (d := none) (k := 5) K rfl K K hs1035 rfl K ?_
       intro w1036 (hs1038 : SP [] w0 w1036 [boxE g16 24 #[(.int .i64 pWait1), (.int .i64 pGrace2), (.int .i64 pIdle3), (.int .i64 pLease4), (.slice A6 (List.length (List.map stT d9)) c7)], gateE g50 F51 d9 v710, gateE g64 F65 d9 v711, boxE g1032 35 #[(.int .i64 x1023.1), (.string ⟨List.toArray x1023.2.1⟩), (.int .i64 x1023.2.2.1), (.int .u32 x1023.2.2.2)]])
       refine In.fin K ?_
       refine At.sq K ?_
       refine At.region K K ?_
       refine In.run' 2 (k' := 2) rfl [(50, (pt g50 0)), (51, (pt g1032 1))] K ?_
       refine In.step (k' := 3) rfl K ?_
       refine Step.load (t := 9) (x := (.tmp 51)) (g := g1032) (off := 1) (i := 3) (v := (.string ⟨List.toArray x1023.2.1⟩)) (d := (some 52)) (k := 2) K rfl K hs1038 rfl K ?_
       refine In.run' 1 (k' := 4) rfl [(53, (pt g1032 3))] K ?_
       refine In.step (k' := 5) rfl K ?_
       refine Step.load (t := 33) (x := (.tmp 53)) (g := g1032) (off := 3) (i := 3) (v := (.int .u32 x1023.2.2.2)) (d := (some 54)) (k := 4) K rfl K hs1038 rfl K ?_
       obtain ⟨z1039, hz1040, H⟩ := bind_elim H
       refine In.step (k' := 6) rfl K ?_
       refine Step.callF (f := 16) (fo := (.func 16)) (xs := #[(.tmp 50), (.tmp 52), (.tmp 54)]) (tys := #[29, 9, 33]) (first := #[]) (captured := #[]) (d := (some 55)) (k := 5) K rfl K K Tryd.call16 (L_gate_Gate_Admit_walk g50 A6 c7 F51 d9 v710 x1023.2.1 x1023.2.2.2 w1036 (SP.sub hs1038 [1] rfl rfl) (fun w hm => Dp.mono _ (SP.below_of hs1038 (l := [1]) rfl hm) hr8) z1039 hz1040) ?_
       rintro e w1041 ⟨rfl, hs1042⟩
       refine ⟨_, rfl, ?_⟩
       have hs1044 : SP [] w0 w1041 [boxE g16 24 #[(.int .i64 pWait1), (.int .i64 pGrace2), (.int .i64 pIdle3), (.int .i64 pLease4), (.slice A6 (List.length (List.map stT d9)) c7)], gateE g64 F65 d9 v711, boxE g1032 35 #[(.int .i64 x1023.1), (.string ⟨List.toArray x1023.2.1⟩), (.int .i64 x1023.2.2.1), (.int .u32 x1023.2.2.2)], gateE g50 F51 d9 v710] := SP.callS hs1038 [1] [0, 2, 3] rfl rfl hs1042 rfl
       clear hs1042
       refine In.fin K ?_
       refine At.sq K ?_
       refine At.region K K ?_
       refine In.run' 2 (k' := 2) rfl [(56, (pt g50 0)), (57, (pt g1032 1))] K ?_
       refine In.step (k' := 3) rfl K ?_
       refine Step.load (t := 9) (x := (.tmp 57)) (g := g1032) (off := 1) (i := 2) (v := (.string ⟨List.toArray x1023.2.1⟩)) (d := (some 58)) (k := 2) K rfl K hs1044 rfl K ?_
       refine In.run' 1 (k' := 4) rfl [(59, (pt g1032 2))] K ?_
       refine In.step (k' := 5) rfl K ?_
       refine Step.load (t := 3) (x := (.tmp 59)) (g := g1032) (off := 2) (i := 2) (v := (.int .i64 x1023.2.2.1)) (d := (some 60)) (k := 4) K rfl K hs1044 rfl K ?_
       obtain ⟨z1045, hz1046, H⟩ := bind_elim H
       refine In.step (k' := 6) rfl K ?_
       refine Step.callF (f := 20) (fo := (.func 20)) (xs := #[(.tmp 56), (.tmp 58), (.tmp 60)]) (tys := #[29, 9, 3]) (first := #[]) (captured := #[]) (d := (some 61)) (k := 5) K rfl K K Tryd.call20 (L_gate_Gate_Used_walk g50 A6 c7 F51 d9 v710 x1023.2.1 x1023.2.2.1 w1041 (SP.sub hs1044 [3] rfl rfl) (fun w hm => Dp.mono _ (SP.below_of hs1044 (l := [3]) rfl hm) hr8) z1045 hz1046) ?_
       rintro e w1047 ⟨rfl, hs1048⟩
       refine ⟨_, rfl, ?_⟩
       have hs1050 : SP [] w0 w1047 [boxE g16 24 #[(.int .i64 pWait1), (.int .i64 pGrace2), (.int .i64 pIdle3), (.int .i64 pLease4), (.slice A6 (List.length (List.map stT d9)) c7)], gateE g64 F65 d9 v711, boxE g1032 35 #[(.int .i64 x1023.1), (.string ⟨List.toArray x1023.2.1⟩), (.int .i64 x1023.2.2.1), (.int .u32 x1023.2.2.2)], gateE g50 F51 d9 v710] := SP.callS hs1044 [3] [0, 1, 2] rfl rfl hs1048 rfl
       clear hs1048
       refine In.fin K ?_
       refine At.sq K ?_
       refine At.region K K ?_
       refine In.run' 1 (k' := 1) rfl [(62, (pt g1032 0))] K ?_
       refine In.step (k' := 2) rfl K ?_
       refine Step.load (t := 3) (x := (.tmp 62)) (g := g1032) (off := 0) (i := 2) (v := (.int .i64 x1023.1)) (d := (some 63)) (k := 1) K rfl K hs1050 rfl K ?_
       refine In.run' 1 (k' := 3) rfl [(64, (.bool (x1023.1 == 2)))] K ?_
       refine In.fin K ?_
       refine At.join (fun ρ w => ∃ (v1166 : (List (List Int))) (v1167 : (List (List Int))), Known ρ [(1, (.slice A11 (List.length p10) c12)), (2, (.string ⟨List.toArray p14⟩)), (3, (.int .u32 p15)), (4, (pt g16 0)), (9, (.bool z20)), (10, (pt g50 0)), (11, (pt g64 0)), (12, (.int .i64 v712))] ∧ SP [] w0 w [boxE g16 24 #[(.int .i64 pWait1), (.int .i64 pGrace2), (.int .i64 pIdle3), (.int .i64 pLease4), (.slice A6 (List.length (List.map stT d9)) c7)], gateE g50 F51 d9 v1166, gateE g64 F65 d9 v1167] ∧ L_subwaylaw11_GateLook_k12 (L_subwaylaw11_GateLook_l8 pWait1 pGrace2 pIdle3 pLease4 (List.map stT d9) p10 p14 p15 z20 f11) v712 v1166 v1167 = some r) ?_ ?_
       ·refine At.cd K (o := (.tmp 64)) K (b := (x1023.1 == 2)) K (fun hb1170 => ?_) (fun hb1170 => ?_)
        ·have H := ct H hb1170
         refine At.sq K ?_
         obtain ⟨z1171, hz1172, H⟩ := bind_elim H
         obtain ⟨z1177, hz1178, H⟩ := bind_elim H
         refine At.stages K K K K K [GEq (pt g50 0), GEq (pt g1032 1), GEq (.string ⟨List.toArray x1023.2.1⟩), GEq (pt g1032 2), GEq (.int .i64 x1023.2.2.1), GEq (.bool z1171.1), GEq (pt g64 0), GEq (pt g1032 1), GEq (.string ⟨List.toArray x1023.2.1⟩), GEq (pt g1032 2), GEq (.int .i64 x1023.2.2.1), GEq (.bool z1177.1), GEq (.bool (!(z1171.1 == z1177.1)))] [5, 11] [([], fun vs w => VL vs [] ∧ SP [] w0 w [boxE g16 24 #[(.int .i64 pWait1), (.int .i64 pGrace2), (.int .i64 pIdle3), (.int .i64 pLease4), (.slice A6 (List.length (List.map stT d9)) c7)], gateE g64 F65 d9 v711, boxE g1032 35 #[(.int .i64 x1023.1), (.string ⟨List.toArray x1023.2.1⟩), (.int .i64 x1023.2.2.1), (.int .u32 x1023.2.2.2)], gateE g50 F51 d9 v710]), ([5], fun vs w => VL vs [(.bool z1171.1)] ∧ SP [] w0 w [boxE g16 24 #[(.int .i64 pWait1), (.int .i64 pGrace2), (.int .i64 pIdle3), (.int .i64 pLease4), (.slice A6 (List.length (List.map stT d9)) c7)], gateE g64 F65 d9 v711, boxE g1032 35 #[(.int .i64 x1023.1), (.string ⟨List.toArray x1023.2.1⟩), (.int .i64 x1023.2.2.1), (.int .u32 x1023.2.2.2)], gateE g50 F51 d9 z1171.2]), ([5, 11], fun vs w => VL vs [(.bool z1171.1), (.bool z1177.1)] ∧ SP [] w0 w [boxE g16 24 #[(.int .i64 pWait1), (.int .i64 pGrace2), (.int .i64 pIdle3), (.int .i64 pLease4), (.slice A6 (List.length (List.map stT d9)) c7)], boxE g1032 35 #[(.int .i64 x1023.1), (.string ⟨List.toArray x1023.2.1⟩), (.int .i64 x1023.2.2.1), (.int .u32 x1023.2.2.2)], gateE g50 F51 d9 z1171.2, gateE g64 F65 d9 z1177.2])] (N := 13) K ⟨K, Nat.zero_lt_succ _⟩ (show VL [] [] ∧ SP [] w0 w1047.drew [boxE g16 24 #[(.int .i64 pWait1), (.int .i64 pGrace2), (.int .i64 pIdle3), (.int .i64 pLease4), (.slice A6 (List.length (List.map stT d9)) c7)], gateE g64 F65 d9 v711, boxE g1032 35 #[(.int .i64 x1023.1), (.string ⟨List.toArray x1023.2.1⟩), (.int .i64 x1023.2.2.1), (.int .u32 x1023.2.2.2)], gateE g50 F51 d9 v710] from ⟨trivial, SP.drew hs1050⟩) ⟨⟨⟨⟨⟨⟨⟨⟨⟨⟨⟨⟨⟨trivial, ?_⟩, ?_⟩, ?_⟩, ?_⟩, ?_⟩, ?_⟩, ?_⟩, ?_⟩, ?_⟩, ?_⟩, ?_⟩, ?_⟩, ?_⟩ (last := 2) K ?_
         ·exact Owe.run K [(10, (pt g50 0))] ⟨gS K K, trivial⟩ (pt g50 0) (fun _ _ => K) rfl
         ·exact Owe.run K [(13, (pt g1032 0))] ⟨gS K K, trivial⟩ (pt g1032 1) (fun _ _ => K) rfl
         ·refine Owe.light K [0] K (all_cons ?_ all_nil)
          ·rintro ρ' w' hs hah ⟨hvl1196, hs1195⟩
           have hkn : Known ρ' [(66, (pt g1032 1))] := ⟨hah 1 66 K, trivial⟩
           refine Step.known _ hkn ?_
           refine Step.load (t := 9) (x := (.tmp 66)) (g := g1032) (off := 1) (i := 2) (v := (.string ⟨List.toArray x1023.2.1⟩)) (d := (some 67)) (k := 2) K rfl K hs1195 rfl K ?_
           exact ⟨rfl, _, updO_known hkn, rfl⟩
         ·exact Owe.run K [(13, (pt g1032 0))] ⟨gS K K, trivial⟩ (pt g1032 2) (fun _ _ => K) rfl
         ·refine Owe.light K [0] K (all_cons ?_ all_nil)
          ·rintro ρ' w' hs hah ⟨hvl1198, hs1197⟩
           have hkn : Known ρ' [(68, (pt g1032 2))] := ⟨hah 3 68 K, trivial⟩
           refine Step.known _ hkn ?_
           refine Step.load (t := 3) (x := (.tmp 68)) (g := g1032) (off := 2) (i := 2) (v := (.int .i64 x1023.2.2.1)) (d := (some 69)) (k := 4) K rfl K hs1197 rfl K ?_
           exact ⟨rfl, _, updO_known hkn, rfl⟩
         ·refine Owe.heavy K [(0, 1)] K (all_cons ⟨K, K, ?_⟩ all_nil)
          ·rintro ρ' w' hs hah ⟨hvl1200, hs1199⟩
           have hkn : Known ρ' [(65, (pt g50 0)), (67, (.string ⟨List.toArray x1023.2.1⟩)), (69, (.int .i64 x1023.2.2.1))] := ⟨hah 0 65 K, hah 2 67 K, hah 4 69 K, trivial⟩
           refine Step.known _ hkn ?_
           refine Step.callF (f := 14) (fo := (.func 14)) (xs := #[(.tmp 65), (.tmp 67), (.tmp 69)]) (tys := #[29, 9, 3]) (first := #[]) (captured := #[]) (d := (some 70)) (k := 5) K rfl K K Tryd.call14 (L_gate_Gate_Give_walk g50 A6 c7 F51 d9 v710 x1023.2.1 x1023.2.2.1 w' (SP.sub hs1199 [3] rfl rfl) (fun w hm => Dp.mono _ (SP.below_of hs1199 (l := [3]) rfl hm) hr8) z1171 hz1172) ?_
           rintro e w1201 ⟨rfl, hs1202⟩
           refine ⟨_, rfl, ?_⟩
           have hs1204 : SP [] w0 w1201 [boxE g16 24 #[(.int .i64 pWait1), (.int .i64 pGrace2), (.int .i64 pIdle3), (.int .i64 pLease4), (.slice A6 (List.length (List.map stT d9)) c7)], gateE g64 F65 d9 v711, boxE g1032 35 #[(.int .i64 x1023.1), (.string ⟨List.toArray x1023.2.1⟩), (.int .i64 x1023.2.2.1), (.int .u32 x1023.2.2.2)], gateE g50 F51 d9 z1171.2] := SP.callS hs1199 [3] [0, 1, 2] rfl rfl hs1202 rfl
           clear hs1202
           refine ⟨_, updO_known hkn, rfl, ?_⟩
           exact (And.intro (And.intro rfl (trivial)) (hs1204))
         ·exact Owe.run K [(11, (pt g64 0))] ⟨gS K K, trivial⟩ (pt g64 0) (fun _ _ => K) rfl
         ·exact Owe.run K [(13, (pt g1032 0))] ⟨gS K K, trivial⟩ (pt g1032 1) (fun _ _ => K) rfl
         ·refine Owe.light K [0, 1] K (all_cons ?_ (all_cons ?_ all_nil))
          ·rintro ρ' w' hs hah ⟨hvl1206, hs1205⟩
           have hkn : Known ρ' [(72, (pt g1032 1))] := ⟨hah 7 72 K, trivial⟩
           refine Step.known _ hkn ?_
           refine Step.load (t := 9) (x := (.tmp 72)) (g := g1032) (off := 1) (i := 2) (v := (.string ⟨List.toArray x1023.2.1⟩)) (d := (some 73)) (k := 8) K rfl K hs1205 rfl K ?_
           exact ⟨rfl, _, updO_known hkn, rfl⟩
          ·rintro ρ' w' hs hah ⟨⟨q1208, -⟩, hs1207⟩
           have hkn : Known ρ' [(72, (pt g1032 1))] := ⟨hah 7 72 K, trivial⟩
           refine Step.known _ hkn ?_
           refine Step.load (t := 9) (x := (.tmp 72)) (g := g1032) (off := 1) (i := 2) (v := (.string ⟨List.toArray x1023.2.1⟩)) (d := (some 73)) (k := 8) K rfl K hs1207 rfl K ?_
           exact ⟨rfl, _, updO_known hkn, rfl⟩
         ·exact Owe.run K [(13, (pt g1032 0))] ⟨gS K K, trivial⟩ (pt g1032 2) (fun _ _ => K) rfl
         ·refine Owe.light K [0, 1] K (all_cons ?_ (all_cons ?_ all_nil))
          ·rintro ρ' w' hs hah ⟨hvl1211, hs1210⟩
           have hkn : Known ρ' [(74, (pt g1032 2))] := ⟨hah 9 74 K, trivial⟩
           refine Step.known _ hkn ?_
           refine Step.load (t := 3) (x := (.tmp 74)) (g := g1032) (off := 2) (i := 2) (v := (.int .i64 x1023.2.2.1)) (d := (some 75)) (k := 10) K rfl K hs1210 rfl K ?_
           exact ⟨rfl, _, updO_known hkn, rfl⟩
          ·rintro ρ' w' hs hah ⟨⟨q1213, -⟩, hs1212⟩
           have hkn : Known ρ' [(74, (pt g1032 2))] := ⟨hah 9 74 K, trivial⟩
           refine Step.known _ hkn ?_
           refine Step.load (t := 3) (x := (.tmp 74)) (g := g1032) (off := 2) (i := 2) (v := (.int .i64 x1023.2.2.1)) (d := (some 75)) (k := 10) K rfl K hs1212 rfl K ?_
           exact ⟨rfl, _, updO_known hkn, rfl⟩
         ·refine Owe.heavy K [(1, 2)] K (all_cons ⟨K, K, ?_⟩ all_nil)
          ·rintro ρ' w' hs hah ⟨⟨q1216, -⟩, hs1215⟩
           have hkn : Known ρ' [(71, (pt g64 0)), (73, (.string ⟨List.toArray x1023.2.1⟩)), (75, (.int .i64 x1023.2.2.1))] := ⟨hah 6 71 K, hah 8 73 K, hah 10 75 K, trivial⟩
           refine Step.known _ hkn ?_
           refine Step.callF (f := 14) (fo := (.func 14)) (xs := #[(.tmp 71), (.tmp 73), (.tmp 75)]) (tys := #[29, 9, 3]) (first := #[]) (captured := #[]) (d := (some 76)) (k := 11) K rfl K K Tryd.call14 (L_gate_Gate_Give_walk g64 A6 c7 F65 d9 v711 x1023.2.1 x1023.2.2.1 w' (SP.sub hs1215 [1] rfl rfl) (fun w hm => Dp.mono _ (SP.below_of hs1215 (l := [1]) rfl hm) hr8) z1177 hz1178) ?_
           rintro e w1218 ⟨rfl, hs1219⟩
           refine ⟨_, rfl, ?_⟩
           have hs1221 : SP [] w0 w1218 [boxE g16 24 #[(.int .i64 pWait1), (.int .i64 pGrace2), (.int .i64 pIdle3), (.int .i64 pLease4), (.slice A6 (List.length (List.map stT d9)) c7)], boxE g1032 35 #[(.int .i64 x1023.1), (.string ⟨List.toArray x1023.2.1⟩), (.int .i64 x1023.2.2.1), (.int .u32 x1023.2.2.2)], gateE g50 F51 d9 z1171.2, gateE g64 F65 d9 z1177.2] := SP.callS hs1215 [1] [0, 2, 3] rfl rfl hs1219 rfl
           clear hs1219
           refine ⟨_, updO_known hkn, rfl, ?_⟩
           exact (And.intro (And.intro q1216 (And.intro rfl (trivial))) (hs1221))
         ·exact Owe.run K [(70, (.bool z1171.1)), (76, (.bool z1177.1))] ⟨gA 5 K K, gA 11 K K, trivial⟩ (.bool (!(z1171.1 == z1177.1))) (fun _ _ => K) rfl
         ·rintro ρ' w' hs hf ⟨⟨q1223, q1224, -⟩, hs1222⟩
          refine postKnown [(1, (.slice A11 (List.length p10) c12)), (2, (.string ⟨List.toArray p14⟩)), (3, (.int .u32 p15)), (4, (pt g16 0)), (9, (.bool z20)), (10, (pt g50 0)), (11, (pt g64 0)), (12, (.int .i64 v712)), (77, (.bool (!(z1171.1 == z1177.1))))] ⟨(hs 1 K).trans K, (hs 2 K).trans K, (hs 3 K).trans K, (hs 4 K).trans K, (hs 9 K).trans K, (hs 10 K).trans K, (hs 11 K).trans K, (hs 12 K).trans K, hf 12 77 K, trivial⟩ ?_
          obtain ⟨w1226, hww1226⟩ : ∃ x, w' = x := ⟨_, rfl⟩
          rw [hww1226] at hs1222 ⊢
          refine At.cd K (o := (.tmp 77)) K (b := (!(z1171.1 == z1177.1))) K (fun hb1227 => ?_) (fun hb1227 => ?_)
          ·have H := ct H hb1227
           refine At.sq K ?_
           refine At.region K K ?_
           refine In.run' 1 (k' := 1) rfl [(8, (.bool false))] K ?_
           refine In.fin K ?_
           refine At.ret K ?_
           refine ⟨(.bool false), K, ?_⟩
           obtain rfl := some_elim H
           exact ⟨rfl, SP.sel hs1222 [] rfl rfl⟩
          ·have H := cf H hb1227
           refine At.skip K ?_
           exact ⟨z1171.2, z1177.2, ⟨K, K, K, K, K, K, K, K, trivial⟩, SP.sel hs1222 [0, 2, 3] rfl rfl, H⟩
        ·have H := cf H hb1170
         refine At.sq K ?_
         obtain ⟨z1228, hz1229, H⟩ := bind_elim H
         obtain ⟨z1234, hz1235, H⟩ := bind_elim H
         refine At.stages K K K K K [GEq (pt g50 0), GEq (pt g1032 1), GEq (.string ⟨List.toArray x1023.2.1⟩), GEq (pt g1032 2), GEq (.int .i64 x1023.2.2.1), GEq (.int .i64 z1228.1), GEq (pt g64 0), GEq (pt g1032 1), GEq (.string ⟨List.toArray x1023.2.1⟩), GEq (pt g1032 2), GEq (.int .i64 x1023.2.2.1), GEq (.int .i64 z1234.1), GEq (.bool (z1228.1 != z1234.1))] [5, 11] [([], fun vs w => VL vs [] ∧ SP [] w0 w [boxE g16 24 #[(.int .i64 pWait1), (.int .i64 pGrace2), (.int .i64 pIdle3), (.int .i64 pLease4), (.slice A6 (List.length (List.map stT d9)) c7)], gateE g64 F65 d9 v711, boxE g1032 35 #[(.int .i64 x1023.1), (.string ⟨List.toArray x1023.2.1⟩), (.int .i64 x1023.2.2.1), (.int .u32 x1023.2.2.2)], gateE g50 F51 d9 v710]), ([5], fun vs w => VL vs [(.int .i64 z1228.1)] ∧ SP [] w0 w [boxE g16 24 #[(.int .i64 pWait1), (.int .i64 pGrace2), (.int .i64 pIdle3), (.int .i64 pLease4), (.slice A6 (List.length (List.map stT d9)) c7)], gateE g64 F65 d9 v711, boxE g1032 35 #[(.int .i64 x1023.1), (.string ⟨List.toArray x1023.2.1⟩), (.int .i64 x1023.2.2.1), (.int .u32 x1023.2.2.2)], gateE g50 F51 d9 z1228.2]), ([5, 11], fun vs w => VL vs [(.int .i64 z1228.1), (.int .i64 z1234.1)] ∧ SP [] w0 w [boxE g16 24 #[(.int .i64 pWait1), (.int .i64 pGrace2), (.int .i64 pIdle3), (.int .i64 pLease4), (.slice A6 (List.length (List.map stT d9)) c7)], boxE g1032 35 #[(.int .i64 x1023.1), (.string ⟨List.toArray x1023.2.1⟩), (.int .i64 x1023.2.2.1), (.int .u32 x1023.2.2.2)], gateE g50 F51 d9 z1228.2, gateE g64 F65 d9 z1234.2])] (N := 13) K ⟨K, Nat.zero_lt_succ _⟩ (show VL [] [] ∧ SP [] w0 w1047.drew [boxE g16 24 #[(.int .i64 pWait1), (.int .i64 pGrace2), (.int .i64 pIdle3), (.int .i64 pLease4), (.slice A6 (List.length (List.map stT d9)) c7)], gateE g64 F65 d9 v711, boxE g1032 35 #[(.int .i64 x1023.1), (.string ⟨List.toArray x1023.2.1⟩), (.int .i64 x1023.2.2.1), (.int .u32 x1023.2.2.2)], gateE g50 F51 d9 v710] from ⟨trivial, SP.drew hs1050⟩) ⟨⟨⟨⟨⟨⟨⟨⟨⟨⟨⟨⟨⟨trivial, ?_⟩, ?_⟩, ?_⟩, ?_⟩, ?_⟩, ?_⟩, ?_⟩, ?_⟩, ?_⟩, ?_⟩, ?_⟩, ?_⟩, ?_⟩ (last := 2) K ?_
         ·exact Owe.run K [(10, (pt g50 0))] ⟨gS K K, trivial⟩ (pt g50 0) (fun _ _ => K) rfl
         ·exact Owe.run K [(13, (pt g1032 0))] ⟨gS K K, trivial⟩ (pt g1032 1) (fun _ _ => K) rfl
         ·refine Owe.light K [0] K (all_cons ?_ all_nil)
          ·rintro ρ' w' hs hah ⟨hvl1253, hs1252⟩
           have hkn : Known ρ' [(79, (pt g1032 1))] := ⟨hah 1 79 K, trivial⟩
           refine Step.known _ hkn ?_
           refine Step.load (t := 9) (x := (.tmp 79)) (g := g1032) (off := 1) (i := 2) (v := (.string ⟨List.toArray x1023.2.1⟩)) (d := (some 80)) (k := 2) K rfl K hs1252 rfl K ?_
           exact ⟨rfl, _, updO_known hkn, rfl⟩
         ·exact Owe.run K [(13, (pt g1032 0))] ⟨gS K K, trivial⟩ (pt g1032 2) (fun _ _ => K) rfl
         ·refine Owe.light K [0] K (all_cons ?_ all_nil)
          ·rintro ρ' w' hs hah ⟨hvl1255, hs1254⟩
           have hkn : Known ρ' [(81, (pt g1032 2))] := ⟨hah 3 81 K, trivial⟩
           refine Step.known _ hkn ?_
           refine Step.load (t := 3) (x := (.tmp 81)) (g := g1032) (off := 2) (i := 2) (v := (.int .i64 x1023.2.2.1)) (d := (some 82)) (k := 4) K rfl K hs1254 rfl K ?_
           exact ⟨rfl, _, updO_known hkn, rfl⟩
         ·refine Owe.heavy K [(0, 1)] K (all_cons ⟨K, K, ?_⟩ all_nil)
          ·rintro ρ' w' hs hah ⟨hvl1257, hs1256⟩
           have hkn : Known ρ' [(78, (pt g50 0)), (80, (.string ⟨List.toArray x1023.2.1⟩)), (82, (.int .i64 x1023.2.2.1))] := ⟨hah 0 78 K, hah 2 80 K, hah 4 82 K, trivial⟩
           refine Step.known _ hkn ?_
           refine Step.callF (f := 18) (fo := (.func 18)) (xs := #[(.tmp 78), (.tmp 80), (.tmp 82)]) (tys := #[29, 9, 3]) (first := #[]) (captured := #[]) (d := (some 83)) (k := 5) K rfl K K Tryd.call18 (L_gate_Gate_Take_walk g50 A6 c7 F51 d9 v710 x1023.2.1 x1023.2.2.1 w' (SP.sub hs1256 [3] rfl rfl) (fun w hm => Dp.mono _ (SP.below_of hs1256 (l := [3]) rfl hm) hr8) z1228 hz1229) ?_
           rintro e w1258 ⟨rfl, hs1259⟩
           refine ⟨_, rfl, ?_⟩
           have hs1261 : SP [] w0 w1258 [boxE g16 24 #[(.int .i64 pWait1), (.int .i64 pGrace2), (.int .i64 pIdle3), (.int .i64 pLease4), (.slice A6 (List.length (List.map stT d9)) c7)], gateE g64 F65 d9 v711, boxE g1032 35 #[(.int .i64 x1023.1), (.string ⟨List.toArray x1023.2.1⟩), (.int .i64 x1023.2.2.1), (.int .u32 x1023.2.2.2)], gateE g50 F51 d9 z1228.2] := SP.callS hs1256 [3] [0, 1, 2] rfl rfl hs1259 rfl
           clear hs1259
           refine ⟨_, updO_known hkn, rfl, ?_⟩
           exact (And.intro (And.intro rfl (trivial)) (hs1261))
         ·exact Owe.run K [(11, (pt g64 0))] ⟨gS K K, trivial⟩ (pt g64 0) (fun _ _ => K) rfl
         ·exact Owe.run K [(13, (pt g1032 0))] ⟨gS K K, trivial⟩ (pt g1032 1) (fun _ _ => K) rfl
         ·refine Owe.light K [0, 1] K (all_cons ?_ (all_cons ?_ all_nil))
          ·rintro ρ' w' hs hah ⟨hvl1263, hs1262⟩
           have hkn : Known ρ' [(85, (pt g1032 1))] := ⟨hah 7 85 K, trivial⟩
           refine Step.known _ hkn ?_
           refine Step.load (t := 9) (x := (.tmp 85)) (g := g1032) (off := 1) (i := 2) (v := (.string ⟨List.toArray x1023.2.1⟩)) (d := (some 86)) (k := 8) K rfl K hs1262 rfl K ?_
           exact ⟨rfl, _, updO_known hkn, rfl⟩
          ·rintro ρ' w' hs hah ⟨⟨q1265, -⟩, hs1264⟩
           have hkn : Known ρ' [(85, (pt g1032 1))] := ⟨hah 7 85 K, trivial⟩
           refine Step.known _ hkn ?_
           refine Step.load (t := 9) (x := (.tmp 85)) (g := g1032) (off := 1) (i := 2) (v := (.string ⟨List.toArray x1023.2.1⟩)) (d := (some 86)) (k := 8) K rfl K hs1264 rfl K ?_
           exact ⟨rfl, _, updO_known hkn, rfl⟩
         ·exact Owe.run K [(13, (pt g1032 0))] ⟨gS K K, trivial⟩ (pt g1032 2) (fun _ _ => K) rfl
         ·refine Owe.light K [0, 1] K (all_cons ?_ (all_cons ?_ all_nil))
          ·rintro ρ' w' hs hah ⟨hvl1268, hs1267⟩
           have hkn : Known ρ' [(87, (pt g1032 2))] := ⟨hah 9 87 K, trivial⟩
           refine Step.known _ hkn ?_
           refine Step.load (t := 3) (x := (.tmp 87)) (g := g1032) (off := 2) (i := 2) (v := (.int .i64 x1023.2.2.1)) (d := (some 88)) (k := 10) K rfl K hs1267 rfl K ?_
           exact ⟨rfl, _, updO_known hkn, rfl⟩
          ·rintro ρ' w' hs hah ⟨⟨q1270, -⟩, hs1269⟩
           have hkn : Known ρ' [(87, (pt g1032 2))] := ⟨hah 9 87 K, trivial⟩
           refine Step.known _ hkn ?_
           refine Step.load (t := 3) (x := (.tmp 87)) (g := g1032) (off := 2) (i := 2) (v := (.int .i64 x1023.2.2.1)) (d := (some 88)) (k := 10) K rfl K hs1269 rfl K ?_
           exact ⟨rfl, _, updO_known hkn, rfl⟩
         ·refine Owe.heavy K [(1, 2)] K (all_cons ⟨K, K, ?_⟩ all_nil)
          ·rintro ρ' w' hs hah ⟨⟨q1273, -⟩, hs1272⟩
           have hkn : Known ρ' [(84, (pt g64 0)), (86, (.string ⟨List.toArray x1023.2.1⟩)), (88, (.int .i64 x1023.2.2.1))] := ⟨hah 6 84 K, hah 8 86 K, hah 10 88 K, trivial⟩
           refine Step.known _ hkn ?_
           refine Step.callF (f := 18) (fo := (.func 18)) (xs := #[(.tmp 84), (.tmp 86), (.tmp 88)]) (tys := #[29, 9, 3]) (first := #[]) (captured := #[]) (d := (some 89)) (k := 11) K rfl K K Tryd.call18 (L_gate_Gate_Take_walk g64 A6 c7 F65 d9 v711 x1023.2.1 x1023.2.2.1 w' (SP.sub hs1272 [1] rfl rfl) (fun w hm => Dp.mono _ (SP.below_of hs1272 (l := [1]) rfl hm) hr8) z1234 hz1235) ?_
           rintro e w1275 ⟨rfl, hs1276⟩
           refine ⟨_, rfl, ?_⟩
           have hs1278 : SP [] w0 w1275 [boxE g16 24 #[(.int .i64 pWait1), (.int .i64 pGrace2), (.int .i64 pIdle3), (.int .i64 pLease4), (.slice A6 (List.length (List.map stT d9)) c7)], boxE g1032 35 #[(.int .i64 x1023.1), (.string ⟨List.toArray x1023.2.1⟩), (.int .i64 x1023.2.2.1), (.int .u32 x1023.2.2.2)], gateE g50 F51 d9 z1228.2, gateE g64 F65 d9 z1234.2] := SP.callS hs1272 [1] [0, 2, 3] rfl rfl hs1276 rfl
           clear hs1276
           refine ⟨_, updO_known hkn, rfl, ?_⟩
           exact (And.intro (And.intro q1273 (And.intro rfl (trivial))) (hs1278))
         ·exact Owe.run K [(83, (.int .i64 z1228.1)), (89, (.int .i64 z1234.1))] ⟨gA 5 K K, gA 11 K K, trivial⟩ (.bool (z1228.1 != z1234.1)) (fun _ _ => K) rfl
         ·rintro ρ' w' hs hf ⟨⟨q1280, q1281, -⟩, hs1279⟩
          refine postKnown [(1, (.slice A11 (List.length p10) c12)), (2, (.string ⟨List.toArray p14⟩)), (3, (.int .u32 p15)), (4, (pt g16 0)), (9, (.bool z20)), (10, (pt g50 0)), (11, (pt g64 0)), (12, (.int .i64 v712)), (90, (.bool (z1228.1 != z1234.1)))] ⟨(hs 1 K).trans K, (hs 2 K).trans K, (hs 3 K).trans K, (hs 4 K).trans K, (hs 9 K).trans K, (hs 10 K).trans K, (hs 11 K).trans K, (hs 12 K).trans K, hf 12 90 K, trivial⟩ ?_
          obtain ⟨w1283, hww1283⟩ : ∃ x, w' = x := ⟨_, rfl⟩
          rw [hww1283] at hs1279 ⊢
          refine At.cd K (o := (.tmp 90)) K (b := (z1228.1 != z1234.1)) K (fun hb1284 => ?_) (fun hb1284 => ?_)
          ·have H := ct H hb1284
           refine At.sq K ?_
           refine At.region K K ?_
           refine In.run' 1 (k' := 1) rfl [(8, (.bool false))] K ?_
           refine In.fin K ?_
           refine At.ret K ?_
           refine ⟨(.bool false), K, ?_⟩
           obtain rfl := some_elim H
           exact ⟨rfl, SP.sel hs1279 [] rfl rfl⟩
          ·have H := cf H hb1284
           refine At.skip K ?_
           exact ⟨z1228.2, z1234.2, ⟨K, K, K, K, K, K, K, K, trivial⟩, SP.sel hs1279 [0, 2, 3] rfl rfl, H⟩
       ·rintro ρ w1168 ⟨v1166, v1167, hk, hs1169, H⟩
        unfold L_subwaylaw11_GateLook_k12 at H
        first | refine At.known [(1, (.slice A11 (List.length p10) c12)), (2, (.string ⟨List.toArray p14⟩)), (3, (.int .u32 p15)), (4, (pt g16 0)), (9, (.bool z20)), (10, (pt g50 0)), (11, (pt g64 0)), (12, (.int .i64 v712))] hk ?_ | rw [← known_updL (l := [(1, (.slice A11 (List.length p10) c12)), (2, (.string ⟨List.toArray p14⟩)), (3, (.int .u32 p15)), (4, (pt g16 0)), (9, (.bool z20)), (10, (pt g50 0)), (11, (pt g64 0)), (12, (.int .i64 v712))]) hk]
        refine At.region K K ?_
        refine In.run' 3 (k' := 3) rfl [(44, (.int .i64 v712)), (45, (.int .i64 (IntKind.wrap .i64 (v712 + 1)))), (12, (.int .i64 (IntKind.wrap .i64 (v712 + 1))))] K ?_
        refine In.fin K ?_
        exact ⟨v1166, v1167, (IntKind.wrap .i64 (v712 + 1)), ⟨K, K, K, K, K, K, K, K, trivial⟩, SP.sel hs1169 [0, 1, 2] rfl rfl, H⟩
      ·have H := cf H hb1022
       refine At.exit K (id := 0) K ?_
       refine At.sq K ?_
       refine At.region K K ?_
       refine In.step (k' := 1) rfl K ?_
       refine Step.load (t := 24) (x := (.tmp 4)) (g := g16) (off := 0) (i := 0) (v := (.agg #[(.int .i64 pWait1), (.int .i64 pGrace2), (.int .i64 pIdle3), (.int .i64 pLease4), (.slice A6 (List.length (List.map stT d9)) c7)])) (d := (some 91)) (k := 0) K rfl K hs709 rfl K ?_
       obtain ⟨z1285, hz1286, H⟩ := bind_elim H
       rcases z1285 with _ | o1287
       ·have H := optN H
        refine In.step (k' := 2) rfl K ?_
        refine Step.callF (f := 12) (fo := (.func 12)) (xs := #[(.tmp 91)]) (tys := #[24]) (first := #[]) (captured := #[]) (d := (some 92)) (k := 1) K rfl K K Tryd.call12 (L_gate_New_walk A6 c7 pWait1 pGrace2 pIdle3 pLease4 d9 w708 (laid_below hL (SP.keeps hs709)) (Dp.sp hr8 hs709) none hz1286) ?_
        rintro e w1288 ⟨rfl, hs1289⟩
        refine ⟨_, rfl, ?_⟩
        have hs1291 : SP [] w0 w1288 [boxE g16 24 #[(.int .i64 pWait1), (.int .i64 pGrace2), (.int .i64 pIdle3), (.int .i64 pLease4), (.slice A6 (List.length (List.map stT d9)) c7)], gateE g50 F51 d9 v710, gateE g64 F65 d9 v711] := SP.call hs709 hs1289
        clear hs1289
        refine In.run' 1 (k' := 3) rfl [(14, (.pointer none))] K ?_
        refine In.fin K ?_
        refine At.sq K ?_
        refine At.join (fun ρ w => Known ρ [(8, (.bool false))] ∧ SP [] w0 w [] ∧ L_subwaylaw11_GateLook_k13 (L_subwaylaw11_GateLook_l8 pWait1 pGrace2 pIdle3 pLease4 (List.map stT d9) p10 p14 p15 z20 f11) = some r) ?_ ?_
        ·refine At.region K K ?_
         refine In.run' 2 (k' := 2) rfl [(93, (.bool z20)), (94, (.bool z20))] K ?_
         refine In.guard (t := 94) (b := z20) K (fun hb1295 => ?_) (fun hb1295 => ?_)
         ·have H := ct H hb1295
          refine In.run' 15 (k' := 17) rfl [(95, (.pointer none)), (96, (.bool false)), (97, (.bool false)), (98, (.bool false)), (99, undef), (100, undef), (101, undef), (102, undef), (103, undef), (104, undef), (105, undef), (106, undef), (107, undef), (108, (.bool false)), (8, (.bool false))] K ?_
          refine In.fin K ?_
          exact ⟨⟨K, trivial⟩, SP.sel hs1291 [] rfl rfl, H⟩
         ·have H := cf H hb1295
          refine In.run' 15 (k' := 17) rfl [(95, undef), (96, undef), (97, (.bool false)), (98, (.bool false)), (99, undef), (100, undef), (101, undef), (102, undef), (103, undef), (104, undef), (105, undef), (106, undef), (107, undef), (108, (.bool false)), (8, (.bool false))] K ?_
          refine In.fin K ?_
          exact ⟨⟨K, trivial⟩, SP.sel hs1291 [] rfl rfl, H⟩
        ·rintro ρ w1293 ⟨hk, hs1294, H⟩
         unfold L_subwaylaw11_GateLook_k13 at H
         first | refine At.known [(8, (.bool false))] hk ?_ | rw [← known_updL (l := [(8, (.bool false))]) hk]
         refine At.ret K ?_
         refine ⟨(.bool false), K, ?_⟩
         obtain rfl := some_elim H
         exact ⟨rfl, SP.sel hs1294 [] rfl rfl⟩
       ·have H := optS H
        refine In.step (k' := 2) rfl K ?_
        refine Step.callF (f := 12) (fo := (.func 12)) (xs := #[(.tmp 91)]) (tys := #[24]) (first := #[]) (captured := #[]) (d := (some 92)) (k := 1) K rfl K K Tryd.call12 (L_gate_New_walk A6 c7 pWait1 pGrace2 pIdle3 pLease4 d9 w708 (laid_below hL (SP.keeps hs709)) (Dp.sp hr8 hs709) (some o1287) hz1286) ?_
        rintro e w1296 ⟨g1298, F1299, rfl, hs1297⟩
        refine ⟨_, rfl, ?_⟩
        have hs1301 : SP [] w0 w1296 [boxE g16 24 #[(.int .i64 pWait1), (.int .i64 pGrace2), (.int .i64 pIdle3), (.int .i64 pLease4), (.slice A6 (List.length (List.map stT d9)) c7)], gateE g50 F51 d9 v710, gateE g64 F65 d9 v711, gateE g1298 F1299 d9 o1287] := SP.call hs709 hs1297
        clear hs1297
        refine In.run' 1 (k' := 3) rfl [(14, (pt g1298 0))] K ?_
        refine In.fin K ?_
        refine At.sq K ?_
        refine At.join (fun ρ w => ∃ (v1315 : Bool), Known ρ [(8, (.bool v1315))] ∧ SP [] w0 w [] ∧ L_subwaylaw11_GateLook_k14 (L_subwaylaw11_GateLook_l8 pWait1 pGrace2 pIdle3 pLease4 (List.map stT d9) p10 p14 p15 z20 f11) v1315 = some r) ?_ ?_
        ·refine At.region K K ?_
         refine In.run' 2 (k' := 2) rfl [(93, (.bool z20)), (94, (.bool z20))] K ?_
         refine In.guard (t := 94) (b := z20) K (fun hb1318 => ?_) (fun hb1318 => ?_)
         ·have H := ct H hb1318
          refine In.run' 7 (k' := 9) rfl [(95, (pt g1298 0)), (96, (.bool true)), (97, (.bool true)), (98, (.bool true)), (99, (pt g50 0)), (100, (.string ⟨List.toArray p14⟩)), (101, (.int .u32 p15))] K ?_
          obtain ⟨z1319, hz1320, H⟩ := bind_elim H
          refine In.step (k' := 10) rfl K ?_
          refine Step.callF (f := 16) (fo := (.func 16)) (xs := #[(.tmp 99), (.tmp 100), (.tmp 101)]) (tys := #[29, 9, 33]) (first := #[]) (captured := #[]) (d := (some 102)) (k := 9) K rfl K K Tryd.call16 (L_gate_Gate_Admit_walk g50 A6 c7 F51 d9 v710 p14 p15 w1296 (SP.sub hs1301 [1] rfl rfl) (fun w hm => Dp.mono _ (SP.below_of hs1301 (l := [1]) rfl hm) hr8) z1319 hz1320) ?_
          rintro e w1321 ⟨rfl, hs1322⟩
          refine ⟨_, rfl, ?_⟩
          have hs1324 : SP [] w0 w1321 [boxE g16 24 #[(.int .i64 pWait1), (.int .i64 pGrace2), (.int .i64 pIdle3), (.int .i64 pLease4), (.slice A6 (List.length (List.map stT d9)) c7)], gateE g64 F65 d9 v711, gateE g1298 F1299 d9 o1287, gateE g50 F51 d9 v710] := SP.callS hs1301 [1] [0, 2, 3] rfl rfl hs1322 rfl
          clear hs1322
          refine In.run' 3 (k' := 13) rfl [(103, (pt g1298 0)), (104, (.string ⟨List.toArray p14⟩)), (105, (.int .u32 p15))] K ?_
          obtain ⟨z1325, hz1326, H⟩ := bind_elim H
          refine In.step (k' := 14) rfl K ?_
          refine Step.callF (f := 16) (fo := (.func 16)) (xs := #[(.tmp 103), (.tmp 104), (.tmp 105)]) (tys := #[29, 9, 33]) (first := #[]) (captured := #[]) (d := (some 106)) (k := 13) K rfl K K Tryd.call16 (L_gate_Gate_Admit_walk g1298 A6 c7 F1299 d9 o1287 p14 p15 w1321 (SP.sub hs1324 [2] rfl rfl) (fun w hm => Dp.mono _ (SP.below_of hs1324 (l := [2]) rfl hm) hr8) z1325 hz1326) ?_
          rintro e w1327 ⟨rfl, hs1328⟩
          refine ⟨_, rfl, ?_⟩
          have hs1330 : SP [] w0 w1327 [boxE g16 24 #[(.int .i64 pWait1), (.int .i64 pGrace2), (.int .i64 pIdle3), (.int .i64 pLease4), (.slice A6 (List.length (List.map stT d9)) c7)], gateE g64 F65 d9 v711, gateE g50 F51 d9 v710, gateE g1298 F1299 d9 o1287] := SP.callS hs1324 [2] [0, 1, 3] rfl rfl hs1328 rfl
          clear hs1328
          refine In.run' 3 (k' := 17) rfl [(107, (.bool (z1319 == z1325))), (108, (.bool (z1319 == z1325))), (8, (.bool (z1319 == z1325)))] K ?_
          refine In.fin K ?_
          exact ⟨(z1319 == z1325), ⟨K, trivial⟩, SP.sel hs1330 [] rfl rfl, H⟩
         ·have H := cf H hb1318
          refine In.run' 15 (k' := 17) rfl [(95, undef), (96, undef), (97, (.bool false)), (98, (.bool false)), (99, undef), (100, undef), (101, undef), (102, undef), (103, undef), (104, undef), (105, undef), (106, undef), (107, undef), (108, (.bool false)), (8, (.bool false))] K ?_
          refine In.fin K ?_
          exact ⟨false, ⟨K, trivial⟩, SP.sel hs1301 [] rfl rfl, H⟩
        ·rintro ρ w1316 ⟨v1315, hk, hs1317, H⟩
         unfold L_subwaylaw11_GateLook_k14 at H
         first | refine At.known [(8, (.bool v1315))] hk ?_ | rw [← known_updL (l := [(8, (.bool v1315))]) hk]
         refine At.ret K ?_
         refine ⟨(.bool v1315), K, ?_⟩
         obtain rfl := some_elim H
         exact ⟨rfl, SP.sel hs1317 [] rfl rfl⟩
     ·exact ⟨o28, o56, 0, ⟨K, K, K, K, K, K, K, K, trivial⟩, SP.sel hs84 [0, 1, 2] rfl rfl, H⟩
end Go.Proofs.YtfffjaijflbeaaaDoor
