/- LIFTED BY PROGRAM (tools/lift.py): what functions compute, and that they do. -/
import Derived.Test.YtfffjaijflbeaaaDoorLGH
namespace Go.Proofs.YtfffjaijflbeaaaDoor
set_option linter.unusedSimpArgs false
set_option linter.unusedVariables false
open Go.RowKit

/-! L_subwaylaw11_GateCounts -/
def L_subwaylaw11_GateCounts_k65 (rec55 : (List (List Int)) → Int → Int → Option (Bool)) (v490 : Int) (v786 : (List (List Int))) (v787 : Int) (v798 : Bool) : Option (Bool) :=
  (cond v798 (some (false)) (rec55 v786 v787 (IntKind.wrap .i64 (v490 + 1))))
def L_subwaylaw11_GateCounts_k64 (rec55 : (List (List Int)) → Int → Int → Option (Bool)) (pTenants5 : (List TenantL)) (p14 : (List UInt8)) (p15 : Int) (v82 : Int) (v490 : Int) (v786 : (List (List Int))) (v787 : Int) : Option (Bool) :=
  ((L_gate_Gate_Used pTenants5 v786 p14 p15).bind fun z802 => (cond (z802 != v787) (L_subwaylaw11_GateCounts_k65 rec55 v490 v786 v787 true) (cond (decide (v787 < 0)) (L_subwaylaw11_GateCounts_k65 rec55 v490 v786 v787 true) (L_subwaylaw11_GateCounts_k65 rec55 v490 v786 v787 (decide (v787 > v82))))))
def L_subwaylaw11_GateCounts_k67 (rec55 : (List (List Int)) → Int → Int → Option (Bool)) (pTenants5 : (List TenantL)) (p14 : (List UInt8)) (p15 : Int) (v82 : Int) (v490 : Int) (v818 : (List (List Int))) (v823 : Int) : Option (Bool) :=
  (L_subwaylaw11_GateCounts_k64 rec55 pTenants5 p14 p15 v82 v490 v818 v823)
def L_subwaylaw11_GateCounts_k66 (rec55 : (List (List Int)) → Int → Int → Option (Bool)) (pTenants5 : (List TenantL)) (p14 : (List UInt8)) (p15 : Int) (v82 : Int) (v489 : Int) (v490 : Int) (v818 : (List (List Int))) (v819 : Bool) : Option (Bool) :=
  (cond v819 (L_subwaylaw11_GateCounts_k67 rec55 pTenants5 p14 p15 v82 v490 v818 (IntKind.wrap .i64 (v489 - 1))) (L_subwaylaw11_GateCounts_k67 rec55 pTenants5 p14 p15 v82 v490 v818 v489))
def L_subwaylaw11_GateCounts_k70 (rec55 : (List (List Int)) → Int → Int → Option (Bool)) (pTenants5 : (List TenantL)) (p14 : (List UInt8)) (p15 : Int) (v82 : Int) (v490 : Int) (v858 : (List (List Int))) (v859 : Int) : Option (Bool) :=
  (L_subwaylaw11_GateCounts_k64 rec55 pTenants5 p14 p15 v82 v490 v858 v859)
def L_subwaylaw11_GateCounts_k72 (rec55 : (List (List Int)) → Int → Int → Option (Bool)) (pTenants5 : (List TenantL)) (p14 : (List UInt8)) (p15 : Int) (v82 : Int) (v490 : Int) (v870 : (List (List Int))) (v875 : Int) : Option (Bool) :=
  (L_subwaylaw11_GateCounts_k70 rec55 pTenants5 p14 p15 v82 v490 v870 v875)
def L_subwaylaw11_GateCounts_k71 (rec55 : (List (List Int)) → Int → Int → Option (Bool)) (pTenants5 : (List TenantL)) (p14 : (List UInt8)) (p15 : Int) (v82 : Int) (v489 : Int) (v490 : Int) (v870 : (List (List Int))) (v871 : Bool) : Option (Bool) :=
  (cond v871 (L_subwaylaw11_GateCounts_k72 rec55 pTenants5 p14 p15 v82 v490 v870 (IntKind.wrap .i64 (v489 + 1))) (L_subwaylaw11_GateCounts_k72 rec55 pTenants5 p14 p15 v82 v490 v870 v489))
def L_subwaylaw11_GateCounts_k56 (rec55 : (List (List Int)) → Int → Int → Option (Bool)) (pTenants5 : (List TenantL)) (p14 : (List UInt8)) (p15 : Int) (v82 : Int) (v488 : (List (List Int))) (v489 : Int) (v490 : Int) (x690 : (Int × (List UInt8) × Int × Int)) (v707 : Bool) : Option (Bool) :=
  (cond (x690.1 == 2) ((L_gate_Gate_Give pTenants5 v488 x690.2.1 x690.2.2.1).bind fun z827 => (cond z827.1 (L_subwaylaw11_GateCounts_k66 rec55 pTenants5 p14 p15 v82 v489 v490 z827.2 v707) (L_subwaylaw11_GateCounts_k66 rec55 pTenants5 p14 p15 v82 v489 v490 z827.2 false))) (cond (x690.1 != 3) ((L_gate_Gate_Take pTenants5 v488 x690.2.1 x690.2.2.1).bind fun z879 => (cond (z879.1 == 0) (L_subwaylaw11_GateCounts_k71 rec55 pTenants5 p14 p15 v82 v489 v490 z879.2 v707) (L_subwaylaw11_GateCounts_k71 rec55 pTenants5 p14 p15 v82 v489 v490 z879.2 false))) (L_subwaylaw11_GateCounts_k70 rec55 pTenants5 p14 p15 v82 v490 v488 v489)))
def L_subwaylaw11_GateCounts_b38 (rec55 : (List (List Int)) → Int → Int → Option (Bool)) (pTenants5 : (List TenantL)) (p10 : (List (Int × (List UInt8) × Int × Int))) (p14 : (List UInt8)) (p15 : Int) (z20 : (Bool)) (v82 : Int) (v488 : (List (List Int))) (v489 : Int) (v490 : Int) : Option (Bool) :=
  (cond (decide (v490 < ((List.length p10 : Nat) : Int))) ((idx p10 v490).bind fun x690 => (cond (x690.2.1 == p14) (L_subwaylaw11_GateCounts_k56 rec55 pTenants5 p14 p15 v82 v488 v489 v490 x690 (x690.2.2.1 == p15)) (L_subwaylaw11_GateCounts_k56 rec55 pTenants5 p14 p15 v82 v488 v489 v490 x690 false))) (some (z20)))
def L_subwaylaw11_GateCounts_l38 (pTenants5 : (List TenantL)) (p10 : (List (Int × (List UInt8) × Int × Int))) (p14 : (List UInt8)) (p15 : Int) (z20 : (Bool)) (v82 : Int) : Nat → (List (List Int)) → Int → Int → Option (Bool)
  | 0, _, _, _ => none
  | f + 1, v488, v489, v490 => L_subwaylaw11_GateCounts_b38  (L_subwaylaw11_GateCounts_l38 pTenants5 p10 p14 p15 z20 v82 f) pTenants5 p10 p14 p15 z20 v82 v488 v489 v490
def L_subwaylaw11_GateCounts_k3 (pTenants5 : (List TenantL)) (p10 : (List (Int × (List UInt8) × Int × Int))) (p14 : (List UInt8)) (p15 : Int) (z20 : (Bool)) (o28 : ((List (List Int)))) (v82 : Int) : Option (Bool) :=
  (L_subwaylaw11_GateCounts_l38 pTenants5 p10 p14 p15 z20 v82 fuel o28 0 0)
def L_subwaylaw11_GateCounts_k2 (pTenants5 : (List TenantL)) (p10 : (List (Int × (List UInt8) × Int × Int))) (p14 : (List UInt8)) (p15 : Int) (z20 : (Bool)) (o28 : ((List (List Int)))) (z58 : ((List UInt8) × Int × Int × (List (Int × Int)) × (List ((List UInt8) × (List UInt8) × Int)) × Bool)) (v78 : Int) : Option (Bool) :=
  (cond (p15 == 2) (L_subwaylaw11_GateCounts_k3 pTenants5 p10 p14 p15 z20 o28 z58.2.2.1) (L_subwaylaw11_GateCounts_k3 pTenants5 p10 p14 p15 z20 o28 v78))
def L_subwaylaw11_GateCounts_k1 (pWait1 : Int) (pGrace2 : Int) (pIdle3 : Int) (pLease4 : Int) (pTenants5 : (List TenantL)) (p10 : (List (Int × (List UInt8) × Int × Int))) (p14 : (List UInt8)) (p15 : Int) (z20 : (Bool)) (o28 : ((List (List Int)))) (v54 : Bool) : Option (Bool) :=
  (cond v54 (some (z20)) ((L_subwayref09_Find pWait1 pGrace2 pIdle3 pLease4 pTenants5 p14).bind fun z58 => (cond (p15 == 1) (L_subwaylaw11_GateCounts_k2 pTenants5 p10 p14 p15 z20 o28 z58 z58.2.1) (L_subwaylaw11_GateCounts_k2 pTenants5 p10 p14 p15 z20 o28 z58 0))))
def L_subwaylaw11_GateCounts (pWait1 : Int) (pGrace2 : Int) (pIdle3 : Int) (pLease4 : Int) (pTenants5 : (List TenantL)) (p10 : (List (Int × (List UInt8) × Int × Int))) (p14 : (List UInt8)) (p15 : Int) : Option (Bool) :=
  ((L_subwaylaw11_head ).bind fun z20 => ((L_gate_New pWait1 pGrace2 pIdle3 pLease4 pTenants5).bind fun z26 => (optE z26 (some (z20)) (fun o28 => ((L_subwaylaw09_Great pWait1 pGrace2 pIdle3 pLease4 pTenants5).bind fun z889 => (cond z889 (L_subwaylaw11_GateCounts_k1 pWait1 pGrace2 pIdle3 pLease4 pTenants5 p10 p14 p15 z20 o28 true) ((L_subwaylaw11_great p10).bind fun z896 => (cond z896 (L_subwaylaw11_GateCounts_k1 pWait1 pGrace2 pIdle3 pLease4 pTenants5 p10 p14 p15 z20 o28 true) (L_subwaylaw11_GateCounts_k1 pWait1 pGrace2 pIdle3 pLease4 pTenants5 p10 p14 p15 z20 o28 (decide (((List.length p14 : Nat) : Int) > 1000)))))))))))
set_option maxRecDepth 100000 in
set_option maxHeartbeats 4000000 in
theorem L_subwaylaw11_GateCounts_walk (A6 : Option Addr) (c7 : Nat) (A11 : Option Addr) (c12 : Nat) (pWait1 : Int) (pGrace2 : Int) (pIdle3 : Int) (pLease4 : Int) (d9 : (List TenantD)) (p10 : (List (Int × (List UInt8) × Int × Int))) (p14 : (List UInt8)) (p15 : Int) (w0 : World) (hL : LaidW w0) (hr8 : (dDS eTen dTen).ok w0 (A6, c7, d9)) (hr13 : RdT (ePair (eInt .i64) (ePair eStr (ePair (eInt .i64) (eInt .u32)))) w0 A11 c12 p10) (r : (Bool)) (H : L_subwaylaw11_GateCounts pWait1 pGrace2 pIdle3 pLease4 (List.map stT d9) p10 p14 p15 = some r) :
  Calls Tryd.prog 4 #[(.agg #[(.int .i64 pWait1), (.int .i64 pGrace2), (.int .i64 pIdle3), (.int .i64 pLease4), (.slice A6 (List.length (List.map stT d9)) c7)]), (.slice A11 (List.length p10) c12), (.string ⟨List.toArray p14⟩), (.int .i64 p15)] w0 (fun e w' => e = .returned (.bool r) ∧ SP [] w0 w' []) := by
 unfold L_subwaylaw11_GateCounts at H
 refine calls_go (n := 116) Tryd.func4 K K K ?_
 have hs0 := SP.start [] w0
 refine At.sq K ?_
 refine At.region K K ?_
 refine In.step (k' := 1) rfl K ?_
 refine Step.box (t := 24) (x := (.tmp 0)) (v := (.agg #[(.int .i64 pWait1), (.int .i64 pGrace2), (.int .i64 pIdle3), (.int .i64 pLease4), (.slice A6 (List.length (List.map stT d9)) c7)])) (d := (some 4)) (k := 0) K rfl K hs0 ?_
 intro g16 w17 (hs19 : SP [] w0 w17 [boxE g16 24 #[(.int .i64 pWait1), (.int .i64 pGrace2), (.int .i64 pIdle3), (.int .i64 pLease4), (.slice A6 (List.length (List.map stT d9)) c7)]])
 refine In.run' 1 (k' := 2) rfl [(8, (.bool false))] K ?_
 refine In.fin K ?_
 refine At.sq K ?_
 refine At.region K K ?_
 obtain ⟨z20, hz21, H⟩ := bind_elim H
 refine In.step (k' := 1) rfl K ?_
 refine Step.callF (f := 9) (fo := (.func 9)) (xs := #[]) (tys := #[]) (first := #[]) (captured := #[]) (d := (some 18)) (k := 0) K rfl K K Tryd.call9 (L_subwaylaw11_head_walk   w17 (laid_below hL (SP.keeps hs19)) z20 hz21) ?_
 rintro e w22 ⟨rfl, hs23⟩
 refine ⟨_, rfl, ?_⟩
 have hs25 : SP [] w0 w22 [boxE g16 24 #[(.int .i64 pWait1), (.int .i64 pGrace2), (.int .i64 pIdle3), (.int .i64 pLease4), (.slice A6 (List.length (List.map stT d9)) c7)]] := SP.call hs19 hs23
 clear hs23
 refine In.run' 1 (k' := 2) rfl [(9, (.bool z20))] K ?_
 refine In.fin K ?_
 refine At.sq K ?_
 refine At.region K K ?_
 refine In.step (k' := 1) rfl K ?_
 refine Step.load (t := 24) (x := (.tmp 4)) (g := g16) (off := 0) (i := 0) (v := (.agg #[(.int .i64 pWait1), (.int .i64 pGrace2), (.int .i64 pIdle3), (.int .i64 pLease4), (.slice A6 (List.length (List.map stT d9)) c7)])) (d := (some 19)) (k := 0) K rfl K hs25 rfl K ?_
 obtain ⟨z26, hz27, H⟩ := bind_elim H
 rcases z26 with _ | o28
 ·have H := optN H
  refine In.step (k' := 2) rfl K ?_
  refine Step.callF (f := 12) (fo := (.func 12)) (xs := #[(.tmp 19)]) (tys := #[24]) (first := #[]) (captured := #[]) (d := (some 20)) (k := 1) K rfl K K Tryd.call12 (L_gate_New_walk A6 c7 pWait1 pGrace2 pIdle3 pLease4 d9 w22 (laid_below hL (SP.keeps hs25)) (Dp.sp hr8 hs25) none hz27) ?_
  rintro e w29 ⟨rfl, hs30⟩
  refine ⟨_, rfl, ?_⟩
  have hs32 : SP [] w0 w29 [boxE g16 24 #[(.int .i64 pWait1), (.int .i64 pGrace2), (.int .i64 pIdle3), (.int .i64 pLease4), (.slice A6 (List.length (List.map stT d9)) c7)]] := SP.call hs25 hs30
  clear hs30
  refine In.run' 1 (k' := 3) rfl [(10, (.pointer none))] K ?_
  refine In.fin K ?_
  refine At.sq K ?_
  refine At.sq K ?_
  refine At.region K K ?_
  refine In.run' 15 (k' := 15) rfl [(21, (.pointer none)), (22, (.bool true)), (23, (.bool true)), (24, undef), (25, undef), (26, (.bool true)), (27, (.bool true)), (28, undef), (29, undef), (30, (.bool true)), (31, (.bool true)), (32, undef), (33, undef), (34, undef), (35, (.bool true))] K ?_
  refine In.fin K ?_
  refine At.cd K (o := (.tmp 35)) K (b := true) K (fun hb33 => ?_) (fun hb33 => ?_)
  rotate_left
  ·cases hb33
  refine At.sq K ?_
  refine At.region K K ?_
  refine In.run' 2 (k' := 2) rfl [(36, (.bool z20)), (8, (.bool z20))] K ?_
  refine In.fin K ?_
  refine At.ret K ?_
  refine ⟨(.bool z20), K, ?_⟩
  obtain rfl := some_elim H
  exact ⟨rfl, SP.sel hs32 [] rfl rfl⟩
 ·have H := optS H
  refine In.step (k' := 2) rfl K ?_
  refine Step.callF (f := 12) (fo := (.func 12)) (xs := #[(.tmp 19)]) (tys := #[24]) (first := #[]) (captured := #[]) (d := (some 20)) (k := 1) K rfl K K Tryd.call12 (L_gate_New_walk A6 c7 pWait1 pGrace2 pIdle3 pLease4 d9 w22 (laid_below hL (SP.keeps hs25)) (Dp.sp hr8 hs25) (some o28) hz27) ?_
  rintro e w34 ⟨g36, F37, rfl, hs35⟩
  refine ⟨_, rfl, ?_⟩
  have hs39 : SP [] w0 w34 [boxE g16 24 #[(.int .i64 pWait1), (.int .i64 pGrace2), (.int .i64 pIdle3), (.int .i64 pLease4), (.slice A6 (List.length (List.map stT d9)) c7)], gateE g36 F37 d9 o28] := SP.call hs25 hs35
  clear hs35
  refine In.run' 1 (k' := 3) rfl [(10, (pt g36 0))] K ?_
  refine In.fin K ?_
  refine At.sq K ?_
  refine At.sq K ?_
  refine At.join (fun ρ w => ∃ (v54 : Bool), Known ρ [(1, (.slice A11 (List.length p10) c12)), (2, (.string ⟨List.toArray p14⟩)), (3, (.int .i64 p15)), (4, (pt g16 0)), (9, (.bool z20)), (10, (pt g36 0)), (35, (.bool v54))] ∧ SP [] w0 w [boxE g16 24 #[(.int .i64 pWait1), (.int .i64 pGrace2), (.int .i64 pIdle3), (.int .i64 pLease4), (.slice A6 (List.length (List.map stT d9)) c7)], gateE g36 F37 d9 o28] ∧ L_subwaylaw11_GateCounts_k1 pWait1 pGrace2 pIdle3 pLease4 (List.map stT d9) p10 p14 p15 z20 o28 v54 = some r) ?_ ?_
  ·refine At.region K K ?_
   refine In.run' 3 (k' := 3) rfl [(21, (pt g36 0)), (22, (.bool false)), (23, (.bool false))] K ?_
   refine In.step (k' := 4) rfl K ?_
   refine Step.load (t := 24) (x := (.tmp 4)) (g := g16) (off := 0) (i := 0) (v := (.agg #[(.int .i64 pWait1), (.int .i64 pGrace2), (.int .i64 pIdle3), (.int .i64 pLease4), (.slice A6 (List.length (List.map stT d9)) c7)])) (d := (some 24)) (k := 3) K rfl K hs39 rfl K ?_
   obtain ⟨z889, hz890, H⟩ := bind_elim H
   refine In.step (k' := 5) rfl K ?_
   refine Step.callF (f := 10) (fo := (.func 10)) (xs := #[(.tmp 24)]) (tys := #[24]) (first := #[]) (captured := #[]) (d := (some 25)) (k := 4) K rfl K K Tryd.call10 (L_subwaylaw09_Great_walk A6 c7 pWait1 pGrace2 pIdle3 pLease4 d9 w34 (Dp.sp hr8 hs39) z889 hz890) ?_
   rintro e w891 ⟨rfl, hs892⟩
   refine ⟨_, rfl, ?_⟩
   have hs894 : SP [] w0 w891 [boxE g16 24 #[(.int .i64 pWait1), (.int .i64 pGrace2), (.int .i64 pIdle3), (.int .i64 pLease4), (.slice A6 (List.length (List.map stT d9)) c7)], gateE g36 F37 d9 o28] := SP.call hs39 hs892
   clear hs892
   refine In.run' 2 (k' := 7) rfl [(26, (.bool z889)), (27, (.bool z889))] K ?_
   refine In.guard (t := 27) (b := z889) K (fun hb895 => ?_) (fun hb895 => ?_)
   ·have H := ct H hb895
    refine In.run' 8 (k' := 15) rfl [(28, undef), (29, undef), (30, (.bool true)), (31, (.bool true)), (32, undef), (33, undef), (34, undef), (35, (.bool true))] K ?_
    refine In.fin K ?_
    exact ⟨true, ⟨K, K, K, K, K, K, K, trivial⟩, SP.sel hs894 [0, 1] rfl rfl, H⟩
   ·have H := cf H hb895
    refine In.run' 1 (k' := 8) rfl [(28, (.slice A11 (List.length p10) c12))] K ?_
    obtain ⟨z896, hz897, H⟩ := bind_elim H
    refine In.step (k' := 9) rfl K ?_
    refine Step.callF (f := 11) (fo := (.func 11)) (xs := #[(.tmp 28)]) (tys := #[25]) (first := #[]) (captured := #[]) (d := (some 29)) (k := 8) K rfl K K Tryd.call11 (L_subwaylaw11_great_walk A11 c12 p10 w891 (RdT.sp hr13 hs894) z896 hz897) ?_
    rintro e w898 ⟨rfl, hs899⟩
    refine ⟨_, rfl, ?_⟩
    have hs901 : SP [] w0 w898 [boxE g16 24 #[(.int .i64 pWait1), (.int .i64 pGrace2), (.int .i64 pIdle3), (.int .i64 pLease4), (.slice A6 (List.length (List.map stT d9)) c7)], gateE g36 F37 d9 o28] := SP.call hs894 hs899
    clear hs899
    refine In.run' 2 (k' := 11) rfl [(30, (.bool z896)), (31, (.bool z896))] K ?_
    refine In.guard (t := 31) (b := z896) K (fun hb902 => ?_) (fun hb902 => ?_)
    ·have H := ct H hb902
     refine In.run' 4 (k' := 15) rfl [(32, undef), (33, undef), (34, undef), (35, (.bool true))] K ?_
     refine In.fin K ?_
     exact ⟨true, ⟨K, K, K, K, K, K, K, trivial⟩, SP.sel hs901 [0, 1] rfl rfl, H⟩
    ·have H := cf H hb902
     refine In.run' 4 (k' := 15) rfl [(32, (.string ⟨List.toArray p14⟩)), (33, (.int .i64 ((List.length p14 : Nat) : Int))), (34, (.bool (decide (((List.length p14 : Nat) : Int) > 1000)))), (35, (.bool (decide (((List.length p14 : Nat) : Int) > 1000))))] K ?_
     refine In.fin K ?_
     exact ⟨(decide (((List.length p14 : Nat) : Int) > 1000)), ⟨K, K, K, K, K, K, K, trivial⟩, SP.sel hs901 [0, 1] rfl rfl, H⟩
  ·rintro ρ w55 ⟨v54, hk, hs56, H⟩
   unfold L_subwaylaw11_GateCounts_k1 at H
   first | refine At.known [(1, (.slice A11 (List.length p10) c12)), (2, (.string ⟨List.toArray p14⟩)), (3, (.int .i64 p15)), (4, (pt g16 0)), (9, (.bool z20)), (10, (pt g36 0)), (35, (.bool v54))] hk ?_ | rw [← known_updL (l := [(1, (.slice A11 (List.length p10) c12)), (2, (.string ⟨List.toArray p14⟩)), (3, (.int .i64 p15)), (4, (pt g16 0)), (9, (.bool z20)), (10, (pt g36 0)), (35, (.bool v54))]) hk]
   refine At.cd K (o := (.tmp 35)) K (b := v54) K (fun hb57 => ?_) (fun hb57 => ?_)
   ·have H := ct H hb57
    refine At.sq K ?_
    refine At.region K K ?_
    refine In.run' 2 (k' := 2) rfl [(36, (.bool z20)), (8, (.bool z20))] K ?_
    refine In.fin K ?_
    refine At.ret K ?_
    refine ⟨(.bool z20), K, ?_⟩
    obtain rfl := some_elim H
    exact ⟨rfl, SP.sel hs56 [] rfl rfl⟩
   ·have H := cf H hb57
    refine At.skip K ?_
    refine At.sq K ?_
    refine At.region K K ?_
    refine In.step (k' := 1) rfl K ?_
    refine Step.load (t := 24) (x := (.tmp 4)) (g := g16) (off := 0) (i := 0) (v := (.agg #[(.int .i64 pWait1), (.int .i64 pGrace2), (.int .i64 pIdle3), (.int .i64 pLease4), (.slice A6 (List.length (List.map stT d9)) c7)])) (d := (some 38)) (k := 0) K rfl K hs56 rfl K ?_
    refine In.run' 1 (k' := 2) rfl [(39, (.string ⟨List.toArray p14⟩))] K ?_
    obtain ⟨z58, hz59, H⟩ := bind_elim H
    refine In.step (k' := 3) rfl K ?_
    refine Step.callF (f := 22) (fo := (.func 22)) (xs := #[(.tmp 38), (.tmp 39)]) (tys := #[24, 9]) (first := #[]) (captured := #[]) (d := (some 40)) (k := 2) K rfl K K Tryd.call22 (L_subwayref09_Find_walk (R := fun w => Below w0.heap.size w0 w) A6 c7 pWait1 pGrace2 pIdle3 pLease4 d9 p14 w55 (fun w hb => keeps_then hs56 hb) (fun w hb => Dp.mono _ hb hr8) z58 hz59) ?_
    rintro e w60 ⟨A62, c63, A65, c66, rfl, hr64, hr67, hs61⟩
    refine ⟨_, rfl, ?_⟩
    have hs69 : SP [] w0 w60 [boxE g16 24 #[(.int .i64 pWait1), (.int .i64 pGrace2), (.int .i64 pIdle3), (.int .i64 pLease4), (.slice A6 (List.length (List.map stT d9)) c7)], gateE g36 F37 d9 o28] := SP.call hs56 hs61
    clear hs61
    refine In.run' 3 (k' := 6) rfl [(37, (.tuple #[(.agg #[(.string ⟨List.toArray z58.1⟩), (.int .i64 z58.2.1), (.int .i64 z58.2.2.1), (.slice A62 (List.length z58.2.2.2.1) c63), (.slice A65 (List.length z58.2.2.2.2.1) c66)]), (.bool z58.2.2.2.2.2)])), (41, (.agg #[(.string ⟨List.toArray z58.1⟩), (.int .i64 z58.2.1), (.int .i64 z58.2.2.1), (.slice A62 (List.length z58.2.2.2.1) c63), (.slice A65 (List.length z58.2.2.2.2.1) c66)])), (42, (.bool z58.2.2.2.2.2))] K ?_
    refine In.step (k' := 7) rfl K ?_
    refine Step.alloc (t := 45) (z := (.agg #[(.string ⟨List.toArray ([] : List UInt8)⟩), (.int .i64 0), (.int .i64 0), (.slice none (List.length ([] : List (Int × Int))) 0), (.slice none (List.length ([] : List ((List UInt8) × (List UInt8) × Int))) 0)])) (d := (some 11)) (k := 6) K rfl K hs69 ?_
    intro g70 w71 (hs73 : SP [] w0 w71 [boxE g16 24 #[(.int .i64 pWait1), (.int .i64 pGrace2), (.int .i64 pIdle3), (.int .i64 pLease4), (.slice A6 (List.length (List.map stT d9)) c7)], gateE g36 F37 d9 o28, boxE g70 45 #[(.string ⟨List.toArray ([] : List UInt8)⟩), (.int .i64 0), (.int .i64 0), (.slice none (List.length ([] : List (Int × Int))) 0), (.slice none (List.length ([] : List ((List UInt8) × (List UInt8) × Int))) 0)]])
    refine In.step (k' := 8) rfl K ?_
    refine Step.store (t := 45) (x := (.tmp 11)) (y := (.tmp 41)) (g := g70) (off := 0) (i := 2) (v := (.agg #[(.string ⟨List.toArray z58.1⟩), (.int .i64 z58.2.1), (.int .i64 z58.2.2.1), (.slice A62 (List.length z58.2.2.2.1) c63), (.slice A65 (List.length z58.2.2.2.2.1) c66)])) (cs' := #[(.string ⟨List.toArray z58.1⟩), (.int .i64 z58.2.1), (.int .i64 z58.2.2.1), (.slice A62 (List.length z58.2.2.2.1) c63), (.slice A65 (List.length z58.2.2.2.2.1) c66)]) (d := none) (k := 7) K rfl K K hs73 rfl K ?_
    intro w74 (hs76 : SP [] w0 w74 [boxE g16 24 #[(.int .i64 pWait1), (.int .i64 pGrace2), (.int .i64 pIdle3), (.int .i64 pLease4), (.slice A6 (List.length (List.map stT d9)) c7)], gateE g36 F37 d9 o28, boxE g70 45 #[(.string ⟨List.toArray z58.1⟩), (.int .i64 z58.2.1), (.int .i64 z58.2.2.1), (.slice A62 (List.length z58.2.2.2.1) c63), (.slice A65 (List.length z58.2.2.2.2.1) c66)]])
    refine In.run' 1 (k' := 9) rfl [(12, (.bool z58.2.2.2.2.2))] K ?_
    refine In.fin K ?_
    refine At.sq K ?_
    refine At.region K K ?_
    refine In.run' 1 (k' := 1) rfl [(13, (.int .i64 0))] K ?_
    refine In.fin K ?_
    refine At.sq K ?_
    refine At.sq K ?_
    refine At.region K K ?_
    refine In.run' 2 (k' := 2) rfl [(43, (.int .i64 p15)), (44, (.bool (p15 == 1)))] K ?_
    refine In.fin K ?_
    refine At.join (fun ρ w => ∃ (v78 : Int), Known ρ [(1, (.slice A11 (List.length p10) c12)), (2, (.string ⟨List.toArray p14⟩)), (3, (.int .i64 p15)), (9, (.bool z20)), (10, (pt g36 0)), (11, (pt g70 0)), (13, (.int .i64 v78))] ∧ SP [] w0 w [gateE g36 F37 d9 o28, boxE g70 45 #[(.string ⟨List.toArray z58.1⟩), (.int .i64 z58.2.1), (.int .i64 z58.2.2.1), (.slice A62 (List.length z58.2.2.2.1) c63), (.slice A65 (List.length z58.2.2.2.2.1) c66)]] ∧ L_subwaylaw11_GateCounts_k2 (List.map stT d9) p10 p14 p15 z20 o28 z58 v78 = some r) ?_ ?_
    ·refine At.cd K (o := (.tmp 44)) K (b := (p15 == 1)) K (fun hb888 => ?_) (fun hb888 => ?_)
     ·have H := ct H hb888
      refine At.region K K ?_
      refine In.run' 1 (k' := 1) rfl [(45, (pt g70 1))] K ?_
      refine In.step (k' := 2) rfl K ?_
      refine Step.load (t := 3) (x := (.tmp 45)) (g := g70) (off := 1) (i := 2) (v := (.int .i64 z58.2.1)) (d := (some 46)) (k := 1) K rfl K hs76 rfl K ?_
      refine In.run' 1 (k' := 3) rfl [(13, (.int .i64 z58.2.1))] K ?_
      refine In.fin K ?_
      exact ⟨z58.2.1, ⟨K, K, K, K, K, K, K, trivial⟩, SP.sel hs76 [1, 2] rfl rfl, H⟩
     ·have H := cf H hb888
      refine At.skip K ?_
      exact ⟨0, ⟨K, K, K, K, K, K, K, trivial⟩, SP.sel hs76 [1, 2] rfl rfl, H⟩
    ·rintro ρ w79 ⟨v78, hk, hs80, H⟩
     unfold L_subwaylaw11_GateCounts_k2 at H
     first | refine At.known [(1, (.slice A11 (List.length p10) c12)), (2, (.string ⟨List.toArray p14⟩)), (3, (.int .i64 p15)), (9, (.bool z20)), (10, (pt g36 0)), (11, (pt g70 0)), (13, (.int .i64 v78))] hk ?_ | rw [← known_updL (l := [(1, (.slice A11 (List.length p10) c12)), (2, (.string ⟨List.toArray p14⟩)), (3, (.int .i64 p15)), (9, (.bool z20)), (10, (pt g36 0)), (11, (pt g70 0)), (13, (.int .i64 v78))]) hk]
     refine At.sq K ?_
     refine At.sq K ?_
     refine At.region K K ?_
     refine In.run' 2 (k' := 2) rfl [(47, (.int .i64 p15)), (48, (.bool (p15 == 2)))] K ?_
     refine In.fin K ?_
     refine At.join (fun ρ w => ∃ (v82 : Int), Known ρ [(1, (.slice A11 (List.length p10) c12)), (2, (.string ⟨List.toArray p14⟩)), (3, (.int .i64 p15)), (9, (.bool z20)), (10, (pt g36 0)), (13, (.int .i64 v82))] ∧ SP [] w0 w [gateE g36 F37 d9 o28] ∧ L_subwaylaw11_GateCounts_k3 (List.map stT d9) p10 p14 p15 z20 o28 v82 = some r) ?_ ?_
     ·refine At.cd K (o := (.tmp 48)) K (b := (p15 == 2)) K (fun hb887 => ?_) (fun hb887 => ?_)
      ·have H := ct H hb887
       refine At.region K K ?_
       refine In.run' 1 (k' := 1) rfl [(49, (pt g70 2))] K ?_
       refine In.step (k' := 2) rfl K ?_
       refine Step.load (t := 3) (x := (.tmp 49)) (g := g70) (off := 2) (i := 1) (v := (.int .i64 z58.2.2.1)) (d := (some 50)) (k := 1) K rfl K hs80 rfl K ?_
       refine In.run' 1 (k' := 3) rfl [(13, (.int .i64 z58.2.2.1))] K ?_
       refine In.fin K ?_
       exact ⟨z58.2.2.1, ⟨K, K, K, K, K, K, trivial⟩, SP.sel hs80 [0] rfl rfl, H⟩
      ·have H := cf H hb887
       refine At.skip K ?_
       exact ⟨v78, ⟨K, K, K, K, K, K, trivial⟩, SP.sel hs80 [0] rfl rfl, H⟩
     ·rintro ρ w83 ⟨v82, hk, hs84, H⟩
      unfold L_subwaylaw11_GateCounts_k3 at H
      first | refine At.known [(1, (.slice A11 (List.length p10) c12)), (2, (.string ⟨List.toArray p14⟩)), (3, (.int .i64 p15)), (9, (.bool z20)), (10, (pt g36 0)), (13, (.int .i64 v82))] hk ?_ | rw [← known_updL (l := [(1, (.slice A11 (List.length p10) c12)), (2, (.string ⟨List.toArray p14⟩)), (3, (.int .i64 p15)), (9, (.bool z20)), (10, (pt g36 0)), (13, (.int .i64 v82))]) hk]
      refine At.sq K ?_
      refine At.region K K ?_
      refine In.run' 1 (k' := 1) rfl [(14, (.int .i64 0))] K ?_
      refine In.fin K ?_
      refine At.sq K ?_
      refine At.sq K ?_
      refine At.region K K ?_
      refine In.run' 1 (k' := 1) rfl [(15, (.int .i64 0))] K ?_
      refine In.fin K ?_
      refine At.bk K (id := 0) K ?_
      refine At.lp K (fun f55 ρ w => ∃ (v488 : (List (List Int))) (v489 : Int) (v490 : Int), Known ρ [(1, (.slice A11 (List.length p10) c12)), (2, (.string ⟨List.toArray p14⟩)), (3, (.int .i64 p15)), (9, (.bool z20)), (10, (pt g36 0)), (13, (.int .i64 v82)), (14, (.int .i64 v489)), (15, (.int .i64 v490))] ∧ SP [] w0 w [gateE g36 F37 d9 v488] ∧ L_subwaylaw11_GateCounts_l38 (List.map stT d9) p10 p14 p15 z20 v82 f55 v488 v489 v490 = some r) (by rintro ρ w ⟨v488, v489, v490, hk, hs, H⟩; cases H) ?_ fuel ?_
      ·rintro f55 ρ w486 ⟨v488, v489, v490, hk, hs487, H⟩
       refine At.known [(1, (.slice A11 (List.length p10) c12)), (2, (.string ⟨List.toArray p14⟩)), (3, (.int .i64 p15)), (9, (.bool z20)), (10, (pt g36 0)), (13, (.int .i64 v82)), (14, (.int .i64 v489)), (15, (.int .i64 v490))] hk ?_
       replace H := (show L_subwaylaw11_GateCounts_b38 (L_subwaylaw11_GateCounts_l38 (List.map stT d9) p10 p14 p15 z20 v82 f55) (List.map stT d9) p10 p14 p15 z20 v82 v488 v489 v490 = some r from H)
       unfold L_subwaylaw11_GateCounts_b38 at H
       refine At.sq K ?_
       refine At.sq K ?_
       refine At.region K K ?_
       refine In.run' 4 (k' := 4) rfl [(51, (.int .i64 v490)), (52, (.slice A11 (List.length p10) c12)), (53, (.int .i64 ((List.length p10 : Nat) : Int))), (54, (.bool (decide (v490 < ((List.length p10 : Nat) : Int)))))] K ?_
       refine In.fin K ?_
       refine At.cd K (o := (.tmp 54)) K (b := (decide (v490 < ((List.length p10 : Nat) : Int)))) K (fun hb689 => ?_) (fun hb689 => ?_)
       ·have H := ct H hb689
        refine At.skip K ?_
        refine At.sq K ?_
        refine At.bk K (id := 1) K ?_
        refine At.sq K ?_
        refine At.region K K ?_
        refine In.run' 2 (k' := 2) rfl [(57, (.slice A11 (List.length p10) c12)), (58, (.int .i64 v490))] K ?_
        obtain ⟨x690, hp691, hq692, hx693, H⟩ := idx_elim H
        refine In.step (k' := 3) rfl K ?_
        refine Step.elem (e := (ePair (eInt .i64) (ePair eStr (ePair (eInt .i64) (eInt .u32))))) (l := p10) (A := A11) (c := c12) (T := 25) (E := 35) (x := (.tmp 57)) (ix := (.tmp 58)) (ki := .i64) (iz := v490) (d := (some 59)) (k := 2) K rfl K K K K (RdT.sp hr13 hs487) hp691 hq692 ?_
        intro b694 o695 hA697 hb698 hc696
        refine In.step (k' := 4) rfl K ?_
        refine Step.cells (t := 35) (x := (.tmp 59)) (b := b694) (off := (o695 + Int.toNat v490 * (ePair (eInt .i64) (ePair eStr (ePair (eInt .i64) (eInt .u32)))).sz)) (xs := [(.int .i64 x690.1), (.string ⟨List.toArray x690.2.1⟩), (.int .i64 x690.2.2.1), (.int .u32 x690.2.2.2)]) (d := (some 60)) (k := 3) K rfl K K K (elem_cells0 (e := (ePair (eInt .i64) (ePair eStr (ePair (eInt .i64) (eInt .u32))))) (rdt_cells (RdT.sp hr13 hs487) hA697 hp691 hq692) hx693 rfl) ?_
        refine In.step (k' := 5) rfl K ?_
        refine Step.alloc (t := 35) (z := (.agg #[(.int .i64 0), (.string ⟨List.toArray ([] : List UInt8)⟩), (.int .i64 0), (.int .u32 0)])) (d := (some 16)) (k := 4) K rfl K hs487 ?_
        intro g699 w700 (hs702 : SP [] w0 w700 [gateE g36 F37 d9 v488, boxE g699 35 #[(.int .i64 0), (.string ⟨List.toArray ([] : List UInt8)⟩), (.int .i64 0), (.int .u32 0)]])
        refine In.step (k' := 6) rfl K ?_
        refine Step.store (t := 35) (x := (.tmp 16)) (y := (.tmp 60)) (g := g699) (off := 0) (i := 1) (v := (.agg #[(.int .i64 x690.1), (.string ⟨List.toArray x690.2.1⟩), (.int .i64 x690.2.2.1), (.int .u32 x690.2.2.2)])) (cs' := #[(.int .i64 x690.1), (.string ⟨List.toArray x690.2.1⟩), (.int .i64 x690.2.2.1), (.int .u32 x690.2.2.2)]) (d := none) (k := 5) K rfl K K hs702 rfl K ?_
        intro w703 (hs705 : SP [] w0 w703 [gateE g36 F37 d9 v488, boxE g699 35 #[(.int .i64 x690.1), (.string ⟨List.toArray x690.2.1⟩), (.int .i64 x690.2.2.1), (.int .u32 x690.2.2.2)]])
        refine In.fin K ?_
        refine At.sq K ?_
        refine At.join (fun ρ w => ∃ (v707 : Bool), Known ρ [(1, (.slice A11 (List.length p10) c12)), (2, (.string ⟨List.toArray p14⟩)), (3, (.int .i64 p15)), (9, (.bool z20)), (10, (pt g36 0)), (13, (.int .i64 v82)), (14, (.int .i64 v489)), (15, (.int .i64 v490)), (16, (pt g699 0)), (17, (.bool v707))] ∧ SP [] w0 w [gateE g36 F37 d9 v488, boxE g699 35 #[(.int .i64 x690.1), (.string ⟨List.toArray x690.2.1⟩), (.int .i64 x690.2.2.1), (.int .u32 x690.2.2.2)]] ∧ L_subwaylaw11_GateCounts_k56 (L_subwaylaw11_GateCounts_l38 (List.map stT d9) p10 p14 p15 z20 v82 f55) (List.map stT d9) p14 p15 v82 v488 v489 v490 x690 v707 = some r) ?_ ?_
        ·refine At.region K K ?_
         refine In.run' 1 (k' := 1) rfl [(61, (pt g699 1))] K ?_
         refine In.step (k' := 2) rfl K ?_
         refine Step.load (t := 9) (x := (.tmp 61)) (g := g699) (off := 1) (i := 1) (v := (.string ⟨List.toArray x690.2.1⟩)) (d := (some 62)) (k := 1) K rfl K hs705 rfl K ?_
         refine In.run' 1 (k' := 3) rfl [(63, (.string ⟨List.toArray p14⟩))] K ?_
         refine In.step (k' := 4) rfl K ?_
         refine Step.strOp (op := .eql) (T := 9) (T' := 9) (x := (.tmp 62)) (y := (.tmp 63)) (a := x690.2.1) (b := p14) (r := (.bool (x690.2.1 == p14))) (d := (some 64)) (k := 3) K rfl K K rfl ?_
         refine In.run' 1 (k' := 5) rfl [(65, (.bool (x690.2.1 == p14)))] K ?_
         refine In.guard (t := 65) (b := (x690.2.1 == p14)) K (fun hb886 => ?_) (fun hb886 => ?_)
         ·have H := ct H hb886
          refine In.run' 1 (k' := 6) rfl [(66, (pt g699 2))] K ?_
          refine In.step (k' := 7) rfl K ?_
          refine Step.load (t := 3) (x := (.tmp 66)) (g := g699) (off := 2) (i := 1) (v := (.int .i64 x690.2.2.1)) (d := (some 67)) (k := 6) K rfl K hs705 rfl K ?_
          refine In.run' 4 (k' := 11) rfl [(68, (.int .i64 p15)), (69, (.bool (x690.2.2.1 == p15))), (70, (.bool (x690.2.2.1 == p15))), (17, (.bool (x690.2.2.1 == p15)))] K ?_
          refine In.fin K ?_
          exact ⟨(x690.2.2.1 == p15), ⟨K, K, K, K, K, K, K, K, K, K, trivial⟩, SP.sel hs705 [0, 1] rfl rfl, H⟩
         ·have H := cf H hb886
          refine In.run' 6 (k' := 11) rfl [(66, undef), (67, undef), (68, undef), (69, undef), (70, (.bool false)), (17, (.bool false))] K ?_
          refine In.fin K ?_
          exact ⟨false, ⟨K, K, K, K, K, K, K, K, K, K, trivial⟩, SP.sel hs705 [0, 1] rfl rfl, H⟩
        ·rintro ρ w708 ⟨v707, hk, hs709, H⟩
         unfold L_subwaylaw11_GateCounts_k56 at H
         first | refine At.known [(1, (.slice A11 (List.length p10) c12)), (2, (.string ⟨List.toArray p14⟩)), (3, (.int .i64 p15)), (9, (.bool z20)), (10, (pt g36 0)), (13, (.int .i64 v82)), (14, (.int .i64 v489)), (15, (.int .i64 v490)), (16, (pt g699 0)), (17, (.bool v707))] hk ?_ | rw [← known_updL (l := [(1, (.slice A11 (List.length p10) c12)), (2, (.string ⟨List.toArray p14⟩)), (3, (.int .i64 p15)), (9, (.bool z20)), (10, (pt g36 0)), (13, (.int .i64 v82)), (14, (.int .i64 v489)), (15, (.int .i64 v490)), (16, (pt g699 0)), (17, (.bool v707))]) hk]
         refine At.sq K ?_
         refine At.sq K ?_
         refine At.region K K ?_
         refine In.run' 1 (k' := 1) rfl [(71, (pt g699 0))] K ?_
         refine In.step (k' := 2) rfl K ?_
         refine Step.load (t := 3) (x := (.tmp 71)) (g := g699) (off := 0) (i := 1) (v := (.int .i64 x690.1)) (d := (some 72)) (k := 1) K rfl K hs709 rfl K ?_
         refine In.run' 1 (k' := 3) rfl [(73, (.bool (x690.1 == 2)))] K ?_
         refine In.fin K ?_
         refine At.join (fun ρ w => ∃ (v786 : (List (List Int))) (v787 : Int), Known ρ [(1, (.slice A11 (List.length p10) c12)), (2, (.string ⟨List.toArray p14⟩)), (3, (.int .i64 p15)), (9, (.bool z20)), (10, (pt g36 0)), (13, (.int .i64 v82)), (14, (.int .i64 v787)), (15, (.int .i64 v490))] ∧ SP [] w0 w [gateE g36 F37 d9 v786] ∧ L_subwaylaw11_GateCounts_k64 (L_subwaylaw11_GateCounts_l38 (List.map stT d9) p10 p14 p15 z20 v82 f55) (List.map stT d9) p14 p15 v82 v490 v786 v787 = some r) ?_ ?_
         ·refine At.cd K (o := (.tmp 73)) K (b := (x690.1 == 2)) K (fun hb810 => ?_) (fun hb810 => ?_)
          ·have H := ct H hb810
           refine At.sq K ?_
           refine At.join (fun ρ w => ∃ (v818 : (List (List Int))) (v819 : Bool), Known ρ [(1, (.slice A11 (List.length p10) c12)), (2, (.string ⟨List.toArray p14⟩)), (3, (.int .i64 p15)), (9, (.bool z20)), (10, (pt g36 0)), (13, (.int .i64 v82)), (14, (.int .i64 v489)), (15, (.int .i64 v490)), (82, (.bool v819))] ∧ SP [] w0 w [gateE g36 F37 d9 v818] ∧ L_subwaylaw11_GateCounts_k66 (L_subwaylaw11_GateCounts_l38 (List.map stT d9) p10 p14 p15 z20 v82 f55) (List.map stT d9) p14 p15 v82 v489 v490 v818 v819 = some r) ?_ ?_
           ·refine At.region K K ?_
            refine In.run' 2 (k' := 2) rfl [(74, (pt g36 0)), (75, (pt g699 1))] K ?_
            refine In.step (k' := 3) rfl K ?_
            refine Step.load (t := 9) (x := (.tmp 75)) (g := g699) (off := 1) (i := 1) (v := (.string ⟨List.toArray x690.2.1⟩)) (d := (some 76)) (k := 2) K rfl K hs709 rfl K ?_
            refine In.run' 1 (k' := 4) rfl [(77, (pt g699 2))] K ?_
            refine In.step (k' := 5) rfl K ?_
            refine Step.load (t := 3) (x := (.tmp 77)) (g := g699) (off := 2) (i := 1) (v := (.int .i64 x690.2.2.1)) (d := (some 78)) (k := 4) K rfl K hs709 rfl K ?_
            obtain ⟨z827, hz828, H⟩ := bind_elim H
            refine In.step (k' := 6) rfl K ?_
            refine Step.callF (f := 14) (fo := (.func 14)) (xs := #[(.tmp 74), (.tmp 76), (.tmp 78)]) (tys := #[29, 9, 3]) (first := #[]) (captured := #[]) (d := (some 79)) (k := 5) K rfl K K Tryd.call14 (L_gate_Gate_Give_walk g36 A6 c7 F37 d9 v488 x690.2.1 x690.2.2.1 w708 (SP.sub hs709 [0] rfl rfl) (fun w hm => Dp.mono _ (SP.below_of hs709 (l := [0]) rfl hm) hr8) z827 hz828) ?_
            rintro e w829 ⟨rfl, hs830⟩
            refine ⟨_, rfl, ?_⟩
            have hs832 : SP [] w0 w829 [boxE g699 35 #[(.int .i64 x690.1), (.string ⟨List.toArray x690.2.1⟩), (.int .i64 x690.2.2.1), (.int .u32 x690.2.2.2)], gateE g36 F37 d9 z827.2] := SP.callS hs709 [0] [1] rfl rfl hs830 rfl
            clear hs830
            refine In.run' 1 (k' := 7) rfl [(80, (.bool z827.1))] K ?_
            refine In.guard (t := 80) (b := z827.1) K (fun hb833 => ?_) (fun hb833 => ?_)
            ·have H := ct H hb833
             refine In.run' 2 (k' := 9) rfl [(81, (.bool v707)), (82, (.bool v707))] K ?_
             refine In.fin K ?_
             exact ⟨z827.2, v707, ⟨K, K, K, K, K, K, K, K, K, trivial⟩, SP.sel hs832 [1] rfl rfl, H⟩
            ·have H := cf H hb833
             refine In.run' 2 (k' := 9) rfl [(81, undef), (82, (.bool false))] K ?_
             refine In.fin K ?_
             exact ⟨z827.2, false, ⟨K, K, K, K, K, K, K, K, K, trivial⟩, SP.sel hs832 [1] rfl rfl, H⟩
           ·rintro ρ w820 ⟨v818, v819, hk, hs821, H⟩
            unfold L_subwaylaw11_GateCounts_k66 at H
            first | refine At.known [(1, (.slice A11 (List.length p10) c12)), (2, (.string ⟨List.toArray p14⟩)), (3, (.int .i64 p15)), (9, (.bool z20)), (10, (pt g36 0)), (13, (.int .i64 v82)), (14, (.int .i64 v489)), (15, (.int .i64 v490)), (82, (.bool v819))] hk ?_ | rw [← known_updL (l := [(1, (.slice A11 (List.length p10) c12)), (2, (.string ⟨List.toArray p14⟩)), (3, (.int .i64 p15)), (9, (.bool z20)), (10, (pt g36 0)), (13, (.int .i64 v82)), (14, (.int .i64 v489)), (15, (.int .i64 v490)), (82, (.bool v819))]) hk]
            refine At.join (fun ρ w => ∃ (v823 : Int), Known ρ [(1, (.slice A11 (List.length p10) c12)), (2, (.string ⟨List.toArray p14⟩)), (3, (.int .i64 p15)), (9, (.bool z20)), (10, (pt g36 0)), (13, (.int .i64 v82)), (14, (.int .i64 v823)), (15, (.int .i64 v490))] ∧ SP [] w0 w [gateE g36 F37 d9 v818] ∧ L_subwaylaw11_GateCounts_k67 (L_subwaylaw11_GateCounts_l38 (List.map stT d9) p10 p14 p15 z20 v82 f55) (List.map stT d9) p14 p15 v82 v490 v818 v823 = some r) ?_ ?_
            ·refine At.cd K (o := (.tmp 82)) K (b := v819) K (fun hb826 => ?_) (fun hb826 => ?_)
             ·have H := ct H hb826
              refine At.region K K ?_
              refine In.run' 3 (k' := 3) rfl [(83, (.int .i64 v489)), (84, (.int .i64 (IntKind.wrap .i64 (v489 - 1)))), (14, (.int .i64 (IntKind.wrap .i64 (v489 - 1))))] K ?_
              refine In.fin K ?_
              exact ⟨(IntKind.wrap .i64 (v489 - 1)), ⟨K, K, K, K, K, K, K, K, trivial⟩, SP.sel hs821 [0] rfl rfl, H⟩
             ·have H := cf H hb826
              refine At.skip K ?_
              exact ⟨v489, ⟨K, K, K, K, K, K, K, K, trivial⟩, SP.sel hs821 [0] rfl rfl, H⟩
            ·rintro ρ w824 ⟨v823, hk, hs825, H⟩
             unfold L_subwaylaw11_GateCounts_k67 at H
             first | refine At.known [(1, (.slice A11 (List.length p10) c12)), (2, (.string ⟨List.toArray p14⟩)), (3, (.int .i64 p15)), (9, (.bool z20)), (10, (pt g36 0)), (13, (.int .i64 v82)), (14, (.int .i64 v823)), (15, (.int .i64 v490))] hk ?_ | rw [← known_updL (l := [(1, (.slice A11 (List.length p10) c12)), (2, (.string ⟨List.toArray p14⟩)), (3, (.int .i64 p15)), (9, (.bool z20)), (10, (pt g36 0)), (13, (.int .i64 v82)), (14, (.int .i64 v823)), (15, (.int .i64 v490))]) hk]
             exact ⟨v818, v823, ⟨K, K, K, K, K, K, K, K, trivial⟩, SP.sel hs825 [0] rfl rfl, H⟩
          ·have H := cf H hb810
           refine At.sq K ?_
           refine At.region K K ?_
           refine In.run' 1 (k' := 1) rfl [(85, (pt g699 0))] K ?_
           refine In.step (k' := 2) rfl K ?_
           refine Step.load (t := 3) (x := (.tmp 85)) (g := g699) (off := 0) (i := 1) (v := (.int .i64 x690.1)) (d := (some 86)) (k := 1) K rfl K hs709 rfl K ?_
           refine In.run' 1 (k' := 3) rfl [(87, (.bool (x690.1 != 3)))] K ?_
           refine In.fin K ?_
           refine At.join (fun ρ w => ∃ (v858 : (List (List Int))) (v859 : Int), Known ρ [(1, (.slice A11 (List.length p10) c12)), (2, (.string ⟨List.toArray p14⟩)), (3, (.int .i64 p15)), (9, (.bool z20)), (10, (pt g36 0)), (13, (.int .i64 v82)), (14, (.int .i64 v859)), (15, (.int .i64 v490))] ∧ SP [] w0 w [gateE g36 F37 d9 v858] ∧ L_subwaylaw11_GateCounts_k70 (L_subwaylaw11_GateCounts_l38 (List.map stT d9) p10 p14 p15 z20 v82 f55) (List.map stT d9) p14 p15 v82 v490 v858 v859 = some r) ?_ ?_
           ·refine At.cd K (o := (.tmp 87)) K (b := (x690.1 != 3)) K (fun hb862 => ?_) (fun hb862 => ?_)
            ·have H := ct H hb862
             refine At.sq K ?_
             refine At.join (fun ρ w => ∃ (v870 : (List (List Int))) (v871 : Bool), Known ρ [(1, (.slice A11 (List.length p10) c12)), (2, (.string ⟨List.toArray p14⟩)), (3, (.int .i64 p15)), (9, (.bool z20)), (10, (pt g36 0)), (13, (.int .i64 v82)), (14, (.int .i64 v489)), (15, (.int .i64 v490)), (97, (.bool v871))] ∧ SP [] w0 w [gateE g36 F37 d9 v870] ∧ L_subwaylaw11_GateCounts_k71 (L_subwaylaw11_GateCounts_l38 (List.map stT d9) p10 p14 p15 z20 v82 f55) (List.map stT d9) p14 p15 v82 v489 v490 v870 v871 = some r) ?_ ?_
             ·refine At.region K K ?_
              refine In.run' 2 (k' := 2) rfl [(88, (pt g36 0)), (89, (pt g699 1))] K ?_
              refine In.step (k' := 3) rfl K ?_
              refine Step.load (t := 9) (x := (.tmp 89)) (g := g699) (off := 1) (i := 1) (v := (.string ⟨List.toArray x690.2.1⟩)) (d := (some 90)) (k := 2) K rfl K hs709 rfl K ?_
              refine In.run' 1 (k' := 4) rfl [(91, (pt g699 2))] K ?_
              refine In.step (k' := 5) rfl K ?_
              refine Step.load (t := 3) (x := (.tmp 91)) (g := g699) (off := 2) (i := 1) (v := (.int .i64 x690.2.2.1)) (d := (some 92)) (k := 4) K rfl K hs709 rfl K ?_
              obtain ⟨z879, hz880, H⟩ := bind_elim H
              refine In.step (k' := 6) rfl K ?_
              refine Step.callF (f := 18) (fo := (.func 18)) (xs := #[(.tmp 88), (.tmp 90), (.tmp 92)]) (tys := #[29, 9, 3]) (first := #[]) (captured := #[]) (d := (some 93)) (k := 5) K rfl K K Tryd.call18 (L_gate_Gate_Take_walk g36 A6 c7 F37 d9 v488 x690.2.1 x690.2.2.1 w708 (SP.sub hs709 [0] rfl rfl) (fun w hm => Dp.mono _ (SP.below_of hs709 (l := [0]) rfl hm) hr8) z879 hz880) ?_
              rintro e w881 ⟨rfl, hs882⟩
              refine ⟨_, rfl, ?_⟩
              have hs884 : SP [] w0 w881 [boxE g699 35 #[(.int .i64 x690.1), (.string ⟨List.toArray x690.2.1⟩), (.int .i64 x690.2.2.1), (.int .u32 x690.2.2.2)], gateE g36 F37 d9 z879.2] := SP.callS hs709 [0] [1] rfl rfl hs882 rfl
              clear hs882
              refine In.run' 2 (k' := 8) rfl [(94, (.bool (z879.1 == 0))), (95, (.bool (z879.1 == 0)))] K ?_
              refine In.guard (t := 95) (b := (z879.1 == 0)) K (fun hb885 => ?_) (fun hb885 => ?_)
              ·have H := ct H hb885
               refine In.run' 2 (k' := 10) rfl [(96, (.bool v707)), (97, (.bool v707))] K ?_
               refine In.fin K ?_
               exact ⟨z879.2, v707, ⟨K, K, K, K, K, K, K, K, K, trivial⟩, SP.sel hs884 [1] rfl rfl, H⟩
              ·have H := cf H hb885
               refine In.run' 2 (k' := 10) rfl [(96, undef), (97, (.bool false))] K ?_
               refine In.fin K ?_
               exact ⟨z879.2, false, ⟨K, K, K, K, K, K, K, K, K, trivial⟩, SP.sel hs884 [1] rfl rfl, H⟩
             ·rintro ρ w872 ⟨v870, v871, hk, hs873, H⟩
              unfold L_subwaylaw11_GateCounts_k71 at H
              first | refine At.known [(1, (.slice A11 (List.length p10) c12)), (2, (.string ⟨List.toArray p14⟩)), (3, (.int .i64 p15)), (9, (.bool z20)), (10, (pt g36 0)), (13, (.int .i64 v82)), (14, (.int .i64 v489)), (15, (.int .i64 v490)), (97, (.bool v871))] hk ?_ | rw [← known_updL (l := [(1, (.slice A11 (List.length p10) c12)), (2, (.string ⟨List.toArray p14⟩)), (3, (.int .i64 p15)), (9, (.bool z20)), (10, (pt g36 0)), (13, (.int .i64 v82)), (14, (.int .i64 v489)), (15, (.int .i64 v490)), (97, (.bool v871))]) hk]
              refine At.join (fun ρ w => ∃ (v875 : Int), Known ρ [(1, (.slice A11 (List.length p10) c12)), (2, (.string ⟨List.toArray p14⟩)), (3, (.int .i64 p15)), (9, (.bool z20)), (10, (pt g36 0)), (13, (.int .i64 v82)), (14, (.int .i64 v875)), (15, (.int .i64 v490))] ∧ SP [] w0 w [gateE g36 F37 d9 v870] ∧ L_subwaylaw11_GateCounts_k72 (L_subwaylaw11_GateCounts_l38 (List.map stT d9) p10 p14 p15 z20 v82 f55) (List.map stT d9) p14 p15 v82 v490 v870 v875 = some r) ?_ ?_
              ·refine At.cd K (o := (.tmp 97)) K (b := v871) K (fun hb878 => ?_) (fun hb878 => ?_)
               ·have H := ct H hb878
                refine At.region K K ?_
                refine In.run' 3 (k' := 3) rfl [(98, (.int .i64 v489)), (99, (.int .i64 (IntKind.wrap .i64 (v489 + 1)))), (14, (.int .i64 (IntKind.wrap .i64 (v489 + 1))))] K ?_
                refine In.fin K ?_
                exact ⟨(IntKind.wrap .i64 (v489 + 1)), ⟨K, K, K, K, K, K, K, K, trivial⟩, SP.sel hs873 [0] rfl rfl, H⟩
               ·have H := cf H hb878
                refine At.skip K ?_
                exact ⟨v489, ⟨K, K, K, K, K, K, K, K, trivial⟩, SP.sel hs873 [0] rfl rfl, H⟩
              ·rintro ρ w876 ⟨v875, hk, hs877, H⟩
               unfold L_subwaylaw11_GateCounts_k72 at H
               first | refine At.known [(1, (.slice A11 (List.length p10) c12)), (2, (.string ⟨List.toArray p14⟩)), (3, (.int .i64 p15)), (9, (.bool z20)), (10, (pt g36 0)), (13, (.int .i64 v82)), (14, (.int .i64 v875)), (15, (.int .i64 v490))] hk ?_ | rw [← known_updL (l := [(1, (.slice A11 (List.length p10) c12)), (2, (.string ⟨List.toArray p14⟩)), (3, (.int .i64 p15)), (9, (.bool z20)), (10, (pt g36 0)), (13, (.int .i64 v82)), (14, (.int .i64 v875)), (15, (.int .i64 v490))]) hk]
               exact ⟨v870, v875, ⟨K, K, K, K, K, K, K, K, trivial⟩, SP.sel hs877 [0] rfl rfl, H⟩
            ·have H := cf H hb862
             refine At.skip K ?_
             exact ⟨v488, v489, ⟨K, K, K, K, K, K, K, K, trivial⟩, SP.sel hs709 [0] rfl rfl, H⟩
           ·rintro ρ w860 ⟨v858, v859, hk, hs861, H⟩
            unfold L_subwaylaw11_GateCounts_k70 at H
            first | refine At.known [(1, (.slice A11 (List.length p10) c12)), (2, (.string ⟨List.toArray p14⟩)), (3, (.int .i64 p15)), (9, (.bool z20)), (10, (pt g36 0)), (13, (.int .i64 v82)), (14, (.int .i64 v859)), (15, (.int .i64 v490))] hk ?_ | rw [← known_updL (l := [(1, (.slice A11 (List.length p10) c12)), (2, (.string ⟨List.toArray p14⟩)), (3, (.int .i64 p15)), (9, (.bool z20)), (10, (pt g36 0)), (13, (.int .i64 v82)), (14, (.int .i64 v859)), (15, (.int .i64 v490))]) hk]
            exact ⟨v858, v859, ⟨K, K, K, K, K, K, K, K, trivial⟩, SP.sel hs861 [0] rfl rfl, H⟩
         ·rintro ρ w788 ⟨v786, v787, hk, hs789, H⟩
          unfold L_subwaylaw11_GateCounts_k64 at H
          first | refine At.known [(1, (.slice A11 (List.length p10) c12)), (2, (.string ⟨List.toArray p14⟩)), (3, (.int .i64 p15)), (9, (.bool z20)), (10, (pt g36 0)), (13, (.int .i64 v82)), (14, (.int .i64 v787)), (15, (.int .i64 v490))] hk ?_ | rw [← known_updL (l := [(1, (.slice A11 (List.length p10) c12)), (2, (.string ⟨List.toArray p14⟩)), (3, (.int .i64 p15)), (9, (.bool z20)), (10, (pt g36 0)), (13, (.int .i64 v82)), (14, (.int .i64 v787)), (15, (.int .i64 v490))]) hk]
          refine At.sq K ?_
          refine At.join (fun ρ w => ∃ (v798 : Bool), Known ρ [(1, (.slice A11 (List.length p10) c12)), (2, (.string ⟨List.toArray p14⟩)), (3, (.int .i64 p15)), (9, (.bool z20)), (10, (pt g36 0)), (13, (.int .i64 v82)), (14, (.int .i64 v787)), (15, (.int .i64 v490)), (114, (.bool v798))] ∧ SP [] w0 w [gateE g36 F37 d9 v786] ∧ L_subwaylaw11_GateCounts_k65 (L_subwaylaw11_GateCounts_l38 (List.map stT d9) p10 p14 p15 z20 v82 f55) v490 v786 v787 v798 = some r) ?_ ?_
          ·refine At.region K K ?_
           refine In.run' 3 (k' := 3) rfl [(100, (pt g36 0)), (101, (.string ⟨List.toArray p14⟩)), (102, (.int .i64 p15))] K ?_
           obtain ⟨z802, hz803, H⟩ := bind_elim H
           refine In.step (k' := 4) rfl K ?_
           refine Step.callF (f := 20) (fo := (.func 20)) (xs := #[(.tmp 100), (.tmp 101), (.tmp 102)]) (tys := #[29, 9, 3]) (first := #[]) (captured := #[]) (d := (some 103)) (k := 3) K rfl K K Tryd.call20 (L_gate_Gate_Used_walk g36 A6 c7 F37 d9 v786 p14 p15 w788 (SP.sub hs789 [0] rfl rfl) (fun w hm => Dp.mono _ (SP.below_of hs789 (l := [0]) rfl hm) hr8) z802 hz803) ?_
           rintro e w804 ⟨rfl, hs805⟩
           refine ⟨_, rfl, ?_⟩
           have hs807 : SP [] w0 w804 [gateE g36 F37 d9 v786] := SP.callS hs789 [0] [] rfl rfl hs805 rfl
           clear hs805
           refine In.run' 3 (k' := 7) rfl [(104, (.int .i64 v787)), (105, (.bool (z802 != v787))), (106, (.bool (z802 != v787)))] K ?_
           refine In.guard (t := 106) (b := (z802 != v787)) K (fun hb808 => ?_) (fun hb808 => ?_)
           ·have H := ct H hb808
            refine In.run' 8 (k' := 15) rfl [(107, undef), (108, undef), (109, (.bool true)), (110, (.bool true)), (111, undef), (112, undef), (113, undef), (114, (.bool true))] K ?_
            refine In.fin K ?_
            exact ⟨true, ⟨K, K, K, K, K, K, K, K, K, trivial⟩, SP.sel hs807 [0] rfl rfl, H⟩
           ·have H := cf H hb808
            refine In.run' 4 (k' := 11) rfl [(107, (.int .i64 v787)), (108, (.bool (decide (v787 < 0)))), (109, (.bool (decide (v787 < 0)))), (110, (.bool (decide (v787 < 0))))] K ?_
            refine In.guard (t := 110) (b := (decide (v787 < 0))) K (fun hb809 => ?_) (fun hb809 => ?_)
            ·have H := ct H hb809
             refine In.run' 4 (k' := 15) rfl [(111, undef), (112, undef), (113, undef), (114, (.bool true))] K ?_
             refine In.fin K ?_
             exact ⟨true, ⟨K, K, K, K, K, K, K, K, K, trivial⟩, SP.sel hs807 [0] rfl rfl, H⟩
            ·have H := cf H hb809
             refine In.run' 4 (k' := 15) rfl [(111, (.int .i64 v787)), (112, (.int .i64 v82)), (113, (.bool (decide (v787 > v82)))), (114, (.bool (decide (v787 > v82))))] K ?_
             refine In.fin K ?_
             exact ⟨(decide (v787 > v82)), ⟨K, K, K, K, K, K, K, K, K, trivial⟩, SP.sel hs807 [0] rfl rfl, H⟩
          ·rintro ρ w799 ⟨v798, hk, hs800, H⟩
           unfold L_subwaylaw11_GateCounts_k65 at H
           first | refine At.known [(1, (.slice A11 (List.length p10) c12)), (2, (.string ⟨List.toArray p14⟩)), (3, (.int .i64 p15)), (9, (.bool z20)), (10, (pt g36 0)), (13, (.int .i64 v82)), (14, (.int .i64 v787)), (15, (.int .i64 v490)), (114, (.bool v798))] hk ?_ | rw [← known_updL (l := [(1, (.slice A11 (List.length p10) c12)), (2, (.string ⟨List.toArray p14⟩)), (3, (.int .i64 p15)), (9, (.bool z20)), (10, (pt g36 0)), (13, (.int .i64 v82)), (14, (.int .i64 v787)), (15, (.int .i64 v490)), (114, (.bool v798))]) hk]
           refine At.cd K (o := (.tmp 114)) K (b := v798) K (fun hb801 => ?_) (fun hb801 => ?_)
           ·have H := ct H hb801
            refine At.sq K ?_
            refine At.region K K ?_
            refine In.run' 1 (k' := 1) rfl [(8, (.bool false))] K ?_
            refine In.fin K ?_
            refine At.ret K ?_
            refine ⟨(.bool false), K, ?_⟩
            obtain rfl := some_elim H
            exact ⟨rfl, SP.sel hs800 [] rfl rfl⟩
           ·have H := cf H hb801
            refine At.skip K ?_
            refine At.region K K ?_
            refine In.run' 3 (k' := 3) rfl [(55, (.int .i64 v490)), (56, (.int .i64 (IntKind.wrap .i64 (v490 + 1)))), (15, (.int .i64 (IntKind.wrap .i64 (v490 + 1))))] K ?_
            refine In.fin K ?_
            exact ⟨v786, v787, (IntKind.wrap .i64 (v490 + 1)), ⟨K, K, K, K, K, K, K, K, trivial⟩, SP.sel hs800 [0] rfl rfl, H⟩
       ·have H := cf H hb689
        refine At.exit K (id := 0) K ?_
        refine At.sq K ?_
        refine At.region K K ?_
        refine In.run' 2 (k' := 2) rfl [(115, (.bool z20)), (8, (.bool z20))] K ?_
        refine In.fin K ?_
        refine At.ret K ?_
        refine ⟨(.bool z20), K, ?_⟩
        obtain rfl := some_elim H
        exact ⟨rfl, SP.sel hs487 [] rfl rfl⟩
      ·exact ⟨o28, 0, 0, ⟨K, K, K, K, K, K, K, K, trivial⟩, SP.sel hs84 [0] rfl rfl, H⟩
end Go.Proofs.YtfffjaijflbeaaaDoor
