/- LIFTED BY PROGRAM (tools/lift.py): what functions compute, and that they do. -/
import Derived.Test.YtfffjaijflbeaaaDoorLGH
namespace Go.Proofs.YtfffjaijflbeaaaDoor
set_option linter.unusedSimpArgs false
set_option linter.unusedVariables false
open Go.RowKit

/-! L_subwaylaw11_GateFill -/
def L_subwaylaw11_GateFill_k38 (rec36 : (List (List Int)) → Int → Int → Option (Bool)) (v421 : Int) (z593 : (Int × (List (List Int)))) (v600 : Int) (v609 : Bool) : Option (Bool) :=
  (cond v609 (some (false)) (rec36 z593.2 v600 (IntKind.wrap .i64 (v421 + 1))))
def L_subwaylaw11_GateFill_k37 (rec36 : (List (List Int)) → Int → Int → Option (Bool)) (z49 : ((List UInt8) × Int × Int × (List (Int × Int)) × (List ((List UInt8) × (List UInt8) × Int)) × Bool)) (v69 : Int) (v421 : Int) (z593 : (Int × (List (List Int)))) (v600 : Int) : Option (Bool) :=
  (cond (!z49.2.2.2.2.2) (cond (z593.1 != 3) (L_subwaylaw11_GateFill_k38 rec36 v421 z593 v600 true) (cond z49.2.2.2.2.2 (cond (decide (v600 ≤ v69)) (L_subwaylaw11_GateFill_k38 rec36 v421 z593 v600 (!((z593.1 == 0) == (decide (v421 < v69))))) (L_subwaylaw11_GateFill_k38 rec36 v421 z593 v600 (!((z593.1 == 0) == false)))) (L_subwaylaw11_GateFill_k38 rec36 v421 z593 v600 false))) (cond z49.2.2.2.2.2 (cond (decide (v600 ≤ v69)) (L_subwaylaw11_GateFill_k38 rec36 v421 z593 v600 (!((z593.1 == 0) == (decide (v421 < v69))))) (L_subwaylaw11_GateFill_k38 rec36 v421 z593 v600 (!((z593.1 == 0) == false)))) (L_subwaylaw11_GateFill_k38 rec36 v421 z593 v600 false)))
def L_subwaylaw11_GateFill_k46 (rec36 : (List (List Int)) → Int → Int → Option (Bool)) (rec45 : (List (List Int)) → Int → Int → Option (Bool)) (v695 : Int) (z730 : (Bool × (List (List Int)))) (v737 : Int) : Option (Bool) :=
  (rec45 z730.2 v737 (IntKind.wrap .i64 (v695 + 1)))
def L_subwaylaw11_GateFill_k47 (rec36 : (List (List Int)) → Int → Int → Option (Bool)) (rec45 : (List (List Int)) → Int → Int → Option (Bool)) (v750 : Bool) : Option (Bool) :=
  (some (v750))
def L_subwaylaw11_GateFill_b43 (rec36 : (List (List Int)) → Int → Int → Option (Bool)) (rec45 : (List (List Int)) → Int → Int → Option (Bool)) (pTenants5 : (List TenantL)) (p10 : (List UInt8)) (p11 : Int) (z16 : (Bool)) (v69 : Int) (v420 : Int) (v693 : (List (List Int))) (v694 : Int) (v695 : Int) : Option (Bool) :=
  (cond (decide (v695 < 20)) ((L_gate_Gate_Give pTenants5 v693 p10 p11).bind fun z730 => (cond z730.1 (L_subwaylaw11_GateFill_k46 rec36 rec45 v695 z730 (IntKind.wrap .i64 (v694 + 1))) (L_subwaylaw11_GateFill_k46 rec36 rec45 v695 z730 v694))) (cond z16 (cond (v420 == v69) (cond (v694 == v420) ((L_gate_Gate_Used pTenants5 v693 p10 p11).bind fun z756 => (L_subwaylaw11_GateFill_k47 rec36 rec45 (z756 == 0))) (L_subwaylaw11_GateFill_k47 rec36 rec45 false)) (L_subwaylaw11_GateFill_k47 rec36 rec45 false)) (L_subwaylaw11_GateFill_k47 rec36 rec45 false)))
def L_subwaylaw11_GateFill_l43 (rec36 : (List (List Int)) → Int → Int → Option (Bool)) (pTenants5 : (List TenantL)) (p10 : (List UInt8)) (p11 : Int) (z16 : (Bool)) (v69 : Int) (v420 : Int) : Nat → (List (List Int)) → Int → Int → Option (Bool)
  | 0, _, _, _ => none
  | f + 1, v693, v694, v695 => L_subwaylaw11_GateFill_b43 rec36 (L_subwaylaw11_GateFill_l43 rec36 pTenants5 p10 p11 z16 v69 v420 f) pTenants5 p10 p11 z16 v69 v420 v693 v694 v695
def L_subwaylaw11_GateFill_b25 (rec36 : (List (List Int)) → Int → Int → Option (Bool)) (pTenants5 : (List TenantL)) (p10 : (List UInt8)) (p11 : Int) (z16 : (Bool)) (z49 : ((List UInt8) × Int × Int × (List (Int × Int)) × (List ((List UInt8) × (List UInt8) × Int)) × Bool)) (v69 : Int) (v419 : (List (List Int))) (v420 : Int) (v421 : Int) : Option (Bool) :=
  (cond (decide (v421 < 20)) ((L_gate_Gate_Take pTenants5 v419 p10 p11).bind fun z593 => (cond (z593.1 == 0) (L_subwaylaw11_GateFill_k37 rec36 z49 v69 v421 z593 (IntKind.wrap .i64 (v420 + 1))) (L_subwaylaw11_GateFill_k37 rec36 z49 v69 v421 z593 v420))) (L_subwaylaw11_GateFill_l43 rec36 pTenants5 p10 p11 z16 v69 v420 fuel v419 0 0))
def L_subwaylaw11_GateFill_l25 (pTenants5 : (List TenantL)) (p10 : (List UInt8)) (p11 : Int) (z16 : (Bool)) (z49 : ((List UInt8) × Int × Int × (List (Int × Int)) × (List ((List UInt8) × (List UInt8) × Int)) × Bool)) (v69 : Int) : Nat → (List (List Int)) → Int → Int → Option (Bool)
  | 0, _, _, _ => none
  | f + 1, v419, v420, v421 => L_subwaylaw11_GateFill_b25  (L_subwaylaw11_GateFill_l25 pTenants5 p10 p11 z16 z49 v69 f) pTenants5 p10 p11 z16 z49 v69 v419 v420 v421
def L_subwaylaw11_GateFill_k2 (pTenants5 : (List TenantL)) (p10 : (List UInt8)) (p11 : Int) (z16 : (Bool)) (o24 : ((List (List Int)))) (z49 : ((List UInt8) × Int × Int × (List (Int × Int)) × (List ((List UInt8) × (List UInt8) × Int)) × Bool)) (v69 : Int) : Option (Bool) :=
  (L_subwaylaw11_GateFill_l25 pTenants5 p10 p11 z16 z49 v69 fuel o24 0 0)
def L_subwaylaw11_GateFill_k1 (pWait1 : Int) (pGrace2 : Int) (pIdle3 : Int) (pLease4 : Int) (pTenants5 : (List TenantL)) (p10 : (List UInt8)) (p11 : Int) (z16 : (Bool)) (o24 : ((List (List Int)))) (v45 : Bool) : Option (Bool) :=
  (cond v45 (some (z16)) ((L_subwayref09_Find pWait1 pGrace2 pIdle3 pLease4 pTenants5 p10).bind fun z49 => (cond (p11 == 2) (L_subwaylaw11_GateFill_k2 pTenants5 p10 p11 z16 o24 z49 z49.2.2.1) (L_subwaylaw11_GateFill_k2 pTenants5 p10 p11 z16 o24 z49 z49.2.1))))
def L_subwaylaw11_GateFill (pWait1 : Int) (pGrace2 : Int) (pIdle3 : Int) (pLease4 : Int) (pTenants5 : (List TenantL)) (p10 : (List UInt8)) (p11 : Int) : Option (Bool) :=
  ((L_subwaylaw11_head ).bind fun z16 => ((L_gate_New pWait1 pGrace2 pIdle3 pLease4 pTenants5).bind fun z22 => (optE z22 (some (z16)) (fun o24 => ((L_subwaylaw09_Great pWait1 pGrace2 pIdle3 pLease4 pTenants5).bind fun z763 => (cond z763 (L_subwaylaw11_GateFill_k1 pWait1 pGrace2 pIdle3 pLease4 pTenants5 p10 p11 z16 o24 true) (cond (decide (((List.length p10 : Nat) : Int) > 1000)) (L_subwaylaw11_GateFill_k1 pWait1 pGrace2 pIdle3 pLease4 pTenants5 p10 p11 z16 o24 true) (cond (p11 != 1) (L_subwaylaw11_GateFill_k1 pWait1 pGrace2 pIdle3 pLease4 pTenants5 p10 p11 z16 o24 (p11 != 2)) (L_subwaylaw11_GateFill_k1 pWait1 pGrace2 pIdle3 pLease4 pTenants5 p10 p11 z16 o24 false)))))))))
set_option maxRecDepth 100000 in
set_option maxHeartbeats 4000000 in
theorem L_subwaylaw11_GateFill_walk (A6 : Option Addr) (c7 : Nat) (pWait1 : Int) (pGrace2 : Int) (pIdle3 : Int) (pLease4 : Int) (d9 : (List TenantD)) (p10 : (List UInt8)) (p11 : Int) (w0 : World) (hL : LaidW w0) (hr8 : (dDS eTen dTen).ok w0 (A6, c7, d9)) (r : (Bool)) (H : L_subwaylaw11_GateFill pWait1 pGrace2 pIdle3 pLease4 (List.map stT d9) p10 p11 = some r) :
  Calls Tryd.prog 7 #[(.agg #[(.int .i64 pWait1), (.int .i64 pGrace2), (.int .i64 pIdle3), (.int .i64 pLease4), (.slice A6 (List.length (List.map stT d9)) c7)]), (.string ⟨List.toArray p10⟩), (.int .i64 p11)] w0 (fun e w' => e = .returned (.bool r) ∧ SP [] w0 w' []) := by
 unfold L_subwaylaw11_GateFill at H
 refine calls_go (n := 114) Tryd.func7 K K K ?_
 have hs0 := SP.start [] w0
 refine At.sq K ?_
 refine At.region K K ?_
 refine In.step (k' := 1) rfl K ?_
 refine Step.box (t := 24) (x := (.tmp 0)) (v := (.agg #[(.int .i64 pWait1), (.int .i64 pGrace2), (.int .i64 pIdle3), (.int .i64 pLease4), (.slice A6 (List.length (List.map stT d9)) c7)])) (d := (some 3)) (k := 0) K rfl K hs0 ?_
 intro g12 w13 (hs15 : SP [] w0 w13 [boxE g12 24 #[(.int .i64 pWait1), (.int .i64 pGrace2), (.int .i64 pIdle3), (.int .i64 pLease4), (.slice A6 (List.length (List.map stT d9)) c7)]])
 refine In.run' 1 (k' := 2) rfl [(6, (.bool false))] K ?_
 refine In.fin K ?_
 refine At.sq K ?_
 refine At.region K K ?_
 obtain ⟨z16, hz17, H⟩ := bind_elim H
 refine In.step (k' := 1) rfl K ?_
 refine Step.callF (f := 9) (fo := (.func 9)) (xs := #[]) (tys := #[]) (first := #[]) (captured := #[]) (d := (some 17)) (k := 0) K rfl K K Tryd.call9 (L_subwaylaw11_head_walk   w13 (laid_below hL (SP.keeps hs15)) z16 hz17) ?_
 rintro e w18 ⟨rfl, hs19⟩
 refine ⟨_, rfl, ?_⟩
 have hs21 : SP [] w0 w18 [boxE g12 24 #[(.int .i64 pWait1), (.int .i64 pGrace2), (.int .i64 pIdle3), (.int .i64 pLease4), (.slice A6 (List.length (List.map stT d9)) c7)]] := SP.call hs15 hs19
 clear hs19
 refine In.run' 1 (k' := 2) rfl [(7, (.bool z16))] K ?_
 refine In.fin K ?_
 refine At.sq K ?_
 refine At.region K K ?_
 refine In.step (k' := 1) rfl K ?_
 refine Step.load (t := 24) (x := (.tmp 3)) (g := g12) (off := 0) (i := 0) (v := (.agg #[(.int .i64 pWait1), (.int .i64 pGrace2), (.int .i64 pIdle3), (.int .i64 pLease4), (.slice A6 (List.length (List.map stT d9)) c7)])) (d := (some 18)) (k := 0) K rfl K hs21 rfl K ?_
 obtain ⟨z22, hz23, H⟩ := bind_elim H
 rcases z22 with _ | o24
 ·have H := optN H
  refine In.step (k' := 2) rfl K ?_
  refine Step.callF (f := 12) (fo := (.func 12)) (xs := #[(.tmp 18)]) (tys := #[24]) (first := #[]) (captured := #[]) (d := (some 19)) (k := 1) K rfl K K Tryd.call12 (L_gate_New_walk A6 c7 pWait1 pGrace2 pIdle3 pLease4 d9 w18 (laid_below hL (SP.keeps hs21)) (Dp.sp hr8 hs21) none hz23) ?_
  rintro e w25 ⟨rfl, hs26⟩
  refine ⟨_, rfl, ?_⟩
  have hs28 : SP [] w0 w25 [boxE g12 24 #[(.int .i64 pWait1), (.int .i64 pGrace2), (.int .i64 pIdle3), (.int .i64 pLease4), (.slice A6 (List.length (List.map stT d9)) c7)]] := SP.call hs21 hs26
  clear hs26
  refine In.run' 1 (k' := 3) rfl [(8, (.pointer none))] K ?_
  refine In.fin K ?_
  refine At.sq K ?_
  refine At.sq K ?_
  refine At.region K K ?_
  refine In.run' 19 (k' := 19) rfl [(20, (.pointer none)), (21, (.bool true)), (22, (.bool true)), (23, undef), (24, undef), (25, (.bool true)), (26, (.bool true)), (27, undef), (28, undef), (29, undef), (30, (.bool true)), (31, (.bool true)), (32, undef), (33, undef), (34, undef), (35, undef), (36, undef), (37, undef), (38, (.bool true))] K ?_
  refine In.fin K ?_
  refine At.cd K (o := (.tmp 38)) K (b := true) K (fun hb29 => ?_) (fun hb29 => ?_)
  rotate_left
  ·cases hb29
  refine At.sq K ?_
  refine At.region K K ?_
  refine In.run' 2 (k' := 2) rfl [(39, (.bool z16)), (6, (.bool z16))] K ?_
  refine In.fin K ?_
  refine At.ret K ?_
  refine ⟨(.bool z16), K, ?_⟩
  obtain rfl := some_elim H
  exact ⟨rfl, SP.sel hs28 [] rfl rfl⟩
 ·have H := optS H
  refine In.step (k' := 2) rfl K ?_
  refine Step.callF (f := 12) (fo := (.func 12)) (xs := #[(.tmp 18)]) (tys := #[24]) (first := #[]) (captured := #[]) (d := (some 19)) (k := 1) K rfl K K Tryd.call12 (L_gate_New_walk A6 c7 pWait1 pGrace2 pIdle3 pLease4 d9 w18 (laid_below hL (SP.keeps hs21)) (Dp.sp hr8 hs21) (some o24) hz23) ?_
  rintro e w30 ⟨g32, F33, rfl, hs31⟩
  refine ⟨_, rfl, ?_⟩
  have hs35 : SP [] w0 w30 [boxE g12 24 #[(.int .i64 pWait1), (.int .i64 pGrace2), (.int .i64 pIdle3), (.int .i64 pLease4), (.slice A6 (List.length (List.map stT d9)) c7)], gateE g32 F33 d9 o24] := SP.call hs21 hs31
  clear hs31
  refine In.run' 1 (k' := 3) rfl [(8, (pt g32 0))] K ?_
  refine In.fin K ?_
  refine At.sq K ?_
  refine At.sq K ?_
  refine At.join (fun ρ w => ∃ (v45 : Bool), Known ρ [(1, (.string ⟨List.toArray p10⟩)), (2, (.int .i64 p11)), (3, (pt g12 0)), (7, (.bool z16)), (8, (pt g32 0)), (38, (.bool v45))] ∧ SP [] w0 w [boxE g12 24 #[(.int .i64 pWait1), (.int .i64 pGrace2), (.int .i64 pIdle3), (.int .i64 pLease4), (.slice A6 (List.length (List.map stT d9)) c7)], gateE g32 F33 d9 o24] ∧ L_subwaylaw11_GateFill_k1 pWait1 pGrace2 pIdle3 pLease4 (List.map stT d9) p10 p11 z16 o24 v45 = some r) ?_ ?_
  ·refine At.region K K ?_
   refine In.run' 3 (k' := 3) rfl [(20, (pt g32 0)), (21, (.bool false)), (22, (.bool false))] K ?_
   refine In.step (k' := 4) rfl K ?_
   refine Step.load (t := 24) (x := (.tmp 3)) (g := g12) (off := 0) (i := 0) (v := (.agg #[(.int .i64 pWait1), (.int .i64 pGrace2), (.int .i64 pIdle3), (.int .i64 pLease4), (.slice A6 (List.length (List.map stT d9)) c7)])) (d := (some 23)) (k := 3) K rfl K hs35 rfl K ?_
   obtain ⟨z763, hz764, H⟩ := bind_elim H
   refine In.step (k' := 5) rfl K ?_
   refine Step.callF (f := 10) (fo := (.func 10)) (xs := #[(.tmp 23)]) (tys := #[24]) (first := #[]) (captured := #[]) (d := (some 24)) (k := 4) K rfl K K Tryd.call10 (L_subwaylaw09_Great_walk A6 c7 pWait1 pGrace2 pIdle3 pLease4 d9 w30 (Dp.sp hr8 hs35) z763 hz764) ?_
   rintro e w765 ⟨rfl, hs766⟩
   refine ⟨_, rfl, ?_⟩
   have hs768 : SP [] w0 w765 [boxE g12 24 #[(.int .i64 pWait1), (.int .i64 pGrace2), (.int .i64 pIdle3), (.int .i64 pLease4), (.slice A6 (List.length (List.map stT d9)) c7)], gateE g32 F33 d9 o24] := SP.call hs35 hs766
   clear hs766
   refine In.run' 2 (k' := 7) rfl [(25, (.bool z763)), (26, (.bool z763))] K ?_
   refine In.guard (t := 26) (b := z763) K (fun hb769 => ?_) (fun hb769 => ?_)
   ·have H := ct H hb769
    refine In.run' 12 (k' := 19) rfl [(27, undef), (28, undef), (29, undef), (30, (.bool true)), (31, (.bool true)), (32, undef), (33, undef), (34, undef), (35, undef), (36, undef), (37, undef), (38, (.bool true))] K ?_
    refine In.fin K ?_
    exact ⟨true, ⟨K, K, K, K, K, K, trivial⟩, SP.sel hs768 [0, 1] rfl rfl, H⟩
   ·have H := cf H hb769
    refine In.run' 5 (k' := 12) rfl [(27, (.string ⟨List.toArray p10⟩)), (28, (.int .i64 ((List.length p10 : Nat) : Int))), (29, (.bool (decide (((List.length p10 : Nat) : Int) > 1000)))), (30, (.bool (decide (((List.length p10 : Nat) : Int) > 1000)))), (31, (.bool (decide (((List.length p10 : Nat) : Int) > 1000))))] K ?_
    refine In.guard (t := 31) (b := (decide (((List.length p10 : Nat) : Int) > 1000))) K (fun hb770 => ?_) (fun hb770 => ?_)
    ·have H := ct H hb770
     refine In.run' 7 (k' := 19) rfl [(32, undef), (33, undef), (34, undef), (35, undef), (36, undef), (37, undef), (38, (.bool true))] K ?_
     refine In.fin K ?_
     exact ⟨true, ⟨K, K, K, K, K, K, trivial⟩, SP.sel hs768 [0, 1] rfl rfl, H⟩
    ·have H := cf H hb770
     refine In.run' 3 (k' := 15) rfl [(32, (.int .i64 p11)), (33, (.bool (p11 != 1))), (34, (.bool (p11 != 1)))] K ?_
     refine In.guard (t := 34) (b := (p11 != 1)) K (fun hb771 => ?_) (fun hb771 => ?_)
     ·have H := ct H hb771
      refine In.run' 4 (k' := 19) rfl [(35, (.int .i64 p11)), (36, (.bool (p11 != 2))), (37, (.bool (p11 != 2))), (38, (.bool (p11 != 2)))] K ?_
      refine In.fin K ?_
      exact ⟨(p11 != 2), ⟨K, K, K, K, K, K, trivial⟩, SP.sel hs768 [0, 1] rfl rfl, H⟩
     ·have H := cf H hb771
      refine In.run' 4 (k' := 19) rfl [(35, undef), (36, undef), (37, (.bool false)), (38, (.bool false))] K ?_
      refine In.fin K ?_
      exact ⟨false, ⟨K, K, K, K, K, K, trivial⟩, SP.sel hs768 [0, 1] rfl rfl, H⟩
  ·rintro ρ w46 ⟨v45, hk, hs47, H⟩
   unfold L_subwaylaw11_GateFill_k1 at H
   first | refine At.known [(1, (.string ⟨List.toArray p10⟩)), (2, (.int .i64 p11)), (3, (pt g12 0)), (7, (.bool z16)), (8, (pt g32 0)), (38, (.bool v45))] hk ?_ | rw [← known_updL (l := [(1, (.string ⟨List.toArray p10⟩)), (2, (.int .i64 p11)), (3, (pt g12 0)), (7, (.bool z16)), (8, (pt g32 0)), (38, (.bool v45))]) hk]
   refine At.cd K (o := (.tmp 38)) K (b := v45) K (fun hb48 => ?_) (fun hb48 => ?_)
   ·have H := ct H hb48
    refine At.sq K ?_
    refine At.region K K ?_
    refine In.run' 2 (k' := 2) rfl [(39, (.bool z16)), (6, (.bool z16))] K ?_
    refine In.fin K ?_
    refine At.ret K ?_
    refine ⟨(.bool z16), K, ?_⟩
    obtain rfl := some_elim H
    exact ⟨rfl, SP.sel hs47 [] rfl rfl⟩
   ·have H := cf H hb48
    refine At.skip K ?_
    refine At.sq K ?_
    refine At.region K K ?_
    refine In.step (k' := 1) rfl K ?_
    refine Step.load (t := 24) (x := (.tmp 3)) (g := g12) (off := 0) (i := 0) (v := (.agg #[(.int .i64 pWait1), (.int .i64 pGrace2), (.int .i64 pIdle3), (.int .i64 pLease4), (.slice A6 (List.length (List.map stT d9)) c7)])) (d := (some 41)) (k := 0) K rfl K hs47 rfl K ?_
    refine In.run' 1 (k' := 2) rfl [(42, (.string ⟨List.toArray p10⟩))] K ?_
    obtain ⟨z49, hz50, H⟩ := bind_elim H
    refine In.step (k' := 3) rfl K ?_
    refine Step.callF (f := 22) (fo := (.func 22)) (xs := #[(.tmp 41), (.tmp 42)]) (tys := #[24, 9]) (first := #[]) (captured := #[]) (d := (some 43)) (k := 2) K rfl K K Tryd.call22 (L_subwayref09_Find_walk (R := fun w => Below w0.heap.size w0 w) A6 c7 pWait1 pGrace2 pIdle3 pLease4 d9 p10 w46 (fun w hb => keeps_then hs47 hb) (fun w hb => Dp.mono _ hb hr8) z49 hz50) ?_
    rintro e w51 ⟨A53, c54, A56, c57, rfl, hr55, hr58, hs52⟩
    refine ⟨_, rfl, ?_⟩
    have hs60 : SP [] w0 w51 [boxE g12 24 #[(.int .i64 pWait1), (.int .i64 pGrace2), (.int .i64 pIdle3), (.int .i64 pLease4), (.slice A6 (List.length (List.map stT d9)) c7)], gateE g32 F33 d9 o24] := SP.call hs47 hs52
    clear hs52
    refine In.run' 3 (k' := 6) rfl [(40, (.tuple #[(.agg #[(.string ⟨List.toArray z49.1⟩), (.int .i64 z49.2.1), (.int .i64 z49.2.2.1), (.slice A53 (List.length z49.2.2.2.1) c54), (.slice A56 (List.length z49.2.2.2.2.1) c57)]), (.bool z49.2.2.2.2.2)])), (44, (.agg #[(.string ⟨List.toArray z49.1⟩), (.int .i64 z49.2.1), (.int .i64 z49.2.2.1), (.slice A53 (List.length z49.2.2.2.1) c54), (.slice A56 (List.length z49.2.2.2.2.1) c57)])), (45, (.bool z49.2.2.2.2.2))] K ?_
    refine In.step (k' := 7) rfl K ?_
    refine Step.alloc (t := 45) (z := (.agg #[(.string ⟨List.toArray ([] : List UInt8)⟩), (.int .i64 0), (.int .i64 0), (.slice none (List.length ([] : List (Int × Int))) 0), (.slice none (List.length ([] : List ((List UInt8) × (List UInt8) × Int))) 0)])) (d := (some 9)) (k := 6) K rfl K hs60 ?_
    intro g61 w62 (hs64 : SP [] w0 w62 [boxE g12 24 #[(.int .i64 pWait1), (.int .i64 pGrace2), (.int .i64 pIdle3), (.int .i64 pLease4), (.slice A6 (List.length (List.map stT d9)) c7)], gateE g32 F33 d9 o24, boxE g61 45 #[(.string ⟨List.toArray ([] : List UInt8)⟩), (.int .i64 0), (.int .i64 0), (.slice none (List.length ([] : List (Int × Int))) 0), (.slice none (List.length ([] : List ((List UInt8) × (List UInt8) × Int))) 0)]])
    refine In.step (k' := 8) rfl K ?_
    refine Step.store (t := 45) (x := (.tmp 9)) (y := (.tmp 44)) (g := g61) (off := 0) (i := 2) (v := (.agg #[(.string ⟨List.toArray z49.1⟩), (.int .i64 z49.2.1), (.int .i64 z49.2.2.1), (.slice A53 (List.length z49.2.2.2.1) c54), (.slice A56 (List.length z49.2.2.2.2.1) c57)])) (cs' := #[(.string ⟨List.toArray z49.1⟩), (.int .i64 z49.2.1), (.int .i64 z49.2.2.1), (.slice A53 (List.length z49.2.2.2.1) c54), (.slice A56 (List.length z49.2.2.2.2.1) c57)]) (d := none) (k := 7) K rfl K K hs64 rfl K ?_
    intro w65 (hs67 : SP [] w0 w65 [boxE g12 24 #[(.int .i64 pWait1), (.int .i64 pGrace2), (.int .i64 pIdle3), (.int .i64 pLease4), (.slice A6 (List.length (List.map stT d9)) c7)], gateE g32 F33 d9 o24, boxE g61 45 #[(.string ⟨List.toArray z49.1⟩), (.int .i64 z49.2.1), (.int .i64 z49.2.2.1), (.slice A53 (List.length z49.2.2.2.1) c54), (.slice A56 (List.length z49.2.2.2.2.1) c57)]])
    refine In.run' 1 (k' := 9) rfl [(10, (.bool z49.2.2.2.2.2))] K ?_
    refine In.fin K ?_
    refine At.sq K ?_
    refine At.region K K ?_
    refine In.run' 1 (k' := 1) rfl [(46, (pt g61 1))] K ?_
    refine In.step (k' := 2) rfl K ?_
    refine Step.load (t := 3) (x := (.tmp 46)) (g := g61) (off := 1) (i := 2) (v := (.int .i64 z49.2.1)) (d := (some 47)) (k := 1) K rfl K hs67 rfl K ?_
    refine In.run' 1 (k' := 3) rfl [(11, (.int .i64 z49.2.1))] K ?_
    refine In.fin K ?_
    refine At.sq K ?_
    refine At.sq K ?_
    refine At.region K K ?_
    refine In.run' 2 (k' := 2) rfl [(48, (.int .i64 p11)), (49, (.bool (p11 == 2)))] K ?_
    refine In.fin K ?_
    refine At.join (fun ρ w => ∃ (v69 : Int), Known ρ [(1, (.string ⟨List.toArray p10⟩)), (2, (.int .i64 p11)), (7, (.bool z16)), (8, (pt g32 0)), (10, (.bool z49.2.2.2.2.2)), (11, (.int .i64 v69))] ∧ SP [] w0 w [gateE g32 F33 d9 o24] ∧ L_subwaylaw11_GateFill_k2 (List.map stT d9) p10 p11 z16 o24 z49 v69 = some r) ?_ ?_
    ·refine At.cd K (o := (.tmp 49)) K (b := (p11 == 2)) K (fun hb762 => ?_) (fun hb762 => ?_)
     ·have H := ct H hb762
      refine At.region K K ?_
      refine In.run' 1 (k' := 1) rfl [(50, (pt g61 2))] K ?_
      refine In.step (k' := 2) rfl K ?_
      refine Step.load (t := 3) (x := (.tmp 50)) (g := g61) (off := 2) (i := 2) (v := (.int .i64 z49.2.2.1)) (d := (some 51)) (k := 1) K rfl K hs67 rfl K ?_
      refine In.run' 1 (k' := 3) rfl [(11, (.int .i64 z49.2.2.1))] K ?_
      refine In.fin K ?_
      exact ⟨z49.2.2.1, ⟨K, K, K, K, K, K, trivial⟩, SP.sel hs67 [1] rfl rfl, H⟩
     ·have H := cf H hb762
      refine At.skip K ?_
      exact ⟨z49.2.1, ⟨K, K, K, K, K, K, trivial⟩, SP.sel hs67 [1] rfl rfl, H⟩
    ·rintro ρ w70 ⟨v69, hk, hs71, H⟩
     unfold L_subwaylaw11_GateFill_k2 at H
     first | refine At.known [(1, (.string ⟨List.toArray p10⟩)), (2, (.int .i64 p11)), (7, (.bool z16)), (8, (pt g32 0)), (10, (.bool z49.2.2.2.2.2)), (11, (.int .i64 v69))] hk ?_ | rw [← known_updL (l := [(1, (.string ⟨List.toArray p10⟩)), (2, (.int .i64 p11)), (7, (.bool z16)), (8, (pt g32 0)), (10, (.bool z49.2.2.2.2.2)), (11, (.int .i64 v69))]) hk]
     refine At.sq K ?_
     refine At.region K K ?_
     refine In.run' 1 (k' := 1) rfl [(12, (.int .i64 0))] K ?_
     refine In.fin K ?_
     refine At.sq K ?_
     refine At.sq K ?_
     refine At.region K K ?_
     refine In.run' 1 (k' := 1) rfl [(13, (.int .i64 0))] K ?_
     refine In.fin K ?_
     refine At.bk K (id := 0) K ?_
     refine At.lp K (fun f36 ρ w => ∃ (v419 : (List (List Int))) (v420 : Int) (v421 : Int), Known ρ [(1, (.string ⟨List.toArray p10⟩)), (2, (.int .i64 p11)), (7, (.bool z16)), (8, (pt g32 0)), (10, (.bool z49.2.2.2.2.2)), (11, (.int .i64 v69)), (12, (.int .i64 v420)), (13, (.int .i64 v421))] ∧ SP [] w0 w [gateE g32 F33 d9 v419] ∧ L_subwaylaw11_GateFill_l25 (List.map stT d9) p10 p11 z16 z49 v69 f36 v419 v420 v421 = some r) (by rintro ρ w ⟨v419, v420, v421, hk, hs, H⟩; cases H) ?_ fuel ?_
     ·rintro f36 ρ w417 ⟨v419, v420, v421, hk, hs418, H⟩
      refine At.known [(1, (.string ⟨List.toArray p10⟩)), (2, (.int .i64 p11)), (7, (.bool z16)), (8, (pt g32 0)), (10, (.bool z49.2.2.2.2.2)), (11, (.int .i64 v69)), (12, (.int .i64 v420)), (13, (.int .i64 v421))] hk ?_
      replace H := (show L_subwaylaw11_GateFill_b25 (L_subwaylaw11_GateFill_l25 (List.map stT d9) p10 p11 z16 z49 v69 f36) (List.map stT d9) p10 p11 z16 z49 v69 v419 v420 v421 = some r from H)
      unfold L_subwaylaw11_GateFill_b25 at H
      refine At.sq K ?_
      refine At.sq K ?_
      refine At.region K K ?_
      refine In.run' 2 (k' := 2) rfl [(52, (.int .i64 v421)), (53, (.bool (decide (v421 < 20))))] K ?_
      refine In.fin K ?_
      refine At.cd K (o := (.tmp 53)) K (b := (decide (v421 < 20))) K (fun hb592 => ?_) (fun hb592 => ?_)
      ·have H := ct H hb592
       refine At.skip K ?_
       refine At.sq K ?_
       refine At.bk K (id := 1) K ?_
       refine At.sq K ?_
       refine At.region K K ?_
       refine In.run' 3 (k' := 3) rfl [(56, (pt g32 0)), (57, (.string ⟨List.toArray p10⟩)), (58, (.int .i64 p11))] K ?_
       obtain ⟨z593, hz594, H⟩ := bind_elim H
       refine In.step (k' := 4) rfl K ?_
       refine Step.callF (f := 18) (fo := (.func 18)) (xs := #[(.tmp 56), (.tmp 57), (.tmp 58)]) (tys := #[29, 9, 3]) (first := #[]) (captured := #[]) (d := (some 59)) (k := 3) K rfl K K Tryd.call18 (L_gate_Gate_Take_walk g32 A6 c7 F33 d9 v419 p10 p11 w417 (SP.sub hs418 [0] rfl rfl) (fun w hm => Dp.mono _ (SP.below_of hs418 (l := [0]) rfl hm) hr8) z593 hz594) ?_
       rintro e w595 ⟨rfl, hs596⟩
       refine ⟨_, rfl, ?_⟩
       have hs598 : SP [] w0 w595 [gateE g32 F33 d9 z593.2] := SP.callS hs418 [0] [] rfl rfl hs596 rfl
       clear hs596
       refine In.run' 1 (k' := 5) rfl [(14, (.int .i64 z593.1))] K ?_
       refine In.fin K ?_
       refine At.sq K ?_
       refine At.sq K ?_
       refine At.region K K ?_
       refine In.run' 2 (k' := 2) rfl [(60, (.int .i64 z593.1)), (61, (.bool (z593.1 == 0)))] K ?_
       refine In.fin K ?_
       refine At.join (fun ρ w => ∃ (v600 : Int), Known ρ [(1, (.string ⟨List.toArray p10⟩)), (2, (.int .i64 p11)), (7, (.bool z16)), (8, (pt g32 0)), (10, (.bool z49.2.2.2.2.2)), (11, (.int .i64 v69)), (12, (.int .i64 v600)), (13, (.int .i64 v421)), (14, (.int .i64 z593.1))] ∧ SP [] w0 w [gateE g32 F33 d9 z593.2] ∧ L_subwaylaw11_GateFill_k37 (L_subwaylaw11_GateFill_l25 (List.map stT d9) p10 p11 z16 z49 v69 f36) z49 v69 v421 z593 v600 = some r) ?_ ?_
       ·refine At.cd K (o := (.tmp 61)) K (b := (z593.1 == 0)) K (fun hb619 => ?_) (fun hb619 => ?_)
        ·have H := ct H hb619
         refine At.region K K ?_
         refine In.run' 3 (k' := 3) rfl [(62, (.int .i64 v420)), (63, (.int .i64 (IntKind.wrap .i64 (v420 + 1)))), (12, (.int .i64 (IntKind.wrap .i64 (v420 + 1))))] K ?_
         refine In.fin K ?_
         exact ⟨(IntKind.wrap .i64 (v420 + 1)), ⟨K, K, K, K, K, K, K, K, K, trivial⟩, SP.sel hs598 [0] rfl rfl, H⟩
        ·have H := cf H hb619
         refine At.skip K ?_
         exact ⟨v420, ⟨K, K, K, K, K, K, K, K, K, trivial⟩, SP.sel hs598 [0] rfl rfl, H⟩
       ·rintro ρ w601 ⟨v600, hk, hs602, H⟩
        unfold L_subwaylaw11_GateFill_k37 at H
        first | refine At.known [(1, (.string ⟨List.toArray p10⟩)), (2, (.int .i64 p11)), (7, (.bool z16)), (8, (pt g32 0)), (10, (.bool z49.2.2.2.2.2)), (11, (.int .i64 v69)), (12, (.int .i64 v600)), (13, (.int .i64 v421)), (14, (.int .i64 z593.1))] hk ?_ | rw [← known_updL (l := [(1, (.string ⟨List.toArray p10⟩)), (2, (.int .i64 p11)), (7, (.bool z16)), (8, (pt g32 0)), (10, (.bool z49.2.2.2.2.2)), (11, (.int .i64 v69)), (12, (.int .i64 v600)), (13, (.int .i64 v421)), (14, (.int .i64 z593.1))]) hk]
        refine At.sq K ?_
        refine At.join (fun ρ w => ∃ (v609 : Bool), Known ρ [(1, (.string ⟨List.toArray p10⟩)), (2, (.int .i64 p11)), (7, (.bool z16)), (8, (pt g32 0)), (10, (.bool z49.2.2.2.2.2)), (11, (.int .i64 v69)), (12, (.int .i64 v600)), (13, (.int .i64 v421)), (85, (.bool v609))] ∧ SP [] w0 w [gateE g32 F33 d9 z593.2] ∧ L_subwaylaw11_GateFill_k38 (L_subwaylaw11_GateFill_l25 (List.map stT d9) p10 p11 z16 z49 v69 f36) v421 z593 v600 v609 = some r) ?_ ?_
        ·refine At.region K K ?_
         refine In.run' 3 (k' := 3) rfl [(64, (.bool z49.2.2.2.2.2)), (65, (.bool (!z49.2.2.2.2.2))), (66, (.bool (!z49.2.2.2.2.2)))] K ?_
         refine In.guard (t := 66) (b := (!z49.2.2.2.2.2)) K (fun hb613 => ?_) (fun hb613 => ?_)
         ·have H := ct H hb613
          refine In.run' 4 (k' := 7) rfl [(67, (.int .i64 z593.1)), (68, (.bool (z593.1 != 3))), (69, (.bool (z593.1 != 3))), (70, (.bool (z593.1 != 3)))] K ?_
          refine In.guard (t := 70) (b := (z593.1 != 3)) K (fun hb614 => ?_) (fun hb614 => ?_)
          ·have H := ct H hb614
           refine In.run' 15 (k' := 22) rfl [(71, undef), (72, undef), (73, undef), (74, undef), (75, undef), (76, undef), (77, undef), (78, undef), (79, undef), (80, undef), (81, undef), (82, undef), (83, undef), (84, undef), (85, (.bool true))] K ?_
           refine In.fin K ?_
           exact ⟨true, ⟨K, K, K, K, K, K, K, K, K, trivial⟩, SP.sel hs602 [0] rfl rfl, H⟩
          ·have H := cf H hb614
           refine In.run' 2 (k' := 9) rfl [(71, (.bool z49.2.2.2.2.2)), (72, (.bool z49.2.2.2.2.2))] K ?_
           refine In.guard (t := 72) (b := z49.2.2.2.2.2) K (fun hb615 => ?_) (fun hb615 => ?_)
           ·have H := ct H hb615
            refine In.run' 6 (k' := 15) rfl [(73, (.int .i64 z593.1)), (74, (.bool (z593.1 == 0))), (75, (.int .i64 v600)), (76, (.int .i64 v69)), (77, (.bool (decide (v600 ≤ v69)))), (78, (.bool (decide (v600 ≤ v69))))] K ?_
            refine In.guard (t := 78) (b := (decide (v600 ≤ v69))) K (fun hb616 => ?_) (fun hb616 => ?_)
            ·have H := ct H hb616
             refine In.run' 7 (k' := 22) rfl [(79, (.int .i64 v421)), (80, (.int .i64 v69)), (81, (.bool (decide (v421 < v69)))), (82, (.bool (decide (v421 < v69)))), (83, (.bool (!((z593.1 == 0) == (decide (v421 < v69)))))), (84, (.bool (!((z593.1 == 0) == (decide (v421 < v69)))))), (85, (.bool (!((z593.1 == 0) == (decide (v421 < v69))))))] K ?_
             refine In.fin K ?_
             exact ⟨(!((z593.1 == 0) == (decide (v421 < v69)))), ⟨K, K, K, K, K, K, K, K, K, trivial⟩, SP.sel hs602 [0] rfl rfl, H⟩
            ·have H := cf H hb616
             refine In.run' 7 (k' := 22) rfl [(79, undef), (80, undef), (81, undef), (82, (.bool false)), (83, (.bool (!((z593.1 == 0) == false)))), (84, (.bool (!((z593.1 == 0) == false)))), (85, (.bool (!((z593.1 == 0) == false))))] K ?_
             refine In.fin K ?_
             exact ⟨(!((z593.1 == 0) == false)), ⟨K, K, K, K, K, K, K, K, K, trivial⟩, SP.sel hs602 [0] rfl rfl, H⟩
           ·have H := cf H hb615
            refine In.run' 13 (k' := 22) rfl [(73, undef), (74, undef), (75, undef), (76, undef), (77, undef), (78, undef), (79, undef), (80, undef), (81, undef), (82, undef), (83, undef), (84, (.bool false)), (85, (.bool false))] K ?_
            refine In.fin K ?_
            exact ⟨false, ⟨K, K, K, K, K, K, K, K, K, trivial⟩, SP.sel hs602 [0] rfl rfl, H⟩
         ·have H := cf H hb613
          refine In.run' 6 (k' := 9) rfl [(67, undef), (68, undef), (69, (.bool false)), (70, (.bool false)), (71, (.bool z49.2.2.2.2.2)), (72, (.bool z49.2.2.2.2.2))] K ?_
          refine In.guard (t := 72) (b := z49.2.2.2.2.2) K (fun hb617 => ?_) (fun hb617 => ?_)
          ·have H := ct H hb617
           refine In.run' 6 (k' := 15) rfl [(73, (.int .i64 z593.1)), (74, (.bool (z593.1 == 0))), (75, (.int .i64 v600)), (76, (.int .i64 v69)), (77, (.bool (decide (v600 ≤ v69)))), (78, (.bool (decide (v600 ≤ v69))))] K ?_
           refine In.guard (t := 78) (b := (decide (v600 ≤ v69))) K (fun hb618 => ?_) (fun hb618 => ?_)
           ·have H := ct H hb618
            refine In.run' 7 (k' := 22) rfl [(79, (.int .i64 v421)), (80, (.int .i64 v69)), (81, (.bool (decide (v421 < v69)))), (82, (.bool (decide (v421 < v69)))), (83, (.bool (!((z593.1 == 0) == (decide (v421 < v69)))))), (84, (.bool (!((z593.1 == 0) == (decide (v421 < v69)))))), (85, (.bool (!((z593.1 == 0) == (decide (v421 < v69))))))] K ?_
            refine In.fin K ?_
            exact ⟨(!((z593.1 == 0) == (decide (v421 < v69)))), ⟨K, K, K, K, K, K, K, K, K, trivial⟩, SP.sel hs602 [0] rfl rfl, H⟩
           ·have H := cf H hb618
            refine In.run' 7 (k' := 22) rfl [(79, undef), (80, undef), (81, undef), (82, (.bool false)), (83, (.bool (!((z593.1 == 0) == false)))), (84, (.bool (!((z593.1 == 0) == false)))), (85, (.bool (!((z593.1 == 0) == false))))] K ?_
            refine In.fin K ?_
            exact ⟨(!((z593.1 == 0) == false)), ⟨K, K, K, K, K, K, K, K, K, trivial⟩, SP.sel hs602 [0] rfl rfl, H⟩
          ·have H := cf H hb617
           refine In.run' 13 (k' := 22) rfl [(73, undef), (74, undef), (75, undef), (76, undef), (77, undef), (78, undef), (79, undef), (80, undef), (81, undef), (82, undef), (83, undef), (84, (.bool false)), (85, (.bool false))] K ?_
           refine In.fin K ?_
           exact ⟨false, ⟨K, K, K, K, K, K, K, K, K, trivial⟩, SP.sel hs602 [0] rfl rfl, H⟩
        ·rintro ρ w610 ⟨v609, hk, hs611, H⟩
         unfold L_subwaylaw11_GateFill_k38 at H
         first | refine At.known [(1, (.string ⟨List.toArray p10⟩)), (2, (.int .i64 p11)), (7, (.bool z16)), (8, (pt g32 0)), (10, (.bool z49.2.2.2.2.2)), (11, (.int .i64 v69)), (12, (.int .i64 v600)), (13, (.int .i64 v421)), (85, (.bool v609))] hk ?_ | rw [← known_updL (l := [(1, (.string ⟨List.toArray p10⟩)), (2, (.int .i64 p11)), (7, (.bool z16)), (8, (pt g32 0)), (10, (.bool z49.2.2.2.2.2)), (11, (.int .i64 v69)), (12, (.int .i64 v600)), (13, (.int .i64 v421)), (85, (.bool v609))]) hk]
         refine At.cd K (o := (.tmp 85)) K (b := v609) K (fun hb612 => ?_) (fun hb612 => ?_)
         ·have H := ct H hb612
          refine At.sq K ?_
          refine At.region K K ?_
          refine In.run' 1 (k' := 1) rfl [(6, (.bool false))] K ?_
          refine In.fin K ?_
          refine At.ret K ?_
          refine ⟨(.bool false), K, ?_⟩
          obtain rfl := some_elim H
          exact ⟨rfl, SP.sel hs611 [] rfl rfl⟩
         ·have H := cf H hb612
          refine At.skip K ?_
          refine At.region K K ?_
          refine In.run' 3 (k' := 3) rfl [(54, (.int .i64 v421)), (55, (.int .i64 (IntKind.wrap .i64 (v421 + 1)))), (13, (.int .i64 (IntKind.wrap .i64 (v421 + 1))))] K ?_
          refine In.fin K ?_
          exact ⟨z593.2, v600, (IntKind.wrap .i64 (v421 + 1)), ⟨K, K, K, K, K, K, K, K, trivial⟩, SP.sel hs611 [0] rfl rfl, H⟩
      ·have H := cf H hb592
       refine At.exit K (id := 0) K ?_
       refine At.sq K ?_
       refine At.region K K ?_
       refine In.run' 1 (k' := 1) rfl [(15, (.int .i64 0))] K ?_
       refine In.fin K ?_
       refine At.sq K ?_
       refine At.sq K ?_
       refine At.region K K ?_
       refine In.run' 1 (k' := 1) rfl [(16, (.int .i64 0))] K ?_
       refine In.fin K ?_
       refine At.bk K (id := 2) K ?_
       refine At.lp K (fun f45 ρ w => ∃ (v693 : (List (List Int))) (v694 : Int) (v695 : Int), Known ρ [(1, (.string ⟨List.toArray p10⟩)), (2, (.int .i64 p11)), (7, (.bool z16)), (8, (pt g32 0)), (11, (.int .i64 v69)), (12, (.int .i64 v420)), (15, (.int .i64 v694)), (16, (.int .i64 v695))] ∧ SP [] w0 w [gateE g32 F33 d9 v693] ∧ L_subwaylaw11_GateFill_l43 (L_subwaylaw11_GateFill_l25 (List.map stT d9) p10 p11 z16 z49 v69 f36) (List.map stT d9) p10 p11 z16 v69 v420 f45 v693 v694 v695 = some r) (by rintro ρ w ⟨v693, v694, v695, hk, hs, H⟩; cases H) ?_ fuel ?_
       ·rintro f45 ρ w691 ⟨v693, v694, v695, hk, hs692, H⟩
        refine At.known [(1, (.string ⟨List.toArray p10⟩)), (2, (.int .i64 p11)), (7, (.bool z16)), (8, (pt g32 0)), (11, (.int .i64 v69)), (12, (.int .i64 v420)), (15, (.int .i64 v694)), (16, (.int .i64 v695))] hk ?_
        replace H := (show L_subwaylaw11_GateFill_b43 (L_subwaylaw11_GateFill_l25 (List.map stT d9) p10 p11 z16 z49 v69 f36) (L_subwaylaw11_GateFill_l43 (L_subwaylaw11_GateFill_l25 (List.map stT d9) p10 p11 z16 z49 v69 f36) (List.map stT d9) p10 p11 z16 v69 v420 f45) (List.map stT d9) p10 p11 z16 v69 v420 v693 v694 v695 = some r from H)
        unfold L_subwaylaw11_GateFill_b43 at H
        refine At.sq K ?_
        refine At.sq K ?_
        refine At.region K K ?_
        refine In.run' 2 (k' := 2) rfl [(86, (.int .i64 v695)), (87, (.bool (decide (v695 < 20))))] K ?_
        refine In.fin K ?_
        refine At.cd K (o := (.tmp 87)) K (b := (decide (v695 < 20))) K (fun hb729 => ?_) (fun hb729 => ?_)
        ·have H := ct H hb729
         refine At.skip K ?_
         refine At.sq K ?_
         refine At.bk K (id := 3) K ?_
         refine At.sq K ?_
         refine At.region K K ?_
         refine In.run' 3 (k' := 3) rfl [(90, (pt g32 0)), (91, (.string ⟨List.toArray p10⟩)), (92, (.int .i64 p11))] K ?_
         obtain ⟨z730, hz731, H⟩ := bind_elim H
         refine In.step (k' := 4) rfl K ?_
         refine Step.callF (f := 14) (fo := (.func 14)) (xs := #[(.tmp 90), (.tmp 91), (.tmp 92)]) (tys := #[29, 9, 3]) (first := #[]) (captured := #[]) (d := (some 93)) (k := 3) K rfl K K Tryd.call14 (L_gate_Gate_Give_walk g32 A6 c7 F33 d9 v693 p10 p11 w691 (SP.sub hs692 [0] rfl rfl) (fun w hm => Dp.mono _ (SP.below_of hs692 (l := [0]) rfl hm) hr8) z730 hz731) ?_
         rintro e w732 ⟨rfl, hs733⟩
         refine ⟨_, rfl, ?_⟩
         have hs735 : SP [] w0 w732 [gateE g32 F33 d9 z730.2] := SP.callS hs692 [0] [] rfl rfl hs733 rfl
         clear hs733
         refine In.fin K ?_
         refine At.join (fun ρ w => ∃ (v737 : Int), Known ρ [(1, (.string ⟨List.toArray p10⟩)), (2, (.int .i64 p11)), (7, (.bool z16)), (8, (pt g32 0)), (11, (.int .i64 v69)), (12, (.int .i64 v420)), (15, (.int .i64 v737)), (16, (.int .i64 v695))] ∧ SP [] w0 w [gateE g32 F33 d9 z730.2] ∧ L_subwaylaw11_GateFill_k46 (L_subwaylaw11_GateFill_l25 (List.map stT d9) p10 p11 z16 z49 v69 f36) (L_subwaylaw11_GateFill_l43 (L_subwaylaw11_GateFill_l25 (List.map stT d9) p10 p11 z16 z49 v69 f36) (List.map stT d9) p10 p11 z16 v69 v420 f45) v695 z730 v737 = some r) ?_ ?_
         ·refine At.cd K (o := (.tmp 93)) K (b := z730.1) K (fun hb740 => ?_) (fun hb740 => ?_)
          ·have H := ct H hb740
           refine At.region K K ?_
           refine In.run' 3 (k' := 3) rfl [(94, (.int .i64 v694)), (95, (.int .i64 (IntKind.wrap .i64 (v694 + 1)))), (15, (.int .i64 (IntKind.wrap .i64 (v694 + 1))))] K ?_
           refine In.fin K ?_
           exact ⟨(IntKind.wrap .i64 (v694 + 1)), ⟨K, K, K, K, K, K, K, K, trivial⟩, SP.sel hs735 [0] rfl rfl, H⟩
          ·have H := cf H hb740
           refine At.skip K ?_
           exact ⟨v694, ⟨K, K, K, K, K, K, K, K, trivial⟩, SP.sel hs735 [0] rfl rfl, H⟩
         ·rintro ρ w738 ⟨v737, hk, hs739, H⟩
          unfold L_subwaylaw11_GateFill_k46 at H
          first | refine At.known [(1, (.string ⟨List.toArray p10⟩)), (2, (.int .i64 p11)), (7, (.bool z16)), (8, (pt g32 0)), (11, (.int .i64 v69)), (12, (.int .i64 v420)), (15, (.int .i64 v737)), (16, (.int .i64 v695))] hk ?_ | rw [← known_updL (l := [(1, (.string ⟨List.toArray p10⟩)), (2, (.int .i64 p11)), (7, (.bool z16)), (8, (pt g32 0)), (11, (.int .i64 v69)), (12, (.int .i64 v420)), (15, (.int .i64 v737)), (16, (.int .i64 v695))]) hk]
          refine At.region K K ?_
          refine In.run' 3 (k' := 3) rfl [(88, (.int .i64 v695)), (89, (.int .i64 (IntKind.wrap .i64 (v695 + 1)))), (16, (.int .i64 (IntKind.wrap .i64 (v695 + 1))))] K ?_
          refine In.fin K ?_
          exact ⟨z730.2, v737, (IntKind.wrap .i64 (v695 + 1)), ⟨K, K, K, K, K, K, K, K, trivial⟩, SP.sel hs739 [0] rfl rfl, H⟩
        ·have H := cf H hb729
         refine At.exit K (id := 2) K ?_
         refine At.sq K ?_
         refine At.join (fun ρ w => ∃ (v750 : Bool), Known ρ [(6, (.bool v750))] ∧ SP [] w0 w [] ∧ L_subwaylaw11_GateFill_k47 (L_subwaylaw11_GateFill_l25 (List.map stT d9) p10 p11 z16 z49 v69 f36) (L_subwaylaw11_GateFill_l43 (L_subwaylaw11_GateFill_l25 (List.map stT d9) p10 p11 z16 z49 v69 f36) (List.map stT d9) p10 p11 z16 v69 v420 f45) v750 = some r) ?_ ?_
         ·refine At.region K K ?_
          refine In.run' 2 (k' := 2) rfl [(96, (.bool z16)), (97, (.bool z16))] K ?_
          refine In.guard (t := 97) (b := z16) K (fun hb753 => ?_) (fun hb753 => ?_)
          ·have H := ct H hb753
           refine In.run' 5 (k' := 7) rfl [(98, (.int .i64 v420)), (99, (.int .i64 v69)), (100, (.bool (v420 == v69))), (101, (.bool (v420 == v69))), (102, (.bool (v420 == v69)))] K ?_
           refine In.guard (t := 102) (b := (v420 == v69)) K (fun hb754 => ?_) (fun hb754 => ?_)
           ·have H := ct H hb754
            refine In.run' 5 (k' := 12) rfl [(103, (.int .i64 v694)), (104, (.int .i64 v420)), (105, (.bool (v694 == v420))), (106, (.bool (v694 == v420))), (107, (.bool (v694 == v420)))] K ?_
            refine In.guard (t := 107) (b := (v694 == v420)) K (fun hb755 => ?_) (fun hb755 => ?_)
            ·have H := ct H hb755
             refine In.run' 3 (k' := 15) rfl [(108, (pt g32 0)), (109, (.string ⟨List.toArray p10⟩)), (110, (.int .i64 p11))] K ?_
             obtain ⟨z756, hz757, H⟩ := bind_elim H
             refine In.step (k' := 16) rfl K ?_
             refine Step.callF (f := 20) (fo := (.func 20)) (xs := #[(.tmp 108), (.tmp 109), (.tmp 110)]) (tys := #[29, 9, 3]) (first := #[]) (captured := #[]) (d := (some 111)) (k := 15) K rfl K K Tryd.call20 (L_gate_Gate_Used_walk g32 A6 c7 F33 d9 v693 p10 p11 w691 (SP.sub hs692 [0] rfl rfl) (fun w hm => Dp.mono _ (SP.below_of hs692 (l := [0]) rfl hm) hr8) z756 hz757) ?_
             rintro e w758 ⟨rfl, hs759⟩
             refine ⟨_, rfl, ?_⟩
             have hs761 : SP [] w0 w758 [gateE g32 F33 d9 v693] := SP.callS hs692 [0] [] rfl rfl hs759 rfl
             clear hs759
             refine In.run' 3 (k' := 19) rfl [(112, (.bool (z756 == 0))), (113, (.bool (z756 == 0))), (6, (.bool (z756 == 0)))] K ?_
             refine In.fin K ?_
             exact ⟨(z756 == 0), ⟨K, trivial⟩, SP.sel hs761 [] rfl rfl, H⟩
            ·have H := cf H hb755
             refine In.run' 7 (k' := 19) rfl [(108, undef), (109, undef), (110, undef), (111, undef), (112, undef), (113, (.bool false)), (6, (.bool false))] K ?_
             refine In.fin K ?_
             exact ⟨false, ⟨K, trivial⟩, SP.sel hs692 [] rfl rfl, H⟩
           ·have H := cf H hb754
            refine In.run' 12 (k' := 19) rfl [(103, undef), (104, undef), (105, undef), (106, (.bool false)), (107, (.bool false)), (108, undef), (109, undef), (110, undef), (111, undef), (112, undef), (113, (.bool false)), (6, (.bool false))] K ?_
            refine In.fin K ?_
            exact ⟨false, ⟨K, trivial⟩, SP.sel hs692 [] rfl rfl, H⟩
          ·have H := cf H hb753
           refine In.run' 17 (k' := 19) rfl [(98, undef), (99, undef), (100, undef), (101, (.bool false)), (102, (.bool false)), (103, undef), (104, undef), (105, undef), (106, (.bool false)), (107, (.bool false)), (108, undef), (109, undef), (110, undef), (111, undef), (112, undef), (113, (.bool false)), (6, (.bool false))] K ?_
           refine In.fin K ?_
           exact ⟨false, ⟨K, trivial⟩, SP.sel hs692 [] rfl rfl, H⟩
         ·rintro ρ w751 ⟨v750, hk, hs752, H⟩
          unfold L_subwaylaw11_GateFill_k47 at H
          first | refine At.known [(6, (.bool v750))] hk ?_ | rw [← known_updL (l := [(6, (.bool v750))]) hk]
          refine At.ret K ?_
          refine ⟨(.bool v750), K, ?_⟩
          obtain rfl := some_elim H
          exact ⟨rfl, SP.sel hs752 [] rfl rfl⟩
       ·exact ⟨v419, 0, 0, ⟨K, K, K, K, K, K, K, K, trivial⟩, SP.sel hs418 [0] rfl rfl, H⟩
     ·exact ⟨o24, 0, 0, ⟨K, K, K, K, K, K, K, K, trivial⟩, SP.sel hs71 [0] rfl rfl, H⟩
end Go.Proofs.YtfffjaijflbeaaaDoor
