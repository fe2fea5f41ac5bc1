/- LIFTED BY PROGRAM (tools/lift.py): what functions compute, and that they do. -/
import Derived.Test.YtfffjaijflbeaaaDoorLGH
namespace Go.Proofs.YtfffjaijflbeaaaDoor
set_option linter.unusedSimpArgs false
set_option linter.unusedVariables false
open Go.RowKit

/-! L_subwaylaw11_GateNets -/
def L_subwaylaw11_GateNets_k9 (rec8 : Bool → Int → Option (Bool)) (v184 : Int) (v352 : Bool) : Option (Bool) :=
  (rec8 v352 (IntKind.wrap .i64 (v184 + 1)))
def L_subwaylaw11_GateNets_k10 (rec8 : Bool → Int → Option (Bool)) (v400 : Bool) : Option (Bool) :=
  (some (v400))
def L_subwaylaw11_GateNets_k11 (rec8 : Bool → Int → Option (Bool)) (v406 : Bool) : Option (Bool) :=
  (some (v406))
def L_subwaylaw11_GateNets_b5 (rec8 : Bool → Int → Option (Bool)) (pTenants5 : (List TenantL)) (p10 : (List UInt8)) (p11 : Int) (z16 : (Bool)) (o24 : ((List (List Int)))) (z47 : ((List UInt8) × Int × Int × (List (Int × Int)) × (List ((List UInt8) × (List UInt8) × Int)) × Bool)) (v183 : Bool) (v184 : Int) : Option (Bool) :=
  (cond (decide (v184 < ((List.length z47.2.2.2.1 : Nat) : Int))) ((idx z47.2.2.2.1 v184).bind fun x299 => (cond v183 (L_subwaylaw11_GateNets_k9 rec8 v184 true) (cond (x299.2 == 0) (L_subwaylaw11_GateNets_k9 rec8 v184 true) (cond (decide (x299.2 > 0)) ((chk (decide (0 ≤ (IntKind.wrap .i64 (32 - x299.2))))).bind fun _ => ((chk (decide (0 ≤ (IntKind.wrap .i64 (32 - x299.2))))).bind fun _ => (L_subwaylaw11_GateNets_k9 rec8 v184 ((bShr .u32 p11 (IntKind.wrap .i64 (32 - x299.2))) == (bShr .u32 x299.1 (IntKind.wrap .i64 (32 - x299.2))))))) (L_subwaylaw11_GateNets_k9 rec8 v184 false))))) ((L_gate_Gate_Admit pTenants5 o24 p10 p11).bind fun z392 => (cond (!z47.2.2.2.2.2) (cond z16 (L_subwaylaw11_GateNets_k10 rec8 (z392 == 3)) (L_subwaylaw11_GateNets_k10 rec8 false)) (cond z16 (cond ((z392 == 0) == v183) (L_subwaylaw11_GateNets_k11 rec8 ((z392 == 111) == (!v183))) (L_subwaylaw11_GateNets_k11 rec8 false)) (L_subwaylaw11_GateNets_k11 rec8 false)))))
def L_subwaylaw11_GateNets_l5 (pTenants5 : (List TenantL)) (p10 : (List UInt8)) (p11 : Int) (z16 : (Bool)) (o24 : ((List (List Int)))) (z47 : ((List UInt8) × Int × Int × (List (Int × Int)) × (List ((List UInt8) × (List UInt8) × Int)) × Bool)) : Nat → Bool → Int → Option (Bool)
  | 0, _, _ => none
  | f + 1, v183, v184 => L_subwaylaw11_GateNets_b5  (L_subwaylaw11_GateNets_l5 pTenants5 p10 p11 z16 o24 z47 f) pTenants5 p10 p11 z16 o24 z47 v183 v184
def L_subwaylaw11_GateNets_k1 (pWait1 : Int) (pGrace2 : Int) (pIdle3 : Int) (pLease4 : Int) (pTenants5 : (List TenantL)) (p10 : (List UInt8)) (p11 : Int) (z16 : (Bool)) (o24 : ((List (List Int)))) (v43 : Bool) : Option (Bool) :=
  (cond v43 (some (z16)) ((L_subwayref09_Find pWait1 pGrace2 pIdle3 pLease4 pTenants5 p10).bind fun z47 => (L_subwaylaw11_GateNets_l5 pTenants5 p10 p11 z16 o24 z47 fuel (((List.length z47.2.2.2.1 : Nat) : Int) == 0) 0)))
def L_subwaylaw11_GateNets (pWait1 : Int) (pGrace2 : Int) (pIdle3 : Int) (pLease4 : Int) (pTenants5 : (List TenantL)) (p10 : (List UInt8)) (p11 : Int) : Option (Bool) :=
  ((L_subwaylaw11_head ).bind fun z16 => ((L_gate_New pWait1 pGrace2 pIdle3 pLease4 pTenants5).bind fun z22 => (optE z22 (some (z16)) (fun o24 => ((L_subwaylaw09_Great pWait1 pGrace2 pIdle3 pLease4 pTenants5).bind fun z411 => (cond z411 (L_subwaylaw11_GateNets_k1 pWait1 pGrace2 pIdle3 pLease4 pTenants5 p10 p11 z16 o24 true) (L_subwaylaw11_GateNets_k1 pWait1 pGrace2 pIdle3 pLease4 pTenants5 p10 p11 z16 o24 (decide (((List.length p10 : Nat) : Int) > 1000)))))))))
set_option maxRecDepth 100000 in
set_option maxHeartbeats 4000000 in
theorem L_subwaylaw11_GateNets_walk (A6 : Option Addr) (c7 : Nat) (pWait1 : Int) (pGrace2 : Int) (pIdle3 : Int) (pLease4 : Int) (d9 : (List TenantD)) (p10 : (List UInt8)) (p11 : Int) (w0 : World) (hL : LaidW w0) (hr8 : (dDS eTen dTen).ok w0 (A6, c7, d9)) (r : (Bool)) (H : L_subwaylaw11_GateNets pWait1 pGrace2 pIdle3 pLease4 (List.map stT d9) p10 p11 = some r) :
  Calls Tryd.prog 6 #[(.agg #[(.int .i64 pWait1), (.int .i64 pGrace2), (.int .i64 pIdle3), (.int .i64 pLease4), (.slice A6 (List.length (List.map stT d9)) c7)]), (.string ⟨List.toArray p10⟩), (.int .u32 p11)] w0 (fun e w' => e = .returned (.bool r) ∧ SP [] w0 w' []) := by
 unfold L_subwaylaw11_GateNets at H
 refine calls_go (n := 102) Tryd.func6 K K K ?_
 have hs0 := SP.start [] w0
 refine At.sq K ?_
 refine At.region K K ?_
 refine In.step (k' := 1) rfl K ?_
 refine Step.box (t := 24) (x := (.tmp 0)) (v := (.agg #[(.int .i64 pWait1), (.int .i64 pGrace2), (.int .i64 pIdle3), (.int .i64 pLease4), (.slice A6 (List.length (List.map stT d9)) c7)])) (d := (some 3)) (k := 0) K rfl K hs0 ?_
 intro g12 w13 (hs15 : SP [] w0 w13 [boxE g12 24 #[(.int .i64 pWait1), (.int .i64 pGrace2), (.int .i64 pIdle3), (.int .i64 pLease4), (.slice A6 (List.length (List.map stT d9)) c7)]])
 refine In.run' 1 (k' := 2) rfl [(6, (.bool false))] K ?_
 refine In.fin K ?_
 refine At.sq K ?_
 refine At.region K K ?_
 obtain ⟨z16, hz17, H⟩ := bind_elim H
 refine In.step (k' := 1) rfl K ?_
 refine Step.callF (f := 9) (fo := (.func 9)) (xs := #[]) (tys := #[]) (first := #[]) (captured := #[]) (d := (some 15)) (k := 0) K rfl K K Tryd.call9 (L_subwaylaw11_head_walk   w13 (laid_below hL (SP.keeps hs15)) z16 hz17) ?_
 rintro e w18 ⟨rfl, hs19⟩
 refine ⟨_, rfl, ?_⟩
 have hs21 : SP [] w0 w18 [boxE g12 24 #[(.int .i64 pWait1), (.int .i64 pGrace2), (.int .i64 pIdle3), (.int .i64 pLease4), (.slice A6 (List.length (List.map stT d9)) c7)]] := SP.call hs15 hs19
 clear hs19
 refine In.run' 1 (k' := 2) rfl [(7, (.bool z16))] K ?_
 refine In.fin K ?_
 refine At.sq K ?_
 refine At.region K K ?_
 refine In.step (k' := 1) rfl K ?_
 refine Step.load (t := 24) (x := (.tmp 3)) (g := g12) (off := 0) (i := 0) (v := (.agg #[(.int .i64 pWait1), (.int .i64 pGrace2), (.int .i64 pIdle3), (.int .i64 pLease4), (.slice A6 (List.length (List.map stT d9)) c7)])) (d := (some 16)) (k := 0) K rfl K hs21 rfl K ?_
 obtain ⟨z22, hz23, H⟩ := bind_elim H
 rcases z22 with _ | o24
 ·have H := optN H
  refine In.step (k' := 2) rfl K ?_
  refine Step.callF (f := 12) (fo := (.func 12)) (xs := #[(.tmp 16)]) (tys := #[24]) (first := #[]) (captured := #[]) (d := (some 17)) (k := 1) K rfl K K Tryd.call12 (L_gate_New_walk A6 c7 pWait1 pGrace2 pIdle3 pLease4 d9 w18 (laid_below hL (SP.keeps hs21)) (Dp.sp hr8 hs21) none hz23) ?_
  rintro e w25 ⟨rfl, hs26⟩
  refine ⟨_, rfl, ?_⟩
  have hs28 : SP [] w0 w25 [boxE g12 24 #[(.int .i64 pWait1), (.int .i64 pGrace2), (.int .i64 pIdle3), (.int .i64 pLease4), (.slice A6 (List.length (List.map stT d9)) c7)]] := SP.call hs21 hs26
  clear hs26
  refine In.run' 1 (k' := 3) rfl [(8, (.pointer none))] K ?_
  refine In.fin K ?_
  refine At.sq K ?_
  refine At.sq K ?_
  refine At.region K K ?_
  refine In.run' 11 (k' := 11) rfl [(18, (.pointer none)), (19, (.bool true)), (20, (.bool true)), (21, undef), (22, undef), (23, (.bool true)), (24, (.bool true)), (25, undef), (26, undef), (27, undef), (28, (.bool true))] K ?_
  refine In.fin K ?_
  refine At.cd K (o := (.tmp 28)) K (b := true) K (fun hb29 => ?_) (fun hb29 => ?_)
  rotate_left
  ·cases hb29
  refine At.sq K ?_
  refine At.region K K ?_
  refine In.run' 2 (k' := 2) rfl [(29, (.bool z16)), (6, (.bool z16))] K ?_
  refine In.fin K ?_
  refine At.ret K ?_
  refine ⟨(.bool z16), K, ?_⟩
  obtain rfl := some_elim H
  exact ⟨rfl, SP.sel hs28 [] rfl rfl⟩
 ·have H := optS H
  refine In.step (k' := 2) rfl K ?_
  refine Step.callF (f := 12) (fo := (.func 12)) (xs := #[(.tmp 16)]) (tys := #[24]) (first := #[]) (captured := #[]) (d := (some 17)) (k := 1) K rfl K K Tryd.call12 (L_gate_New_walk A6 c7 pWait1 pGrace2 pIdle3 pLease4 d9 w18 (laid_below hL (SP.keeps hs21)) (Dp.sp hr8 hs21) (some o24) hz23) ?_
  rintro e w30 ⟨g32, F33, rfl, hs31⟩
  refine ⟨_, rfl, ?_⟩
  have hs35 : SP [] w0 w30 [boxE g12 24 #[(.int .i64 pWait1), (.int .i64 pGrace2), (.int .i64 pIdle3), (.int .i64 pLease4), (.slice A6 (List.length (List.map stT d9)) c7)], gateE g32 F33 d9 o24] := SP.call hs21 hs31
  clear hs31
  refine In.run' 1 (k' := 3) rfl [(8, (pt g32 0))] K ?_
  refine In.fin K ?_
  refine At.sq K ?_
  refine At.sq K ?_
  refine At.join (fun ρ w => ∃ (v43 : Bool), Known ρ [(1, (.string ⟨List.toArray p10⟩)), (2, (.int .u32 p11)), (3, (pt g12 0)), (7, (.bool z16)), (8, (pt g32 0)), (28, (.bool v43))] ∧ SP [] w0 w [boxE g12 24 #[(.int .i64 pWait1), (.int .i64 pGrace2), (.int .i64 pIdle3), (.int .i64 pLease4), (.slice A6 (List.length (List.map stT d9)) c7)], gateE g32 F33 d9 o24] ∧ L_subwaylaw11_GateNets_k1 pWait1 pGrace2 pIdle3 pLease4 (List.map stT d9) p10 p11 z16 o24 v43 = some r) ?_ ?_
  ·refine At.region K K ?_
   refine In.run' 3 (k' := 3) rfl [(18, (pt g32 0)), (19, (.bool false)), (20, (.bool false))] K ?_
   refine In.step (k' := 4) rfl K ?_
   refine Step.load (t := 24) (x := (.tmp 3)) (g := g12) (off := 0) (i := 0) (v := (.agg #[(.int .i64 pWait1), (.int .i64 pGrace2), (.int .i64 pIdle3), (.int .i64 pLease4), (.slice A6 (List.length (List.map stT d9)) c7)])) (d := (some 21)) (k := 3) K rfl K hs35 rfl K ?_
   obtain ⟨z411, hz412, H⟩ := bind_elim H
   refine In.step (k' := 5) rfl K ?_
   refine Step.callF (f := 10) (fo := (.func 10)) (xs := #[(.tmp 21)]) (tys := #[24]) (first := #[]) (captured := #[]) (d := (some 22)) (k := 4) K rfl K K Tryd.call10 (L_subwaylaw09_Great_walk A6 c7 pWait1 pGrace2 pIdle3 pLease4 d9 w30 (Dp.sp hr8 hs35) z411 hz412) ?_
   rintro e w413 ⟨rfl, hs414⟩
   refine ⟨_, rfl, ?_⟩
   have hs416 : SP [] w0 w413 [boxE g12 24 #[(.int .i64 pWait1), (.int .i64 pGrace2), (.int .i64 pIdle3), (.int .i64 pLease4), (.slice A6 (List.length (List.map stT d9)) c7)], gateE g32 F33 d9 o24] := SP.call hs35 hs414
   clear hs414
   refine In.run' 2 (k' := 7) rfl [(23, (.bool z411)), (24, (.bool z411))] K ?_
   refine In.guard (t := 24) (b := z411) K (fun hb417 => ?_) (fun hb417 => ?_)
   ·have H := ct H hb417
    refine In.run' 4 (k' := 11) rfl [(25, undef), (26, undef), (27, undef), (28, (.bool true))] K ?_
    refine In.fin K ?_
    exact ⟨true, ⟨K, K, K, K, K, K, trivial⟩, SP.sel hs416 [0, 1] rfl rfl, H⟩
   ·have H := cf H hb417
    refine In.run' 4 (k' := 11) rfl [(25, (.string ⟨List.toArray p10⟩)), (26, (.int .i64 ((List.length p10 : Nat) : Int))), (27, (.bool (decide (((List.length p10 : Nat) : Int) > 1000)))), (28, (.bool (decide (((List.length p10 : Nat) : Int) > 1000))))] K ?_
    refine In.fin K ?_
    exact ⟨(decide (((List.length p10 : Nat) : Int) > 1000)), ⟨K, K, K, K, K, K, trivial⟩, SP.sel hs416 [0, 1] rfl rfl, H⟩
  ·rintro ρ w44 ⟨v43, hk, hs45, H⟩
   unfold L_subwaylaw11_GateNets_k1 at H
   first | refine At.known [(1, (.string ⟨List.toArray p10⟩)), (2, (.int .u32 p11)), (3, (pt g12 0)), (7, (.bool z16)), (8, (pt g32 0)), (28, (.bool v43))] hk ?_ | rw [← known_updL (l := [(1, (.string ⟨List.toArray p10⟩)), (2, (.int .u32 p11)), (3, (pt g12 0)), (7, (.bool z16)), (8, (pt g32 0)), (28, (.bool v43))]) hk]
   refine At.cd K (o := (.tmp 28)) K (b := v43) K (fun hb46 => ?_) (fun hb46 => ?_)
   ·have H := ct H hb46
    refine At.sq K ?_
    refine At.region K K ?_
    refine In.run' 2 (k' := 2) rfl [(29, (.bool z16)), (6, (.bool z16))] K ?_
    refine In.fin K ?_
    refine At.ret K ?_
    refine ⟨(.bool z16), K, ?_⟩
    obtain rfl := some_elim H
    exact ⟨rfl, SP.sel hs45 [] rfl rfl⟩
   ·have H := cf H hb46
    refine At.skip K ?_
    refine At.sq K ?_
    refine At.region K K ?_
    refine In.step (k' := 1) rfl K ?_
    refine Step.load (t := 24) (x := (.tmp 3)) (g := g12) (off := 0) (i := 0) (v := (.agg #[(.int .i64 pWait1), (.int .i64 pGrace2), (.int .i64 pIdle3), (.int .i64 pLease4), (.slice A6 (List.length (List.map stT d9)) c7)])) (d := (some 31)) (k := 0) K rfl K hs45 rfl K ?_
    refine In.run' 1 (k' := 2) rfl [(32, (.string ⟨List.toArray p10⟩))] K ?_
    obtain ⟨z47, hz48, H⟩ := bind_elim H
    refine In.step (k' := 3) rfl K ?_
    refine Step.callF (f := 22) (fo := (.func 22)) (xs := #[(.tmp 31), (.tmp 32)]) (tys := #[24, 9]) (first := #[]) (captured := #[]) (d := (some 33)) (k := 2) K rfl K K Tryd.call22 (L_subwayref09_Find_walk (R := fun w => Below w0.heap.size w0 w) A6 c7 pWait1 pGrace2 pIdle3 pLease4 d9 p10 w44 (fun w hb => keeps_then hs45 hb) (fun w hb => Dp.mono _ hb hr8) z47 hz48) ?_
    rintro e w49 ⟨A51, c52, A54, c55, rfl, hr53, hr56, hs50⟩
    refine ⟨_, rfl, ?_⟩
    have hs58 : SP [] w0 w49 [boxE g12 24 #[(.int .i64 pWait1), (.int .i64 pGrace2), (.int .i64 pIdle3), (.int .i64 pLease4), (.slice A6 (List.length (List.map stT d9)) c7)], gateE g32 F33 d9 o24] := SP.call hs45 hs50
    clear hs50
    refine In.run' 3 (k' := 6) rfl [(30, (.tuple #[(.agg #[(.string ⟨List.toArray z47.1⟩), (.int .i64 z47.2.1), (.int .i64 z47.2.2.1), (.slice A51 (List.length z47.2.2.2.1) c52), (.slice A54 (List.length z47.2.2.2.2.1) c55)]), (.bool z47.2.2.2.2.2)])), (34, (.agg #[(.string ⟨List.toArray z47.1⟩), (.int .i64 z47.2.1), (.int .i64 z47.2.2.1), (.slice A51 (List.length z47.2.2.2.1) c52), (.slice A54 (List.length z47.2.2.2.2.1) c55)])), (35, (.bool z47.2.2.2.2.2))] K ?_
    refine In.step (k' := 7) rfl K ?_
    refine Step.alloc (t := 45) (z := (.agg #[(.string ⟨List.toArray ([] : List UInt8)⟩), (.int .i64 0), (.int .i64 0), (.slice none (List.length ([] : List (Int × Int))) 0), (.slice none (List.length ([] : List ((List UInt8) × (List UInt8) × Int))) 0)])) (d := (some 9)) (k := 6) K rfl K hs58 ?_
    intro g59 w60 (hs62 : SP [] w0 w60 [boxE g12 24 #[(.int .i64 pWait1), (.int .i64 pGrace2), (.int .i64 pIdle3), (.int .i64 pLease4), (.slice A6 (List.length (List.map stT d9)) c7)], gateE g32 F33 d9 o24, boxE g59 45 #[(.string ⟨List.toArray ([] : List UInt8)⟩), (.int .i64 0), (.int .i64 0), (.slice none (List.length ([] : List (Int × Int))) 0), (.slice none (List.length ([] : List ((List UInt8) × (List UInt8) × Int))) 0)]])
    refine In.step (k' := 8) rfl K ?_
    refine Step.store (t := 45) (x := (.tmp 9)) (y := (.tmp 34)) (g := g59) (off := 0) (i := 2) (v := (.agg #[(.string ⟨List.toArray z47.1⟩), (.int .i64 z47.2.1), (.int .i64 z47.2.2.1), (.slice A51 (List.length z47.2.2.2.1) c52), (.slice A54 (List.length z47.2.2.2.2.1) c55)])) (cs' := #[(.string ⟨List.toArray z47.1⟩), (.int .i64 z47.2.1), (.int .i64 z47.2.2.1), (.slice A51 (List.length z47.2.2.2.1) c52), (.slice A54 (List.length z47.2.2.2.2.1) c55)]) (d := none) (k := 7) K rfl K K hs62 rfl K ?_
    intro w63 (hs65 : SP [] w0 w63 [boxE g12 24 #[(.int .i64 pWait1), (.int .i64 pGrace2), (.int .i64 pIdle3), (.int .i64 pLease4), (.slice A6 (List.length (List.map stT d9)) c7)], gateE g32 F33 d9 o24, boxE g59 45 #[(.string ⟨List.toArray z47.1⟩), (.int .i64 z47.2.1), (.int .i64 z47.2.2.1), (.slice A51 (List.length z47.2.2.2.1) c52), (.slice A54 (List.length z47.2.2.2.2.1) c55)]])
    refine In.run' 1 (k' := 9) rfl [(10, (.bool z47.2.2.2.2.2))] K ?_
    refine In.fin K ?_
    refine At.sq K ?_
    refine At.region K K ?_
    refine In.run' 1 (k' := 1) rfl [(36, (pt g59 3))] K ?_
    refine In.step (k' := 2) rfl K ?_
    refine Step.load (t := 42) (x := (.tmp 36)) (g := g59) (off := 3) (i := 2) (v := (.slice A51 (List.length z47.2.2.2.1) c52)) (d := (some 37)) (k := 1) K rfl K hs65 rfl K ?_
    refine In.run' 3 (k' := 5) rfl [(38, (.int .i64 ((List.length z47.2.2.2.1 : Nat) : Int))), (39, (.bool (((List.length z47.2.2.2.1 : Nat) : Int) == 0))), (11, (.bool (((List.length z47.2.2.2.1 : Nat) : Int) == 0)))] K ?_
    refine In.fin K ?_
    refine At.sq K ?_
    refine At.sq K ?_
    refine At.region K K ?_
    refine In.run' 1 (k' := 1) rfl [(12, (.int .i64 0))] K ?_
    refine In.fin K ?_
    refine At.bk K (id := 0) K ?_
    refine At.lp K (fun f8 ρ w => ∃ (v183 : Bool) (v184 : Int), Known ρ [(1, (.string ⟨List.toArray p10⟩)), (2, (.int .u32 p11)), (7, (.bool z16)), (8, (pt g32 0)), (9, (pt g59 0)), (10, (.bool z47.2.2.2.2.2)), (11, (.bool v183)), (12, (.int .i64 v184))] ∧ SP [] w0 w [gateE g32 F33 d9 o24, boxE g59 45 #[(.string ⟨List.toArray z47.1⟩), (.int .i64 z47.2.1), (.int .i64 z47.2.2.1), (.slice A51 (List.length z47.2.2.2.1) c52), (.slice A54 (List.length z47.2.2.2.2.1) c55)]] ∧ L_subwaylaw11_GateNets_l5 (List.map stT d9) p10 p11 z16 o24 z47 f8 v183 v184 = some r) (by rintro ρ w ⟨v183, v184, hk, hs, H⟩; cases H) ?_ fuel ?_
    ·rintro f8 ρ w181 ⟨v183, v184, hk, hs182, H⟩
     refine At.known [(1, (.string ⟨List.toArray p10⟩)), (2, (.int .u32 p11)), (7, (.bool z16)), (8, (pt g32 0)), (9, (pt g59 0)), (10, (.bool z47.2.2.2.2.2)), (11, (.bool v183)), (12, (.int .i64 v184))] hk ?_
     replace H := (show L_subwaylaw11_GateNets_b5 (L_subwaylaw11_GateNets_l5 (List.map stT d9) p10 p11 z16 o24 z47 f8) (List.map stT d9) p10 p11 z16 o24 z47 v183 v184 = some r from H)
     unfold L_subwaylaw11_GateNets_b5 at H
     refine At.sq K ?_
     refine At.sq K ?_
     refine At.region K K ?_
     refine In.run' 2 (k' := 2) rfl [(40, (.int .i64 v184)), (41, (pt g59 3))] K ?_
     refine In.step (k' := 3) rfl K ?_
     refine Step.load (t := 42) (x := (.tmp 41)) (g := g59) (off := 3) (i := 1) (v := (.slice A51 (List.length z47.2.2.2.1) c52)) (d := (some 42)) (k := 2) K rfl K hs182 rfl K ?_
     refine In.run' 2 (k' := 5) rfl [(43, (.int .i64 ((List.length z47.2.2.2.1 : Nat) : Int))), (44, (.bool (decide (v184 < ((List.length z47.2.2.2.1 : Nat) : Int)))))] K ?_
     refine In.fin K ?_
     refine At.cd K (o := (.tmp 44)) K (b := (decide (v184 < ((List.length z47.2.2.2.1 : Nat) : Int)))) K (fun hb298 => ?_) (fun hb298 => ?_)
     ·have H := ct H hb298
      refine At.skip K ?_
      refine At.sq K ?_
      refine At.bk K (id := 1) K ?_
      refine At.sq K ?_
      refine At.region K K ?_
      refine In.run' 1 (k' := 1) rfl [(47, (pt g59 3))] K ?_
      refine In.step (k' := 2) rfl K ?_
      refine Step.load (t := 42) (x := (.tmp 47)) (g := g59) (off := 3) (i := 1) (v := (.slice A51 (List.length z47.2.2.2.1) c52)) (d := (some 48)) (k := 1) K rfl K hs182 rfl K ?_
      refine In.run' 1 (k' := 3) rfl [(49, (.int .i64 v184))] K ?_
      obtain ⟨x299, hp300, hq301, hx302, H⟩ := idx_elim H
      refine In.step (k' := 4) rfl K ?_
      refine Step.elem (e := (ePair (eInt .u32) (eInt .i64))) (l := z47.2.2.2.1) (A := A51) (c := c52) (T := 42) (E := 51) (x := (.tmp 48)) (ix := (.tmp 49)) (ki := .i64) (iz := v184) (d := (some 50)) (k := 3) K rfl K K K K (RdT.sp (hr53 w0 (Below.refl _ _)) hs182) hp300 hq301 ?_
      intro b303 o304 hA306 hb307 hc305
      refine In.step (k' := 5) rfl K ?_
      refine Step.cells (t := 51) (x := (.tmp 50)) (b := b303) (off := (o304 + Int.toNat v184 * (ePair (eInt .u32) (eInt .i64)).sz)) (xs := [(.int .u32 x299.1), (.int .i64 x299.2)]) (d := (some 51)) (k := 4) K rfl K K K (elem_cells0 (e := (ePair (eInt .u32) (eInt .i64))) (rdt_cells (RdT.sp (hr53 w0 (Below.refl _ _)) hs182) hA306 hp300 hq301) hx302 rfl) ?_
      refine In.step (k' := 6) rfl K ?_
      refine Step.alloc (t := 51) (z := (.agg #[(.int .u32 0), (.int .i64 0)])) (d := (some 13)) (k := 5) K rfl K hs182 ?_
      intro g308 w309 (hs311 : SP [] w0 w309 [gateE g32 F33 d9 o24, boxE g59 45 #[(.string ⟨List.toArray z47.1⟩), (.int .i64 z47.2.1), (.int .i64 z47.2.2.1), (.slice A51 (List.length z47.2.2.2.1) c52), (.slice A54 (List.length z47.2.2.2.2.1) c55)], boxE g308 51 #[(.int .u32 0), (.int .i64 0)]])
      refine In.step (k' := 7) rfl K ?_
      refine Step.store (t := 51) (x := (.tmp 13)) (y := (.tmp 51)) (g := g308) (off := 0) (i := 2) (v := (.agg #[(.int .u32 x299.1), (.int .i64 x299.2)])) (cs' := #[(.int .u32 x299.1), (.int .i64 x299.2)]) (d := none) (k := 6) K rfl K K hs311 rfl K ?_
      intro w312 (hs314 : SP [] w0 w312 [gateE g32 F33 d9 o24, boxE g59 45 #[(.string ⟨List.toArray z47.1⟩), (.int .i64 z47.2.1), (.int .i64 z47.2.2.1), (.slice A51 (List.length z47.2.2.2.1) c52), (.slice A54 (List.length z47.2.2.2.2.1) c55)], boxE g308 51 #[(.int .u32 x299.1), (.int .i64 x299.2)]])
      refine In.fin K ?_
      refine At.join (fun ρ w => ∃ (v352 : Bool), Known ρ [(1, (.string ⟨List.toArray p10⟩)), (2, (.int .u32 p11)), (7, (.bool z16)), (8, (pt g32 0)), (9, (pt g59 0)), (10, (.bool z47.2.2.2.2.2)), (11, (.bool v352)), (12, (.int .i64 v184))] ∧ SP [] w0 w [gateE g32 F33 d9 o24, boxE g59 45 #[(.string ⟨List.toArray z47.1⟩), (.int .i64 z47.2.1), (.int .i64 z47.2.2.1), (.slice A51 (List.length z47.2.2.2.1) c52), (.slice A54 (List.length z47.2.2.2.2.1) c55)]] ∧ L_subwaylaw11_GateNets_k9 (L_subwaylaw11_GateNets_l5 (List.map stT d9) p10 p11 z16 o24 z47 f8) v184 v352 = some r) ?_ ?_
      ·rcases Bool.eq_false_or_eq_true v183 with hb355 | hb355
       ·have H := ct H hb355
        refine At.stages K K K K K [GEq (.bool v183), GEq (.bool v183), GEq undef, GEq undef, GEq undef, GEq (.bool true), GEq (.bool true), GEq undef, GEq undef, GEq undef, GEq undef, GEq undef, GEq undef, GEq undef, GEq undef, GEq undef, GEq undef, GEq undef, GEq undef, GEq undef, GEq undef, GEq undef, GEq undef, GEq undef, GEq (.bool true), GEq (.bool true)] [] [([], fun vs w => VL vs [] ∧ SP [] w0 w [gateE g32 F33 d9 o24, boxE g59 45 #[(.string ⟨List.toArray z47.1⟩), (.int .i64 z47.2.1), (.int .i64 z47.2.2.1), (.slice A51 (List.length z47.2.2.2.1) c52), (.slice A54 (List.length z47.2.2.2.2.1) c55)], boxE g308 51 #[(.int .u32 x299.1), (.int .i64 x299.2)]])] (N := 26) K ⟨K, Nat.zero_lt_succ _⟩ (show VL [] [] ∧ SP [] w0 w312.drew [gateE g32 F33 d9 o24, boxE g59 45 #[(.string ⟨List.toArray z47.1⟩), (.int .i64 z47.2.1), (.int .i64 z47.2.2.1), (.slice A51 (List.length z47.2.2.2.1) c52), (.slice A54 (List.length z47.2.2.2.2.1) c55)], boxE g308 51 #[(.int .u32 x299.1), (.int .i64 x299.2)]] from ⟨trivial, SP.drew hs314⟩) ⟨⟨⟨⟨⟨⟨⟨⟨⟨⟨⟨⟨⟨⟨⟨⟨⟨⟨⟨⟨⟨⟨⟨⟨⟨⟨trivial, ?_⟩, ?_⟩, ?_⟩, ?_⟩, ?_⟩, ?_⟩, ?_⟩, ?_⟩, ?_⟩, ?_⟩, ?_⟩, ?_⟩, ?_⟩, ?_⟩, ?_⟩, ?_⟩, ?_⟩, ?_⟩, ?_⟩, ?_⟩, ?_⟩, ?_⟩, ?_⟩, ?_⟩, ?_⟩, ?_⟩ (last := 0) K ?_
        ·exact Owe.run K [(11, (.bool v183))] ⟨gS K K, trivial⟩ (.bool v183) (fun _ _ => K) rfl
        ·exact Owe.run K [(52, (.bool v183))] ⟨gA 0 K K, trivial⟩ (.bool v183) (fun _ _ => K) rfl
        ·exact Owe.skip K [(53, (.bool true))] ⟨gB 1 K v183 K hb355, trivial⟩ (some 54) (fun _ => K) K rfl
        ·exact Owe.skip K [(53, (.bool true))] ⟨gB 1 K v183 K hb355, trivial⟩ (some 55) (fun _ => K) K rfl
        ·exact Owe.skip K [(53, (.bool true))] ⟨gB 1 K v183 K hb355, trivial⟩ (some 56) (fun _ => K) K rfl
        ·exact Owe.run K [(53, (.bool true)), (56, undef)] ⟨gB 1 K v183 K hb355, gA 4 K K, trivial⟩ (.bool true) (fun _ _ => K) rfl
        ·exact Owe.run K [(57, (.bool true))] ⟨gA 5 K K, trivial⟩ (.bool true) (fun _ _ => K) rfl
        ·exact Owe.skip K [(58, (.bool true))] ⟨gA 6 K K, trivial⟩ (some 59) (fun _ => K) K rfl
        ·exact Owe.skip K [(58, (.bool true))] ⟨gA 6 K K, trivial⟩ (some 60) (fun _ => K) K rfl
        ·exact Owe.skip K [(58, (.bool true))] ⟨gA 6 K K, trivial⟩ (some 61) (fun _ => K) K rfl
        ·exact Owe.skip K [(58, (.bool true))] ⟨gA 6 K K, trivial⟩ (some 62) (fun _ => K) K rfl
        ·exact Owe.skip K [(62, undef)] ⟨gA 10 K K, trivial⟩ (some 63) (fun _ => K) K rfl
        ·exact Owe.skip K [(62, undef)] ⟨gA 10 K K, trivial⟩ (some 64) (fun _ => K) K rfl
        ·exact Owe.skip K [(62, undef)] ⟨gA 10 K K, trivial⟩ (some 65) (fun _ => K) K rfl
        ·exact Owe.skip K [(62, undef)] ⟨gA 10 K K, trivial⟩ (some 66) (fun _ => K) K rfl
        ·exact Owe.skip K [(62, undef)] ⟨gA 10 K K, trivial⟩ (some 67) (fun _ => K) K rfl
        ·exact Owe.skip K [(62, undef)] ⟨gA 10 K K, trivial⟩ (some 68) (fun _ => K) K rfl
        ·exact Owe.skip K [(62, undef)] ⟨gA 10 K K, trivial⟩ (some 69) (fun _ => K) K rfl
        ·exact Owe.skip K [(62, undef)] ⟨gA 10 K K, trivial⟩ (some 70) (fun _ => K) K rfl
        ·exact Owe.skip K [(62, undef)] ⟨gA 10 K K, trivial⟩ (some 71) (fun _ => K) K rfl
        ·exact Owe.skip K [(62, undef)] ⟨gA 10 K K, trivial⟩ (some 72) (fun _ => K) K rfl
        ·exact Owe.skip K [(62, undef)] ⟨gA 10 K K, trivial⟩ (some 73) (fun _ => K) K rfl
        ·exact Owe.skip K [(62, undef)] ⟨gA 10 K K, trivial⟩ (some 74) (fun _ => K) K rfl
        ·exact Owe.skip K [(58, (.bool true))] ⟨gA 6 K K, trivial⟩ (some 75) (fun _ => K) K rfl
        ·exact Owe.run K [(58, (.bool true)), (75, undef)] ⟨gA 6 K K, gA 23 K K, trivial⟩ (.bool true) (fun _ _ => K) rfl
        ·exact Owe.run K [(76, (.bool true))] ⟨gA 24 K K, trivial⟩ (.bool true) (fun _ _ => K) rfl
        ·rintro ρ' w' hs hf ⟨hvl357, hs356⟩
         refine postKnown [(1, (.string ⟨List.toArray p10⟩)), (2, (.int .u32 p11)), (7, (.bool z16)), (8, (pt g32 0)), (9, (pt g59 0)), (10, (.bool z47.2.2.2.2.2)), (11, (.bool true)), (12, (.int .i64 v184))] ⟨(hs 1 K).trans K, (hs 2 K).trans K, (hs 7 K).trans K, (hs 8 K).trans K, (hs 9 K).trans K, (hs 10 K).trans K, hf 25 11 K, (hs 12 K).trans K, trivial⟩ ?_
         obtain ⟨w358, hww358⟩ : ∃ x, w' = x := ⟨_, rfl⟩
         rw [hww358] at hs356 ⊢
         exact ⟨true, ⟨K, K, K, K, K, K, K, K, trivial⟩, SP.sel hs356 [0, 1] rfl rfl, H⟩
       ·have H := cf H hb355
        rcases Bool.eq_false_or_eq_true (x299.2 == 0) with hb359 | hb359
        ·have H := ct H hb359
         refine At.stages K K K K K [GEq (.bool v183), GEq (.bool v183), GEq (pt g308 1), GEq (.int .i64 x299.2), GEq (.bool (x299.2 == 0)), GEq (.bool (x299.2 == 0)), GEq (.bool (x299.2 == 0)), GEq undef, GEq undef, GEq undef, GEq undef, GEq undef, GEq undef, GEq undef, GEq undef, GEq undef, GEq undef, GEq undef, GEq undef, GEq undef, GEq undef, GEq undef, GEq undef, GEq undef, GEq (.bool true), GEq (.bool true)] [] [([], fun vs w => VL vs [] ∧ SP [] w0 w [gateE g32 F33 d9 o24, boxE g59 45 #[(.string ⟨List.toArray z47.1⟩), (.int .i64 z47.2.1), (.int .i64 z47.2.2.1), (.slice A51 (List.length z47.2.2.2.1) c52), (.slice A54 (List.length z47.2.2.2.2.1) c55)], boxE g308 51 #[(.int .u32 x299.1), (.int .i64 x299.2)]])] (N := 26) K ⟨K, Nat.zero_lt_succ _⟩ (show VL [] [] ∧ SP [] w0 w312.drew [gateE g32 F33 d9 o24, boxE g59 45 #[(.string ⟨List.toArray z47.1⟩), (.int .i64 z47.2.1), (.int .i64 z47.2.2.1), (.slice A51 (List.length z47.2.2.2.1) c52), (.slice A54 (List.length z47.2.2.2.2.1) c55)], boxE g308 51 #[(.int .u32 x299.1), (.int .i64 x299.2)]] from ⟨trivial, SP.drew hs314⟩) ⟨⟨⟨⟨⟨⟨⟨⟨⟨⟨⟨⟨⟨⟨⟨⟨⟨⟨⟨⟨⟨⟨⟨⟨⟨⟨trivial, ?_⟩, ?_⟩, ?_⟩, ?_⟩, ?_⟩, ?_⟩, ?_⟩, ?_⟩, ?_⟩, ?_⟩, ?_⟩, ?_⟩, ?_⟩, ?_⟩, ?_⟩, ?_⟩, ?_⟩, ?_⟩, ?_⟩, ?_⟩, ?_⟩, ?_⟩, ?_⟩, ?_⟩, ?_⟩, ?_⟩ (last := 0) K ?_
         ·exact Owe.run K [(11, (.bool v183))] ⟨gS K K, trivial⟩ (.bool v183) (fun _ _ => K) rfl
         ·exact Owe.run K [(52, (.bool v183))] ⟨gA 0 K K, trivial⟩ (.bool v183) (fun _ _ => K) rfl
         ·exact Owe.run K [(13, (pt g308 0)), (53, (.bool false))] ⟨gS K K, gB 1 K v183 K hb355, trivial⟩ (pt g308 1) (fun _ _ => K) rfl
         ·refine Owe.light K [0] K (all_cons ?_ all_nil)
          ·rintro ρ' w' hs hah ⟨hvl361, hs360⟩
           have e54 := hah 2 54 K
           have e53 := hah 1 53 K
           have hkn : Known ρ' [(54, (pt g308 1)), (53, (.bool false))] := ⟨e54, (Eq.trans e53 (congrArg Value.bool hb355)), trivial⟩
           refine Step.known _ hkn ?_
           refine Step.load (t := 3) (x := (.tmp 54)) (g := g308) (off := 1) (i := 2) (v := (.int .i64 x299.2)) (d := (some 55)) (k := 3) K rfl K hs360 rfl K ?_
           exact ⟨rfl, _, updO_known hkn, rfl⟩
         ·exact Owe.run K [(55, (.int .i64 x299.2)), (53, (.bool false))] ⟨gA 3 K K, gB 1 K v183 K hb355, trivial⟩ (.bool (x299.2 == 0)) (fun _ _ => K) rfl
         ·exact Owe.run K [(53, (.bool false)), (56, (.bool (x299.2 == 0)))] ⟨gB 1 K v183 K hb355, gA 4 K K, trivial⟩ (.bool (x299.2 == 0)) (fun _ _ => K) rfl
         ·exact Owe.run K [(57, (.bool (x299.2 == 0)))] ⟨gA 5 K K, trivial⟩ (.bool (x299.2 == 0)) (fun _ _ => K) rfl
         ·exact Owe.skip K [(58, (.bool true))] ⟨gB 6 K (x299.2 == 0) K hb359, trivial⟩ (some 59) (fun _ => K) K rfl
         ·exact Owe.skip K [(58, (.bool true))] ⟨gB 6 K (x299.2 == 0) K hb359, trivial⟩ (some 60) (fun _ => K) K rfl
         ·exact Owe.skip K [(58, (.bool true))] ⟨gB 6 K (x299.2 == 0) K hb359, trivial⟩ (some 61) (fun _ => K) K rfl
         ·exact Owe.skip K [(58, (.bool true))] ⟨gB 6 K (x299.2 == 0) K hb359, trivial⟩ (some 62) (fun _ => K) K rfl
         ·exact Owe.skip K [(62, undef)] ⟨gA 10 K K, trivial⟩ (some 63) (fun _ => K) K rfl
         ·exact Owe.skip K [(62, undef)] ⟨gA 10 K K, trivial⟩ (some 64) (fun _ => K) K rfl
         ·exact Owe.skip K [(62, undef)] ⟨gA 10 K K, trivial⟩ (some 65) (fun _ => K) K rfl
         ·exact Owe.skip K [(62, undef)] ⟨gA 10 K K, trivial⟩ (some 66) (fun _ => K) K rfl
         ·exact Owe.skip K [(62, undef)] ⟨gA 10 K K, trivial⟩ (some 67) (fun _ => K) K rfl
         ·exact Owe.skip K [(62, undef)] ⟨gA 10 K K, trivial⟩ (some 68) (fun _ => K) K rfl
         ·exact Owe.skip K [(62, undef)] ⟨gA 10 K K, trivial⟩ (some 69) (fun _ => K) K rfl
         ·exact Owe.skip K [(62, undef)] ⟨gA 10 K K, trivial⟩ (some 70) (fun _ => K) K rfl
         ·exact Owe.skip K [(62, undef)] ⟨gA 10 K K, trivial⟩ (some 71) (fun _ => K) K rfl
         ·exact Owe.skip K [(62, undef)] ⟨gA 10 K K, trivial⟩ (some 72) (fun _ => K) K rfl
         ·exact Owe.skip K [(62, undef)] ⟨gA 10 K K, trivial⟩ (some 73) (fun _ => K) K rfl
         ·exact Owe.skip K [(62, undef)] ⟨gA 10 K K, trivial⟩ (some 74) (fun _ => K) K rfl
         ·exact Owe.skip K [(58, (.bool true))] ⟨gB 6 K (x299.2 == 0) K hb359, trivial⟩ (some 75) (fun _ => K) K rfl
         ·exact Owe.run K [(58, (.bool true)), (75, undef)] ⟨gB 6 K (x299.2 == 0) K hb359, gA 23 K K, trivial⟩ (.bool true) (fun _ _ => K) rfl
         ·exact Owe.run K [(76, (.bool true))] ⟨gA 24 K K, trivial⟩ (.bool true) (fun _ _ => K) rfl
         ·rintro ρ' w' hs hf ⟨hvl363, hs362⟩
          refine postKnown [(1, (.string ⟨List.toArray p10⟩)), (2, (.int .u32 p11)), (7, (.bool z16)), (8, (pt g32 0)), (9, (pt g59 0)), (10, (.bool z47.2.2.2.2.2)), (11, (.bool true)), (12, (.int .i64 v184))] ⟨(hs 1 K).trans K, (hs 2 K).trans K, (hs 7 K).trans K, (hs 8 K).trans K, (hs 9 K).trans K, (hs 10 K).trans K, hf 25 11 K, (hs 12 K).trans K, trivial⟩ ?_
          obtain ⟨w364, hww364⟩ : ∃ x, w' = x := ⟨_, rfl⟩
          rw [hww364] at hs362 ⊢
          exact ⟨true, ⟨K, K, K, K, K, K, K, K, trivial⟩, SP.sel hs362 [0, 1] rfl rfl, H⟩
        ·have H := cf H hb359
         rcases Bool.eq_false_or_eq_true (decide (x299.2 > 0)) with hb365 | hb365
         ·have H := ct H hb365
          obtain ⟨hl366, H⟩ := chk_elim H
          obtain ⟨hl367, H⟩ := chk_elim H
          refine At.stages K K K K K [GEq (.bool v183), GEq (.bool v183), GEq (pt g308 1), GEq (.int .i64 x299.2), GEq (.bool (x299.2 == 0)), GEq (.bool (x299.2 == 0)), GEq (.bool (x299.2 == 0)), GEq (pt g308 1), GEq (.int .i64 x299.2), GEq (.bool (decide (x299.2 > 0))), GEq (.bool (decide (x299.2 > 0))), GEq (.int .u32 p11), GEq (pt g308 1), GEq (.int .i64 x299.2), GEq (.int .i64 (IntKind.wrap .i64 (32 - x299.2))), GEq (.int .u32 (bShr .u32 p11 (IntKind.wrap .i64 (32 - x299.2)))), GEq (pt g308 0), GEq (.int .u32 x299.1), GEq (pt g308 1), GEq (.int .i64 x299.2), GEq (.int .i64 (IntKind.wrap .i64 (32 - x299.2))), GEq (.int .u32 (bShr .u32 x299.1 (IntKind.wrap .i64 (32 - x299.2)))), GEq (.bool ((bShr .u32 p11 (IntKind.wrap .i64 (32 - x299.2))) == (bShr .u32 x299.1 (IntKind.wrap .i64 (32 - x299.2))))), GEq (.bool ((bShr .u32 p11 (IntKind.wrap .i64 (32 - x299.2))) == (bShr .u32 x299.1 (IntKind.wrap .i64 (32 - x299.2))))), GEq (.bool ((bShr .u32 p11 (IntKind.wrap .i64 (32 - x299.2))) == (bShr .u32 x299.1 (IntKind.wrap .i64 (32 - x299.2))))), GEq (.bool ((bShr .u32 p11 (IntKind.wrap .i64 (32 - x299.2))) == (bShr .u32 x299.1 (IntKind.wrap .i64 (32 - x299.2)))))] [] [([], fun vs w => VL vs [] ∧ SP [] w0 w [gateE g32 F33 d9 o24, boxE g59 45 #[(.string ⟨List.toArray z47.1⟩), (.int .i64 z47.2.1), (.int .i64 z47.2.2.1), (.slice A51 (List.length z47.2.2.2.1) c52), (.slice A54 (List.length z47.2.2.2.2.1) c55)], boxE g308 51 #[(.int .u32 x299.1), (.int .i64 x299.2)]])] (N := 26) K ⟨K, Nat.zero_lt_succ _⟩ (show VL [] [] ∧ SP [] w0 w312.drew [gateE g32 F33 d9 o24, boxE g59 45 #[(.string ⟨List.toArray z47.1⟩), (.int .i64 z47.2.1), (.int .i64 z47.2.2.1), (.slice A51 (List.length z47.2.2.2.1) c52), (.slice A54 (List.length z47.2.2.2.2.1) c55)], boxE g308 51 #[(.int .u32 x299.1), (.int .i64 x299.2)]] from ⟨trivial, SP.drew hs314⟩) ⟨⟨⟨⟨⟨⟨⟨⟨⟨⟨⟨⟨⟨⟨⟨⟨⟨⟨⟨⟨⟨⟨⟨⟨⟨⟨trivial, ?_⟩, ?_⟩, ?_⟩, ?_⟩, ?_⟩, ?_⟩, ?_⟩, ?_⟩, ?_⟩, ?_⟩, ?_⟩, ?_⟩, ?_⟩, ?_⟩, ?_⟩, ?_⟩, ?_⟩, ?_⟩, ?_⟩, ?_⟩, ?_⟩, ?_⟩, ?_⟩, ?_⟩, ?_⟩, ?_⟩ (last := 0) K ?_
          ·exact Owe.run K [(11, (.bool v183))] ⟨gS K K, trivial⟩ (.bool v183) (fun _ _ => K) rfl
          ·exact Owe.run K [(52, (.bool v183))] ⟨gA 0 K K, trivial⟩ (.bool v183) (fun _ _ => K) rfl
          ·exact Owe.run K [(13, (pt g308 0)), (53, (.bool false))] ⟨gS K K, gB 1 K v183 K hb355, trivial⟩ (pt g308 1) (fun _ _ => K) rfl
          ·refine Owe.light K [0] K (all_cons ?_ all_nil)
           ·rintro ρ' w' hs hah ⟨hvl369, hs368⟩
            have e54 := hah 2 54 K
            have e53 := hah 1 53 K
            have hkn : Known ρ' [(54, (pt g308 1)), (53, (.bool false))] := ⟨e54, (Eq.trans e53 (congrArg Value.bool hb355)), trivial⟩
            refine Step.known _ hkn ?_
            refine Step.load (t := 3) (x := (.tmp 54)) (g := g308) (off := 1) (i := 2) (v := (.int .i64 x299.2)) (d := (some 55)) (k := 3) K rfl K hs368 rfl K ?_
            exact ⟨rfl, _, updO_known hkn, rfl⟩
          ·exact Owe.run K [(55, (.int .i64 x299.2)), (53, (.bool false))] ⟨gA 3 K K, gB 1 K v183 K hb355, trivial⟩ (.bool (x299.2 == 0)) (fun _ _ => K) rfl
          ·exact Owe.run K [(53, (.bool false)), (56, (.bool (x299.2 == 0)))] ⟨gB 1 K v183 K hb355, gA 4 K K, trivial⟩ (.bool (x299.2 == 0)) (fun _ _ => K) rfl
          ·exact Owe.run K [(57, (.bool (x299.2 == 0)))] ⟨gA 5 K K, trivial⟩ (.bool (x299.2 == 0)) (fun _ _ => K) rfl
          ·exact Owe.run K [(13, (pt g308 0)), (58, (.bool false))] ⟨gS K K, gB 6 K (x299.2 == 0) K hb359, trivial⟩ (pt g308 1) (fun _ _ => K) rfl
          ·refine Owe.light K [0] K (all_cons ?_ all_nil)
           ·rintro ρ' w' hs hah ⟨hvl371, hs370⟩
            have e59 := hah 7 59 K
            have e58 := hah 6 58 K
            have hkn : Known ρ' [(59, (pt g308 1)), (58, (.bool false))] := ⟨e59, (Eq.trans e58 (congrArg Value.bool hb359)), trivial⟩
            refine Step.known _ hkn ?_
            refine Step.load (t := 3) (x := (.tmp 59)) (g := g308) (off := 1) (i := 2) (v := (.int .i64 x299.2)) (d := (some 60)) (k := 8) K rfl K hs370 rfl K ?_
            exact ⟨rfl, _, updO_known hkn, rfl⟩
          ·exact Owe.run K [(60, (.int .i64 x299.2)), (58, (.bool false))] ⟨gA 8 K K, gB 6 K (x299.2 == 0) K hb359, trivial⟩ (.bool (decide (x299.2 > 0))) (fun _ _ => K) rfl
          ·exact Owe.run K [(61, (.bool (decide (x299.2 > 0)))), (58, (.bool false))] ⟨gA 9 K K, gB 6 K (x299.2 == 0) K hb359, trivial⟩ (.bool (decide (x299.2 > 0))) (fun _ _ => K) rfl
          ·exact Owe.run K [(2, (.int .u32 p11)), (62, (.bool true))] ⟨gS K K, gB 10 K (decide (x299.2 > 0)) K hb365, trivial⟩ (.int .u32 p11) (fun _ _ => K) rfl
          ·exact Owe.run K [(13, (pt g308 0)), (62, (.bool true))] ⟨gS K K, gB 10 K (decide (x299.2 > 0)) K hb365, trivial⟩ (pt g308 1) (fun _ _ => K) rfl
          ·refine Owe.light K [0] K (all_cons ?_ all_nil)
           ·rintro ρ' w' hs hah ⟨hvl373, hs372⟩
            have e64 := hah 12 64 K
            have e62 := hah 10 62 K
            have hkn : Known ρ' [(64, (pt g308 1)), (62, (.bool true))] := ⟨e64, (Eq.trans e62 (congrArg Value.bool hb365)), trivial⟩
            refine Step.known _ hkn ?_
            refine Step.load (t := 3) (x := (.tmp 64)) (g := g308) (off := 1) (i := 2) (v := (.int .i64 x299.2)) (d := (some 65)) (k := 13) K rfl K hs372 rfl K ?_
            exact ⟨rfl, _, updO_known hkn, rfl⟩
          ·exact Owe.run K [(65, (.int .i64 x299.2)), (62, (.bool true))] ⟨gA 13 K K, gB 10 K (decide (x299.2 > 0)) K hb365, trivial⟩ (.int .i64 (IntKind.wrap .i64 (32 - x299.2))) (fun _ _ => K) rfl
          ·refine Owe.light K [0] K (all_cons ?_ all_nil)
           ·rintro ρ' w' hs hah ⟨hvl375, hs374⟩
            have e63 := hah 11 63 K
            have e66 := hah 14 66 K
            have e62 := hah 10 62 K
            have hkn : Known ρ' [(63, (.int .u32 p11)), (66, (.int .i64 (IntKind.wrap .i64 (32 - x299.2)))), (62, (.bool true))] := ⟨e63, e66, (Eq.trans e62 (congrArg Value.bool hb365)), trivial⟩
            refine Step.known _ hkn ?_
            refine Step.shift (op := .shr) (T := 33) (T' := 3) (x := (.tmp 63)) (y := (.tmp 66)) (kx := .u32) (ky := .i64) (a := p11) (b := (IntKind.wrap .i64 (32 - x299.2))) (v := (.int .u32 (bShr .u32 p11 (IntKind.wrap .i64 (32 - x299.2))))) (d := (some 67)) (k := 15) K rfl K K (of_decide_eq_true hl366) rfl ?_
            exact ⟨rfl, _, updO_known hkn, rfl⟩
          ·exact Owe.run K [(13, (pt g308 0)), (62, (.bool true))] ⟨gS K K, gB 10 K (decide (x299.2 > 0)) K hb365, trivial⟩ (pt g308 0) (fun _ _ => K) rfl
          ·refine Owe.light K [0] K (all_cons ?_ all_nil)
           ·rintro ρ' w' hs hah ⟨hvl377, hs376⟩
            have e68 := hah 16 68 K
            have e62 := hah 10 62 K
            have hkn : Known ρ' [(68, (pt g308 0)), (62, (.bool true))] := ⟨e68, (Eq.trans e62 (congrArg Value.bool hb365)), trivial⟩
            refine Step.known _ hkn ?_
            refine Step.load (t := 33) (x := (.tmp 68)) (g := g308) (off := 0) (i := 2) (v := (.int .u32 x299.1)) (d := (some 69)) (k := 17) K rfl K hs376 rfl K ?_
            exact ⟨rfl, _, updO_known hkn, rfl⟩
          ·exact Owe.run K [(13, (pt g308 0)), (62, (.bool true))] ⟨gS K K, gB 10 K (decide (x299.2 > 0)) K hb365, trivial⟩ (pt g308 1) (fun _ _ => K) rfl
          ·refine Owe.light K [0] K (all_cons ?_ all_nil)
           ·rintro ρ' w' hs hah ⟨hvl379, hs378⟩
            have e70 := hah 18 70 K
            have e62 := hah 10 62 K
            have hkn : Known ρ' [(70, (pt g308 1)), (62, (.bool true))] := ⟨e70, (Eq.trans e62 (congrArg Value.bool hb365)), trivial⟩
            refine Step.known _ hkn ?_
            refine Step.load (t := 3) (x := (.tmp 70)) (g := g308) (off := 1) (i := 2) (v := (.int .i64 x299.2)) (d := (some 71)) (k := 19) K rfl K hs378 rfl K ?_
            exact ⟨rfl, _, updO_known hkn, rfl⟩
          ·exact Owe.run K [(71, (.int .i64 x299.2)), (62, (.bool true))] ⟨gA 19 K K, gB 10 K (decide (x299.2 > 0)) K hb365, trivial⟩ (.int .i64 (IntKind.wrap .i64 (32 - x299.2))) (fun _ _ => K) rfl
          ·refine Owe.light K [0] K (all_cons ?_ all_nil)
           ·rintro ρ' w' hs hah ⟨hvl381, hs380⟩
            have e69 := hah 17 69 K
            have e72 := hah 20 72 K
            have e62 := hah 10 62 K
            have hkn : Known ρ' [(69, (.int .u32 x299.1)), (72, (.int .i64 (IntKind.wrap .i64 (32 - x299.2)))), (62, (.bool true))] := ⟨e69, e72, (Eq.trans e62 (congrArg Value.bool hb365)), trivial⟩
            refine Step.known _ hkn ?_
            refine Step.shift (op := .shr) (T := 33) (T' := 3) (x := (.tmp 69)) (y := (.tmp 72)) (kx := .u32) (ky := .i64) (a := x299.1) (b := (IntKind.wrap .i64 (32 - x299.2))) (v := (.int .u32 (bShr .u32 x299.1 (IntKind.wrap .i64 (32 - x299.2))))) (d := (some 73)) (k := 21) K rfl K K (of_decide_eq_true hl367) rfl ?_
            exact ⟨rfl, _, updO_known hkn, rfl⟩
          ·exact Owe.run K [(67, (.int .u32 (bShr .u32 p11 (IntKind.wrap .i64 (32 - x299.2))))), (73, (.int .u32 (bShr .u32 x299.1 (IntKind.wrap .i64 (32 - x299.2))))), (62, (.bool true))] ⟨gA 15 K K, gA 21 K K, gB 10 K (decide (x299.2 > 0)) K hb365, trivial⟩ (.bool ((bShr .u32 p11 (IntKind.wrap .i64 (32 - x299.2))) == (bShr .u32 x299.1 (IntKind.wrap .i64 (32 - x299.2))))) (fun _ _ => K) rfl
          ·exact Owe.run K [(62, (.bool true)), (74, (.bool ((bShr .u32 p11 (IntKind.wrap .i64 (32 - x299.2))) == (bShr .u32 x299.1 (IntKind.wrap .i64 (32 - x299.2)))))), (58, (.bool false))] ⟨gB 10 K (decide (x299.2 > 0)) K hb365, gA 22 K K, gB 6 K (x299.2 == 0) K hb359, trivial⟩ (.bool ((bShr .u32 p11 (IntKind.wrap .i64 (32 - x299.2))) == (bShr .u32 x299.1 (IntKind.wrap .i64 (32 - x299.2))))) (fun _ _ => K) rfl
          ·exact Owe.run K [(58, (.bool false)), (75, (.bool ((bShr .u32 p11 (IntKind.wrap .i64 (32 - x299.2))) == (bShr .u32 x299.1 (IntKind.wrap .i64 (32 - x299.2))))))] ⟨gB 6 K (x299.2 == 0) K hb359, gA 23 K K, trivial⟩ (.bool ((bShr .u32 p11 (IntKind.wrap .i64 (32 - x299.2))) == (bShr .u32 x299.1 (IntKind.wrap .i64 (32 - x299.2))))) (fun _ _ => K) rfl
          ·exact Owe.run K [(76, (.bool ((bShr .u32 p11 (IntKind.wrap .i64 (32 - x299.2))) == (bShr .u32 x299.1 (IntKind.wrap .i64 (32 - x299.2))))))] ⟨gA 24 K K, trivial⟩ (.bool ((bShr .u32 p11 (IntKind.wrap .i64 (32 - x299.2))) == (bShr .u32 x299.1 (IntKind.wrap .i64 (32 - x299.2))))) (fun _ _ => K) rfl
          ·rintro ρ' w' hs hf ⟨hvl383, hs382⟩
           refine postKnown [(1, (.string ⟨List.toArray p10⟩)), (2, (.int .u32 p11)), (7, (.bool z16)), (8, (pt g32 0)), (9, (pt g59 0)), (10, (.bool z47.2.2.2.2.2)), (11, (.bool ((bShr .u32 p11 (IntKind.wrap .i64 (32 - x299.2))) == (bShr .u32 x299.1 (IntKind.wrap .i64 (32 - x299.2)))))), (12, (.int .i64 v184))] ⟨(hs 1 K).trans K, (hs 2 K).trans K, (hs 7 K).trans K, (hs 8 K).trans K, (hs 9 K).trans K, (hs 10 K).trans K, hf 25 11 K, (hs 12 K).trans K, trivial⟩ ?_
           obtain ⟨w384, hww384⟩ : ∃ x, w' = x := ⟨_, rfl⟩
           rw [hww384] at hs382 ⊢
           exact ⟨((bShr .u32 p11 (IntKind.wrap .i64 (32 - x299.2))) == (bShr .u32 x299.1 (IntKind.wrap .i64 (32 - x299.2)))), ⟨K, K, K, K, K, K, K, K, trivial⟩, SP.sel hs382 [0, 1] rfl rfl, H⟩
         ·have H := cf H hb365
          refine At.stages K K K K K [GEq (.bool v183), GEq (.bool v183), GEq (pt g308 1), GEq (.int .i64 x299.2), GEq (.bool (x299.2 == 0)), GEq (.bool (x299.2 == 0)), GEq (.bool (x299.2 == 0)), GEq (pt g308 1), GEq (.int .i64 x299.2), GEq (.bool (decide (x299.2 > 0))), GEq (.bool (decide (x299.2 > 0))), GEq undef, GEq undef, GEq undef, GEq undef, GEq undef, GEq undef, GEq undef, GEq undef, GEq undef, GEq undef, GEq undef, GEq undef, GEq (.bool false), GEq (.bool false), GEq (.bool false)] [] [([], fun vs w => VL vs [] ∧ SP [] w0 w [gateE g32 F33 d9 o24, boxE g59 45 #[(.string ⟨List.toArray z47.1⟩), (.int .i64 z47.2.1), (.int .i64 z47.2.2.1), (.slice A51 (List.length z47.2.2.2.1) c52), (.slice A54 (List.length z47.2.2.2.2.1) c55)], boxE g308 51 #[(.int .u32 x299.1), (.int .i64 x299.2)]])] (N := 26) K ⟨K, Nat.zero_lt_succ _⟩ (show VL [] [] ∧ SP [] w0 w312.drew [gateE g32 F33 d9 o24, boxE g59 45 #[(.string ⟨List.toArray z47.1⟩), (.int .i64 z47.2.1), (.int .i64 z47.2.2.1), (.slice A51 (List.length z47.2.2.2.1) c52), (.slice A54 (List.length z47.2.2.2.2.1) c55)], boxE g308 51 #[(.int .u32 x299.1), (.int .i64 x299.2)]] from ⟨trivial, SP.drew hs314⟩) ⟨⟨⟨⟨⟨⟨⟨⟨⟨⟨⟨⟨⟨⟨⟨⟨⟨⟨⟨⟨⟨⟨⟨⟨⟨⟨trivial, ?_⟩, ?_⟩, ?_⟩, ?_⟩, ?_⟩, ?_⟩, ?_⟩, ?_⟩, ?_⟩, ?_⟩, ?_⟩, ?_⟩, ?_⟩, ?_⟩, ?_⟩, ?_⟩, ?_⟩, ?_⟩, ?_⟩, ?_⟩, ?_⟩, ?_⟩, ?_⟩, ?_⟩, ?_⟩, ?_⟩ (last := 0) K ?_
          ·exact Owe.run K [(11, (.bool v183))] ⟨gS K K, trivial⟩ (.bool v183) (fun _ _ => K) rfl
          ·exact Owe.run K [(52, (.bool v183))] ⟨gA 0 K K, trivial⟩ (.bool v183) (fun _ _ => K) rfl
          ·exact Owe.run K [(13, (pt g308 0)), (53, (.bool false))] ⟨gS K K, gB 1 K v183 K hb355, trivial⟩ (pt g308 1) (fun _ _ => K) rfl
          ·refine Owe.light K [0] K (all_cons ?_ all_nil)
           ·rintro ρ' w' hs hah ⟨hvl386, hs385⟩
            have e54 := hah 2 54 K
            have e53 := hah 1 53 K
            have hkn : Known ρ' [(54, (pt g308 1)), (53, (.bool false))] := ⟨e54, (Eq.trans e53 (congrArg Value.bool hb355)), trivial⟩
            refine Step.known _ hkn ?_
            refine Step.load (t := 3) (x := (.tmp 54)) (g := g308) (off := 1) (i := 2) (v := (.int .i64 x299.2)) (d := (some 55)) (k := 3) K rfl K hs385 rfl K ?_
            exact ⟨rfl, _, updO_known hkn, rfl⟩
          ·exact Owe.run K [(55, (.int .i64 x299.2)), (53, (.bool false))] ⟨gA 3 K K, gB 1 K v183 K hb355, trivial⟩ (.bool (x299.2 == 0)) (fun _ _ => K) rfl
          ·exact Owe.run K [(53, (.bool false)), (56, (.bool (x299.2 == 0)))] ⟨gB 1 K v183 K hb355, gA 4 K K, trivial⟩ (.bool (x299.2 == 0)) (fun _ _ => K) rfl
          ·exact Owe.run K [(57, (.bool (x299.2 == 0)))] ⟨gA 5 K K, trivial⟩ (.bool (x299.2 == 0)) (fun _ _ => K) rfl
          ·exact Owe.run K [(13, (pt g308 0)), (58, (.bool false))] ⟨gS K K, gB 6 K (x299.2 == 0) K hb359, trivial⟩ (pt g308 1) (fun _ _ => K) rfl
          ·refine Owe.light K [0] K (all_cons ?_ all_nil)
           ·rintro ρ' w' hs hah ⟨hvl388, hs387⟩
            have e59 := hah 7 59 K
            have e58 := hah 6 58 K
            have hkn : Known ρ' [(59, (pt g308 1)), (58, (.bool false))] := ⟨e59, (Eq.trans e58 (congrArg Value.bool hb359)), trivial⟩
            refine Step.known _ hkn ?_
            refine Step.load (t := 3) (x := (.tmp 59)) (g := g308) (off := 1) (i := 2) (v := (.int .i64 x299.2)) (d := (some 60)) (k := 8) K rfl K hs387 rfl K ?_
            exact ⟨rfl, _, updO_known hkn, rfl⟩
          ·exact Owe.run K [(60, (.int .i64 x299.2)), (58, (.bool false))] ⟨gA 8 K K, gB 6 K (x299.2 == 0) K hb359, trivial⟩ (.bool (decide (x299.2 > 0))) (fun _ _ => K) rfl
          ·exact Owe.run K [(61, (.bool (decide (x299.2 > 0)))), (58, (.bool false))] ⟨gA 9 K K, gB 6 K (x299.2 == 0) K hb359, trivial⟩ (.bool (decide (x299.2 > 0))) (fun _ _ => K) rfl
          ·exact Owe.skip K [(62, (.bool false))] ⟨gB 10 K (decide (x299.2 > 0)) K hb365, trivial⟩ (some 63) (fun _ => K) K rfl
          ·exact Owe.skip K [(62, (.bool false))] ⟨gB 10 K (decide (x299.2 > 0)) K hb365, trivial⟩ (some 64) (fun _ => K) K rfl
          ·exact Owe.skip K [(62, (.bool false))] ⟨gB 10 K (decide (x299.2 > 0)) K hb365, trivial⟩ (some 65) (fun _ => K) K rfl
          ·exact Owe.skip K [(62, (.bool false))] ⟨gB 10 K (decide (x299.2 > 0)) K hb365, trivial⟩ (some 66) (fun _ => K) K rfl
          ·exact Owe.skip K [(62, (.bool false))] ⟨gB 10 K (decide (x299.2 > 0)) K hb365, trivial⟩ (some 67) (fun _ => K) K rfl
          ·exact Owe.skip K [(62, (.bool false))] ⟨gB 10 K (decide (x299.2 > 0)) K hb365, trivial⟩ (some 68) (fun _ => K) K rfl
          ·exact Owe.skip K [(62, (.bool false))] ⟨gB 10 K (decide (x299.2 > 0)) K hb365, trivial⟩ (some 69) (fun _ => K) K rfl
          ·exact Owe.skip K [(62, (.bool false))] ⟨gB 10 K (decide (x299.2 > 0)) K hb365, trivial⟩ (some 70) (fun _ => K) K rfl
          ·exact Owe.skip K [(62, (.bool false))] ⟨gB 10 K (decide (x299.2 > 0)) K hb365, trivial⟩ (some 71) (fun _ => K) K rfl
          ·exact Owe.skip K [(62, (.bool false))] ⟨gB 10 K (decide (x299.2 > 0)) K hb365, trivial⟩ (some 72) (fun _ => K) K rfl
          ·exact Owe.skip K [(62, (.bool false))] ⟨gB 10 K (decide (x299.2 > 0)) K hb365, trivial⟩ (some 73) (fun _ => K) K rfl
          ·exact Owe.skip K [(62, (.bool false))] ⟨gB 10 K (decide (x299.2 > 0)) K hb365, trivial⟩ (some 74) (fun _ => K) K rfl
          ·exact Owe.run K [(62, (.bool false)), (74, undef), (58, (.bool false))] ⟨gB 10 K (decide (x299.2 > 0)) K hb365, gA 22 K K, gB 6 K (x299.2 == 0) K hb359, trivial⟩ (.bool false) (fun _ _ => K) rfl
          ·exact Owe.run K [(58, (.bool false)), (75, (.bool false))] ⟨gB 6 K (x299.2 == 0) K hb359, gA 23 K K, trivial⟩ (.bool false) (fun _ _ => K) rfl
          ·exact Owe.run K [(76, (.bool false))] ⟨gA 24 K K, trivial⟩ (.bool false) (fun _ _ => K) rfl
          ·rintro ρ' w' hs hf ⟨hvl390, hs389⟩
           refine postKnown [(1, (.string ⟨List.toArray p10⟩)), (2, (.int .u32 p11)), (7, (.bool z16)), (8, (pt g32 0)), (9, (pt g59 0)), (10, (.bool z47.2.2.2.2.2)), (11, (.bool false)), (12, (.int .i64 v184))] ⟨(hs 1 K).trans K, (hs 2 K).trans K, (hs 7 K).trans K, (hs 8 K).trans K, (hs 9 K).trans K, (hs 10 K).trans K, hf 25 11 K, (hs 12 K).trans K, trivial⟩ ?_
           obtain ⟨w391, hww391⟩ : ∃ x, w' = x := ⟨_, rfl⟩
           rw [hww391] at hs389 ⊢
           exact ⟨false, ⟨K, K, K, K, K, K, K, K, trivial⟩, SP.sel hs389 [0, 1] rfl rfl, H⟩
      ·rintro ρ w353 ⟨v352, hk, hs354, H⟩
       unfold L_subwaylaw11_GateNets_k9 at H
       first | refine At.known [(1, (.string ⟨List.toArray p10⟩)), (2, (.int .u32 p11)), (7, (.bool z16)), (8, (pt g32 0)), (9, (pt g59 0)), (10, (.bool z47.2.2.2.2.2)), (11, (.bool v352)), (12, (.int .i64 v184))] hk ?_ | rw [← known_updL (l := [(1, (.string ⟨List.toArray p10⟩)), (2, (.int .u32 p11)), (7, (.bool z16)), (8, (pt g32 0)), (9, (pt g59 0)), (10, (.bool z47.2.2.2.2.2)), (11, (.bool v352)), (12, (.int .i64 v184))]) hk]
       refine At.region K K ?_
       refine In.run' 3 (k' := 3) rfl [(45, (.int .i64 v184)), (46, (.int .i64 (IntKind.wrap .i64 (v184 + 1)))), (12, (.int .i64 (IntKind.wrap .i64 (v184 + 1))))] K ?_
       refine In.fin K ?_
       exact ⟨v352, (IntKind.wrap .i64 (v184 + 1)), ⟨K, K, K, K, K, K, K, K, trivial⟩, SP.sel hs354 [0, 1] rfl rfl, H⟩
     ·have H := cf H hb298
      refine At.exit K (id := 0) K ?_
      refine At.sq K ?_
      refine At.region K K ?_
      refine In.run' 3 (k' := 3) rfl [(77, (pt g32 0)), (78, (.string ⟨List.toArray p10⟩)), (79, (.int .u32 p11))] K ?_
      obtain ⟨z392, hz393, H⟩ := bind_elim H
      refine In.step (k' := 4) rfl K ?_
      refine Step.callF (f := 16) (fo := (.func 16)) (xs := #[(.tmp 77), (.tmp 78), (.tmp 79)]) (tys := #[29, 9, 33]) (first := #[]) (captured := #[]) (d := (some 80)) (k := 3) K rfl K K Tryd.call16 (L_gate_Gate_Admit_walk g32 A6 c7 F33 d9 o24 p10 p11 w181 (SP.sub hs182 [0] rfl rfl) (fun w hm => Dp.mono _ (SP.below_of hs182 (l := [0]) rfl hm) hr8) z392 hz393) ?_
      rintro e w394 ⟨rfl, hs395⟩
      refine ⟨_, rfl, ?_⟩
      have hs397 : SP [] w0 w394 [boxE g59 45 #[(.string ⟨List.toArray z47.1⟩), (.int .i64 z47.2.1), (.int .i64 z47.2.2.1), (.slice A51 (List.length z47.2.2.2.1) c52), (.slice A54 (List.length z47.2.2.2.2.1) c55)], gateE g32 F33 d9 o24] := SP.callS hs182 [0] [1] rfl rfl hs395 rfl
      clear hs395
      refine In.run' 1 (k' := 5) rfl [(14, (.int .i64 z392))] K ?_
      refine In.fin K ?_
      refine At.sq K ?_
      refine At.sq K ?_
      refine At.region K K ?_
      refine In.run' 2 (k' := 2) rfl [(81, (.bool z47.2.2.2.2.2)), (82, (.bool (!z47.2.2.2.2.2)))] K ?_
      refine In.fin K ?_
      refine At.cd K (o := (.tmp 82)) K (b := (!z47.2.2.2.2.2)) K (fun hb398 => ?_) (fun hb398 => ?_)
      ·have H := ct H hb398
       refine At.sq K ?_
       refine At.join (fun ρ w => ∃ (v400 : Bool), Known ρ [(6, (.bool v400))] ∧ SP [] w0 w [] ∧ L_subwaylaw11_GateNets_k10 (L_subwaylaw11_GateNets_l5 (List.map stT d9) p10 p11 z16 o24 z47 f8) v400 = some r) ?_ ?_
       ·refine At.region K K ?_
        refine In.run' 2 (k' := 2) rfl [(83, (.bool z16)), (84, (.bool z16))] K ?_
        refine In.guard (t := 84) (b := z16) K (fun hb403 => ?_) (fun hb403 => ?_)
        ·have H := ct H hb403
         refine In.run' 4 (k' := 6) rfl [(85, (.int .i64 z392)), (86, (.bool (z392 == 3))), (87, (.bool (z392 == 3))), (6, (.bool (z392 == 3)))] K ?_
         refine In.fin K ?_
         exact ⟨(z392 == 3), ⟨K, trivial⟩, SP.sel hs397 [] rfl rfl, H⟩
        ·have H := cf H hb403
         refine In.run' 4 (k' := 6) rfl [(85, undef), (86, undef), (87, (.bool false)), (6, (.bool false))] K ?_
         refine In.fin K ?_
         exact ⟨false, ⟨K, trivial⟩, SP.sel hs397 [] rfl rfl, H⟩
       ·rintro ρ w401 ⟨v400, hk, hs402, H⟩
        unfold L_subwaylaw11_GateNets_k10 at H
        first | refine At.known [(6, (.bool v400))] hk ?_ | rw [← known_updL (l := [(6, (.bool v400))]) hk]
        refine At.ret K ?_
        refine ⟨(.bool v400), K, ?_⟩
        obtain rfl := some_elim H
        exact ⟨rfl, SP.sel hs402 [] rfl rfl⟩
      ·have H := cf H hb398
       refine At.skip K ?_
       refine At.sq K ?_
       refine At.join (fun ρ w => ∃ (v406 : Bool), Known ρ [(6, (.bool v406))] ∧ SP [] w0 w [] ∧ L_subwaylaw11_GateNets_k11 (L_subwaylaw11_GateNets_l5 (List.map stT d9) p10 p11 z16 o24 z47 f8) v406 = some r) ?_ ?_
       ·refine At.region K K ?_
        refine In.run' 2 (k' := 2) rfl [(88, (.bool z16)), (89, (.bool z16))] K ?_
        refine In.guard (t := 89) (b := z16) K (fun hb409 => ?_) (fun hb409 => ?_)
        ·have H := ct H hb409
         refine In.run' 6 (k' := 8) rfl [(90, (.int .i64 z392)), (91, (.bool (z392 == 0))), (92, (.bool v183)), (93, (.bool ((z392 == 0) == v183))), (94, (.bool ((z392 == 0) == v183))), (95, (.bool ((z392 == 0) == v183)))] K ?_
         refine In.guard (t := 95) (b := ((z392 == 0) == v183)) K (fun hb410 => ?_) (fun hb410 => ?_)
         ·have H := ct H hb410
          refine In.run' 7 (k' := 15) rfl [(96, (.int .i64 z392)), (97, (.bool (z392 == 111))), (98, (.bool v183)), (99, (.bool (!v183))), (100, (.bool ((z392 == 111) == (!v183)))), (101, (.bool ((z392 == 111) == (!v183)))), (6, (.bool ((z392 == 111) == (!v183))))] K ?_
          refine In.fin K ?_
          exact ⟨((z392 == 111) == (!v183)), ⟨K, trivial⟩, SP.sel hs397 [] rfl rfl, H⟩
         ·have H := cf H hb410
          refine In.run' 7 (k' := 15) rfl [(96, undef), (97, undef), (98, undef), (99, undef), (100, undef), (101, (.bool false)), (6, (.bool false))] K ?_
          refine In.fin K ?_
          exact ⟨false, ⟨K, trivial⟩, SP.sel hs397 [] rfl rfl, H⟩
        ·have H := cf H hb409
         refine In.run' 13 (k' := 15) rfl [(90, undef), (91, undef), (92, undef), (93, undef), (94, (.bool false)), (95, (.bool false)), (96, undef), (97, undef), (98, undef), (99, undef), (100, undef), (101, (.bool false)), (6, (.bool false))] K ?_
         refine In.fin K ?_
         exact ⟨false, ⟨K, trivial⟩, SP.sel hs397 [] rfl rfl, H⟩
       ·rintro ρ w407 ⟨v406, hk, hs408, H⟩
        unfold L_subwaylaw11_GateNets_k11 at H
        first | refine At.known [(6, (.bool v406))] hk ?_ | rw [← known_updL (l := [(6, (.bool v406))]) hk]
        refine At.ret K ?_
        refine ⟨(.bool v406), K, ?_⟩
        obtain rfl := some_elim H
        exact ⟨rfl, SP.sel hs408 [] rfl rfl⟩
    ·exact ⟨(((List.length z47.2.2.2.1 : Nat) : Int) == 0), 0, ⟨K, K, K, K, K, K, K, K, trivial⟩, SP.sel hs65 [1, 2] rfl rfl, H⟩
end Go.Proofs.YtfffjaijflbeaaaDoor
