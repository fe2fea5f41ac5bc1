/- LIFTED BY PROGRAM (tools/lift.py): what functions compute, and that they do. -/
import Derived.Test.YtfffjaijflbeaaaDoorDeep
import Derived.Test.YtfffjaijflbeaaaDoorLR4
namespace Go.Proofs.YtfffjaijflbeaaaDoor
set_option linter.unusedSimpArgs false
set_option linter.unusedVariables false
open Go.RowKit

/-! L_subwayref09_rightTenant -/
def L_subwayref09_rightTenant_k14 (rec10 : Int → Option (Bool)) (rec13 : Int → Option (Bool)) (v6027 : Int) (v7305 : Bool) : Option (Bool) :=
  (cond v7305 (some (false)) (rec13 (IntKind.wrap .i64 (v6027 + 1))))
def L_subwayref09_rightTenant_b12 (rec10 : Int → Option (Bool)) (rec13 : Int → Option (Bool)) (pTokens8 : (List ((List UInt8) × (List UInt8) × Int))) (v6027 : Int) : Option (Bool) :=
  (cond (decide (v6027 < ((List.length pTokens8 : Nat) : Int))) ((idx pTokens8 v6027).bind fun x6876 => ((L_subwayref04_Name x6876.1).bind fun z7309 => (cond (!z7309) (L_subwayref09_rightTenant_k14 rec10 rec13 v6027 true) (cond (decide (v6027 > 0)) ((idx pTokens8 (IntKind.wrap .i64 (v6027 - 1))).bind fun x7333 => (cond (!(Op.bytesLess x7333.1 x6876.1)) (L_subwayref09_rightTenant_k14 rec10 rec13 v6027 true) (cond (x6876.2.1 == ([] : List UInt8)) (L_subwayref09_rightTenant_k14 rec10 rec13 v6027 true) (cond (decide (((List.length x6876.2.1 : Nat) : Int) > 32)) (L_subwayref09_rightTenant_k14 rec10 rec13 v6027 true) (cond (decide (x6876.2.2 < 0)) (L_subwayref09_rightTenant_k14 rec10 rec13 v6027 true) (L_subwayref09_rightTenant_k14 rec10 rec13 v6027 (decide (x6876.2.2 > 1099511627776)))))))) (cond (x6876.2.1 == ([] : List UInt8)) (L_subwayref09_rightTenant_k14 rec10 rec13 v6027 true) (cond (decide (((List.length x6876.2.1 : Nat) : Int) > 32)) (L_subwayref09_rightTenant_k14 rec10 rec13 v6027 true) (cond (decide (x6876.2.2 < 0)) (L_subwayref09_rightTenant_k14 rec10 rec13 v6027 true) (L_subwayref09_rightTenant_k14 rec10 rec13 v6027 (decide (x6876.2.2 > 1099511627776)))))))))) (some (true)))
def L_subwayref09_rightTenant_l12 (rec10 : Int → Option (Bool)) (pTokens8 : (List ((List UInt8) × (List UInt8) × Int))) : Nat → Int → Option (Bool)
  | 0, _ => none
  | f + 1, v6027 => L_subwayref09_rightTenant_b12 rec10 (L_subwayref09_rightTenant_l12 rec10 pTokens8 f) pTokens8 v6027
def L_subwayref09_rightTenant_b6 (rec10 : Int → Option (Bool)) (pNets4 : (List (Int × Int))) (pTokens8 : (List ((List UInt8) × (List UInt8) × Int))) (v2597 : Int) : Option (Bool) :=
  (cond (decide (v2597 < ((List.length pNets4 : Nat) : Int))) ((idx pNets4 v2597).bind fun x5161 => ((L_subwayref04_Right x5161.1 x5161.2).bind fun z5170 => (cond (!z5170) (some (false)) (rec10 (IntKind.wrap .i64 (v2597 + 1)))))) (L_subwayref09_rightTenant_l12 rec10 pTokens8 fuel 0))
def L_subwayref09_rightTenant_l6 (pNets4 : (List (Int × Int))) (pTokens8 : (List ((List UInt8) × (List UInt8) × Int))) : Nat → Int → Option (Bool)
  | 0, _ => none
  | f + 1, v2597 => L_subwayref09_rightTenant_b6  (L_subwayref09_rightTenant_l6 pNets4 pTokens8 f) pNets4 pTokens8 v2597
def L_subwayref09_rightTenant_k1 (pNets4 : (List (Int × Int))) (pTokens8 : (List ((List UInt8) × (List UInt8) × Int))) (v28 : Bool) : Option (Bool) :=
  (cond v28 (some (false)) (L_subwayref09_rightTenant_l6 pNets4 pTokens8 fuel 0))
def L_subwayref09_rightTenant (pName1 : (List UInt8)) (pNames2 : Int) (pVisitors3 : Int) (pNets4 : (List (Int × Int))) (pTokens8 : (List ((List UInt8) × (List UInt8) × Int))) : Option (Bool) :=
  ((L_subwayref04_Name pName1).bind fun z7722 => (cond (!z7722) (L_subwayref09_rightTenant_k1 pNets4 pTokens8 true) (cond (decide (pNames2 < 0)) (L_subwayref09_rightTenant_k1 pNets4 pTokens8 true) (cond (decide (pNames2 > 8)) (L_subwayref09_rightTenant_k1 pNets4 pTokens8 true) (cond (decide (pVisitors3 < 0)) (L_subwayref09_rightTenant_k1 pNets4 pTokens8 true) (cond (decide (pVisitors3 > 8)) (L_subwayref09_rightTenant_k1 pNets4 pTokens8 true) (cond (decide (((List.length pNets4 : Nat) : Int) > 4)) (L_subwayref09_rightTenant_k1 pNets4 pTokens8 true) (L_subwayref09_rightTenant_k1 pNets4 pTokens8 (decide (((List.length pTokens8 : Nat) : Int) > 4))))))))))
set_option maxRecDepth 100000 in
set_option maxHeartbeats 4000000 in
theorem L_subwayref09_rightTenant_walk (A5 : Option Addr) (c6 : Nat) (A9 : Option Addr) (c10 : Nat) (pName1 : (List UInt8)) (pNames2 : Int) (pVisitors3 : Int) (pNets4 : (List (Int × Int))) (pTokens8 : (List ((List UInt8) × (List UInt8) × Int))) (w0 : World) (hr7 : RdT (ePair (eInt .u32) (eInt .i64)) w0 A5 c6 pNets4) (hr11 : RdT (ePair eStr (ePair eStr (eInt .i64))) w0 A9 c10 pTokens8) (r : (Bool)) (H : L_subwayref09_rightTenant pName1 pNames2 pVisitors3 pNets4 pTokens8 = some r) :
  Calls Tryd.prog 38 #[(.agg #[(.string ⟨List.toArray pName1⟩), (.int .i64 pNames2), (.int .i64 pVisitors3), (.slice A5 (List.length pNets4) c6), (.slice A9 (List.length pTokens8) c10)])] w0 (fun e w' => e = .returned (.bool r) ∧ SP [] w0 w' []) := by
 unfold L_subwayref09_rightTenant at H
 refine calls_go (n := 109) Tryd.func38 K K K ?_
 have hs0 := SP.start [] w0
 refine At.sq K ?_
 refine At.region K K ?_
 refine In.step (k' := 1) rfl K ?_
 refine Step.box (t := 45) (x := (.tmp 0)) (v := (.agg #[(.string ⟨List.toArray pName1⟩), (.int .i64 pNames2), (.int .i64 pVisitors3), (.slice A5 (List.length pNets4) c6), (.slice A9 (List.length pTokens8) c10)])) (d := (some 1)) (k := 0) K rfl K hs0 ?_
 intro g12 w13 (hs15 : SP [] w0 w13 [boxE g12 45 #[(.string ⟨List.toArray pName1⟩), (.int .i64 pNames2), (.int .i64 pVisitors3), (.slice A5 (List.length pNets4) c6), (.slice A9 (List.length pTokens8) c10)]])
 refine In.run' 1 (k' := 2) rfl [(2, (.bool false))] K ?_
 refine In.fin K ?_
 refine At.sq K ?_
 refine At.sq K ?_
 refine At.join (fun ρ w => ∃ (v28 : Bool), Known ρ [(1, (pt g12 0)), (41, (.bool v28))] ∧ SP [] w0 w [boxE g12 45 #[(.string ⟨List.toArray pName1⟩), (.int .i64 pNames2), (.int .i64 pVisitors3), (.slice A5 (List.length pNets4) c6), (.slice A9 (List.length pTokens8) c10)]] ∧ L_subwayref09_rightTenant_k1 pNets4 pTokens8 v28 = some r) ?_ ?_
 ·refine At.region K K ?_
  refine In.run' 1 (k' := 1) rfl [(6, (pt g12 0))] K ?_
  refine In.step (k' := 2) rfl K ?_
  refine Step.load (t := 9) (x := (.tmp 6)) (g := g12) (off := 0) (i := 0) (v := (.string ⟨List.toArray pName1⟩)) (d := (some 7)) (k := 1) K rfl K hs15 rfl K ?_
  obtain ⟨z7722, hz7723, H⟩ := bind_elim H
  refine In.step (k' := 3) rfl K ?_
  refine Step.callF (f := 54) (fo := (.func 54)) (xs := #[(.tmp 7)]) (tys := #[9]) (first := #[]) (captured := #[]) (d := (some 8)) (k := 2) K rfl K K Tryd.call54 (L_subwayref04_Name_walk  pName1 w13  z7722 hz7723) ?_
  rintro e w7724 ⟨rfl, hs7725⟩
  refine ⟨_, rfl, ?_⟩
  have hs7727 : SP [] w0 w7724 [boxE g12 45 #[(.string ⟨List.toArray pName1⟩), (.int .i64 pNames2), (.int .i64 pVisitors3), (.slice A5 (List.length pNets4) c6), (.slice A9 (List.length pTokens8) c10)]] := SP.call hs15 hs7725
  clear hs7725
  refine In.run' 2 (k' := 5) rfl [(9, (.bool (!z7722))), (10, (.bool (!z7722)))] K ?_
  refine In.guard (t := 10) (b := (!z7722)) K (fun hb7728 => ?_) (fun hb7728 => ?_)
  ·have H := ct H hb7728
   refine In.run' 31 (k' := 36) rfl [(11, undef), (12, undef), (13, undef), (14, (.bool true)), (15, (.bool true)), (16, undef), (17, undef), (18, undef), (19, (.bool true)), (20, (.bool true)), (21, undef), (22, undef), (23, undef), (24, (.bool true)), (25, (.bool true)), (26, undef), (27, undef), (28, undef), (29, (.bool true)), (30, (.bool true)), (31, undef), (32, undef), (33, undef), (34, undef), (35, (.bool true)), (36, (.bool true)), (37, undef), (38, undef), (39, undef), (40, undef), (41, (.bool true))] K ?_
   refine In.fin K ?_
   exact ⟨true, ⟨K, K, trivial⟩, SP.sel hs7727 [0] rfl rfl, H⟩
  ·have H := cf H hb7728
   refine In.run' 1 (k' := 6) rfl [(11, (pt g12 1))] K ?_
   refine In.step (k' := 7) rfl K ?_
   refine Step.load (t := 3) (x := (.tmp 11)) (g := g12) (off := 1) (i := 0) (v := (.int .i64 pNames2)) (d := (some 12)) (k := 6) K rfl K hs7727 rfl K ?_
   refine In.run' 3 (k' := 10) rfl [(13, (.bool (decide (pNames2 < 0)))), (14, (.bool (decide (pNames2 < 0)))), (15, (.bool (decide (pNames2 < 0))))] K ?_
   refine In.guard (t := 15) (b := (decide (pNames2 < 0))) K (fun hb7729 => ?_) (fun hb7729 => ?_)
   ·have H := ct H hb7729
    refine In.run' 26 (k' := 36) rfl [(16, undef), (17, undef), (18, undef), (19, (.bool true)), (20, (.bool true)), (21, undef), (22, undef), (23, undef), (24, (.bool true)), (25, (.bool true)), (26, undef), (27, undef), (28, undef), (29, (.bool true)), (30, (.bool true)), (31, undef), (32, undef), (33, undef), (34, undef), (35, (.bool true)), (36, (.bool true)), (37, undef), (38, undef), (39, undef), (40, undef), (41, (.bool true))] K ?_
    refine In.fin K ?_
    exact ⟨true, ⟨K, K, trivial⟩, SP.sel hs7727 [0] rfl rfl, H⟩
   ·have H := cf H hb7729
    refine In.run' 1 (k' := 11) rfl [(16, (pt g12 1))] K ?_
    refine In.step (k' := 12) rfl K ?_
    refine Step.load (t := 3) (x := (.tmp 16)) (g := g12) (off := 1) (i := 0) (v := (.int .i64 pNames2)) (d := (some 17)) (k := 11) K rfl K hs7727 rfl K ?_
    refine In.run' 3 (k' := 15) rfl [(18, (.bool (decide (pNames2 > 8)))), (19, (.bool (decide (pNames2 > 8)))), (20, (.bool (decide (pNames2 > 8))))] K ?_
    refine In.guard (t := 20) (b := (decide (pNames2 > 8))) K (fun hb7730 => ?_) (fun hb7730 => ?_)
    ·have H := ct H hb7730
     refine In.run' 21 (k' := 36) rfl [(21, undef), (22, undef), (23, undef), (24, (.bool true)), (25, (.bool true)), (26, undef), (27, undef), (28, undef), (29, (.bool true)), (30, (.bool true)), (31, undef), (32, undef), (33, undef), (34, undef), (35, (.bool true)), (36, (.bool true)), (37, undef), (38, undef), (39, undef), (40, undef), (41, (.bool true))] K ?_
     refine In.fin K ?_
     exact ⟨true, ⟨K, K, trivial⟩, SP.sel hs7727 [0] rfl rfl, H⟩
    ·have H := cf H hb7730
     refine In.run' 1 (k' := 16) rfl [(21, (pt g12 2))] K ?_
     refine In.step (k' := 17) rfl K ?_
     refine Step.load (t := 3) (x := (.tmp 21)) (g := g12) (off := 2) (i := 0) (v := (.int .i64 pVisitors3)) (d := (some 22)) (k := 16) K rfl K hs7727 rfl K ?_
     refine In.run' 3 (k' := 20) rfl [(23, (.bool (decide (pVisitors3 < 0)))), (24, (.bool (decide (pVisitors3 < 0)))), (25, (.bool (decide (pVisitors3 < 0))))] K ?_
     refine In.guard (t := 25) (b := (decide (pVisitors3 < 0))) K (fun hb7731 => ?_) (fun hb7731 => ?_)
     ·have H := ct H hb7731
      refine In.run' 16 (k' := 36) rfl [(26, undef), (27, undef), (28, undef), (29, (.bool true)), (30, (.bool true)), (31, undef), (32, undef), (33, undef), (34, undef), (35, (.bool true)), (36, (.bool true)), (37, undef), (38, undef), (39, undef), (40, undef), (41, (.bool true))] K ?_
      refine In.fin K ?_
      exact ⟨true, ⟨K, K, trivial⟩, SP.sel hs7727 [0] rfl rfl, H⟩
     ·have H := cf H hb7731
      refine In.run' 1 (k' := 21) rfl [(26, (pt g12 2))] K ?_
      refine In.step (k' := 22) rfl K ?_
      refine Step.load (t := 3) (x := (.tmp 26)) (g := g12) (off := 2) (i := 0) (v := (.int .i64 pVisitors3)) (d := (some 27)) (k := 21) K rfl K hs7727 rfl K ?_
      refine In.run' 3 (k' := 25) rfl [(28, (.bool (decide (pVisitors3 > 8)))), (29, (.bool (decide (pVisitors3 > 8)))), (30, (.bool (decide (pVisitors3 > 8))))] K ?_
      refine In.guard (t := 30) (b := (decide (pVisitors3 > 8))) K (fun hb7732 => ?_) (fun hb7732 => ?_)
      ·have H := ct H hb7732
       refine In.run' 11 (k' := 36) rfl [(31, undef), (32, undef), (33, undef), (34, undef), (35, (.bool true)), (36, (.bool true)), (37, undef), (38, undef), (39, undef), (40, undef), (41, (.bool true))] K ?_
       refine In.fin K ?_
       exact ⟨true, ⟨K, K, trivial⟩, SP.sel hs7727 [0] rfl rfl, H⟩
      ·have H := cf H hb7732
       refine In.run' 1 (k' := 26) rfl [(31, (pt g12 3))] K ?_
       refine In.step (k' := 27) rfl K ?_
       refine Step.load (t := 42) (x := (.tmp 31)) (g := g12) (off := 3) (i := 0) (v := (.slice A5 (List.length pNets4) c6)) (d := (some 32)) (k := 26) K rfl K hs7727 rfl K ?_
       refine In.run' 4 (k' := 31) rfl [(33, (.int .i64 ((List.length pNets4 : Nat) : Int))), (34, (.bool (decide (((List.length pNets4 : Nat) : Int) > 4)))), (35, (.bool (decide (((List.length pNets4 : Nat) : Int) > 4)))), (36, (.bool (decide (((List.length pNets4 : Nat) : Int) > 4))))] K ?_
       refine In.guard (t := 36) (b := (decide (((List.length pNets4 : Nat) : Int) > 4))) K (fun hb7733 => ?_) (fun hb7733 => ?_)
       ·have H := ct H hb7733
        refine In.run' 5 (k' := 36) rfl [(37, undef), (38, undef), (39, undef), (40, undef), (41, (.bool true))] K ?_
        refine In.fin K ?_
        exact ⟨true, ⟨K, K, trivial⟩, SP.sel hs7727 [0] rfl rfl, H⟩
       ·have H := cf H hb7733
        refine In.run' 1 (k' := 32) rfl [(37, (pt g12 4))] K ?_
        refine In.step (k' := 33) rfl K ?_
        refine Step.load (t := 43) (x := (.tmp 37)) (g := g12) (off := 4) (i := 0) (v := (.slice A9 (List.length pTokens8) c10)) (d := (some 38)) (k := 32) K rfl K hs7727 rfl K ?_
        refine In.run' 3 (k' := 36) rfl [(39, (.int .i64 ((List.length pTokens8 : Nat) : Int))), (40, (.bool (decide (((List.length pTokens8 : Nat) : Int) > 4)))), (41, (.bool (decide (((List.length pTokens8 : Nat) : Int) > 4))))] K ?_
        refine In.fin K ?_
        exact ⟨(decide (((List.length pTokens8 : Nat) : Int) > 4)), ⟨K, K, trivial⟩, SP.sel hs7727 [0] rfl rfl, H⟩
 ·rintro ρ w29 ⟨v28, hk, hs30, H⟩
  unfold L_subwayref09_rightTenant_k1 at H
  first | refine At.known [(1, (pt g12 0)), (41, (.bool v28))] hk ?_ | rw [← known_updL (l := [(1, (pt g12 0)), (41, (.bool v28))]) hk]
  refine At.cd K (o := (.tmp 41)) K (b := v28) K (fun hb31 => ?_) (fun hb31 => ?_)
  ·have H := ct H hb31
   refine At.sq K ?_
   refine At.region K K ?_
   refine In.run' 1 (k' := 1) rfl [(2, (.bool false))] K ?_
   refine In.fin K ?_
   refine At.ret K ?_
   refine ⟨(.bool false), K, ?_⟩
   obtain rfl := some_elim H
   exact ⟨rfl, SP.sel hs30 [] rfl rfl⟩
  ·have H := cf H hb31
   refine At.skip K ?_
   refine At.sq K ?_
   refine At.sq K ?_
   refine At.region K K ?_
   refine In.run' 1 (k' := 1) rfl [(3, (.int .i64 0))] K ?_
   refine In.fin K ?_
   refine At.bk K (id := 0) K ?_
   refine At.lp K (fun f10 ρ w => ∃ (v2597 : Int), Known ρ [(1, (pt g12 0)), (3, (.int .i64 v2597))] ∧ SP [] w0 w [boxE g12 45 #[(.string ⟨List.toArray pName1⟩), (.int .i64 pNames2), (.int .i64 pVisitors3), (.slice A5 (List.length pNets4) c6), (.slice A9 (List.length pTokens8) c10)]] ∧ L_subwayref09_rightTenant_l6 pNets4 pTokens8 f10 v2597 = some r) (by rintro ρ w ⟨v2597, hk, hs, H⟩; cases H) ?_ fuel ?_
   ·rintro f10 ρ w2595 ⟨v2597, hk, hs2596, H⟩
    refine At.known [(1, (pt g12 0)), (3, (.int .i64 v2597))] hk ?_
    replace H := (show L_subwayref09_rightTenant_b6 (L_subwayref09_rightTenant_l6 pNets4 pTokens8 f10) pNets4 pTokens8 v2597 = some r from H)
    unfold L_subwayref09_rightTenant_b6 at H
    refine At.sq K ?_
    refine At.sq K ?_
    refine At.region K K ?_
    refine In.run' 2 (k' := 2) rfl [(42, (.int .i64 v2597)), (43, (pt g12 3))] K ?_
    refine In.step (k' := 3) rfl K ?_
    refine Step.load (t := 42) (x := (.tmp 43)) (g := g12) (off := 3) (i := 0) (v := (.slice A5 (List.length pNets4) c6)) (d := (some 44)) (k := 2) K rfl K hs2596 rfl K ?_
    refine In.run' 2 (k' := 5) rfl [(45, (.int .i64 ((List.length pNets4 : Nat) : Int))), (46, (.bool (decide (v2597 < ((List.length pNets4 : Nat) : Int)))))] K ?_
    refine In.fin K ?_
    refine At.cd K (o := (.tmp 46)) K (b := (decide (v2597 < ((List.length pNets4 : Nat) : Int)))) K (fun hb5160 => ?_) (fun hb5160 => ?_)
    ·have H := ct H hb5160
     refine At.skip K ?_
     refine At.sq K ?_
     refine At.bk K (id := 1) K ?_
     refine At.sq K ?_
     refine At.region K K ?_
     refine In.run' 1 (k' := 1) rfl [(49, (pt g12 3))] K ?_
     refine In.step (k' := 2) rfl K ?_
     refine Step.load (t := 42) (x := (.tmp 49)) (g := g12) (off := 3) (i := 0) (v := (.slice A5 (List.length pNets4) c6)) (d := (some 50)) (k := 1) K rfl K hs2596 rfl K ?_
     refine In.run' 1 (k' := 3) rfl [(51, (.int .i64 v2597))] K ?_
     obtain ⟨x5161, hp5162, hq5163, hx5164, H⟩ := idx_elim H
     refine In.step (k' := 4) rfl K ?_
     refine Step.elem (e := (ePair (eInt .u32) (eInt .i64))) (l := pNets4) (A := A5) (c := c6) (T := 42) (E := 51) (x := (.tmp 50)) (ix := (.tmp 51)) (ki := .i64) (iz := v2597) (d := (some 52)) (k := 3) K rfl K K K K (RdT.sp hr7 hs2596) hp5162 hq5163 ?_
     intro b5165 o5166 hA5168 hb5169 hc5167
     refine In.step (k' := 5) rfl K ?_
     refine Step.cells (t := 51) (x := (.tmp 52)) (b := b5165) (off := (o5166 + Int.toNat v2597 * (ePair (eInt .u32) (eInt .i64)).sz)) (xs := [(.int .u32 x5161.1), (.int .i64 x5161.2)]) (d := (some 53)) (k := 4) K rfl K K K (elem_cells0 (e := (ePair (eInt .u32) (eInt .i64))) (rdt_cells (RdT.sp hr7 hs2596) hA5168 hp5162 hq5163) hx5164 rfl) ?_
     obtain ⟨z5170, hz5171, H⟩ := bind_elim H
     refine In.step (k' := 6) rfl K ?_
     refine Step.callF (f := 43) (fo := (.func 43)) (xs := #[(.tmp 53)]) (tys := #[51]) (first := #[]) (captured := #[]) (d := (some 54)) (k := 5) K rfl K K Tryd.call43 (L_subwayref04_Right_walk  x5161.1 x5161.2 w2595  z5170 hz5171) ?_
     rintro e w5172 ⟨rfl, hs5173⟩
     refine ⟨_, rfl, ?_⟩
     have hs5175 : SP [] w0 w5172 [boxE g12 45 #[(.string ⟨List.toArray pName1⟩), (.int .i64 pNames2), (.int .i64 pVisitors3), (.slice A5 (List.length pNets4) c6), (.slice A9 (List.length pTokens8) c10)]] := SP.call hs2596 hs5173
     clear hs5173
     refine In.run' 1 (k' := 7) rfl [(55, (.bool (!z5170)))] K ?_
     refine In.fin K ?_
     refine At.cd K (o := (.tmp 55)) K (b := (!z5170)) K (fun hb5176 => ?_) (fun hb5176 => ?_)
     ·have H := ct H hb5176
      refine At.sq K ?_
      refine At.region K K ?_
      refine In.run' 1 (k' := 1) rfl [(2, (.bool false))] K ?_
      refine In.fin K ?_
      refine At.ret K ?_
      refine ⟨(.bool false), K, ?_⟩
      obtain rfl := some_elim H
      exact ⟨rfl, SP.sel hs5175 [] rfl rfl⟩
     ·have H := cf H hb5176
      refine At.skip K ?_
      refine At.region K K ?_
      refine In.run' 3 (k' := 3) rfl [(47, (.int .i64 v2597)), (48, (.int .i64 (IntKind.wrap .i64 (v2597 + 1)))), (3, (.int .i64 (IntKind.wrap .i64 (v2597 + 1))))] K ?_
      refine In.fin K ?_
      exact ⟨(IntKind.wrap .i64 (v2597 + 1)), ⟨K, K, trivial⟩, SP.sel hs5175 [0] rfl rfl, H⟩
    ·have H := cf H hb5160
     refine At.exit K (id := 0) K ?_
     refine At.sq K ?_
     refine At.sq K ?_
     refine At.region K K ?_
     refine In.run' 1 (k' := 1) rfl [(4, (.int .i64 0))] K ?_
     refine In.fin K ?_
     refine At.bk K (id := 2) K ?_
     refine At.lp K (fun f13 ρ w => ∃ (v6027 : Int), Known ρ [(1, (pt g12 0)), (4, (.int .i64 v6027))] ∧ SP [] w0 w [boxE g12 45 #[(.string ⟨List.toArray pName1⟩), (.int .i64 pNames2), (.int .i64 pVisitors3), (.slice A5 (List.length pNets4) c6), (.slice A9 (List.length pTokens8) c10)]] ∧ L_subwayref09_rightTenant_l12 (L_subwayref09_rightTenant_l6 pNets4 pTokens8 f10) pTokens8 f13 v6027 = some r) (by rintro ρ w ⟨v6027, hk, hs, H⟩; cases H) ?_ fuel ?_
     ·rintro f13 ρ w6025 ⟨v6027, hk, hs6026, H⟩
      refine At.known [(1, (pt g12 0)), (4, (.int .i64 v6027))] hk ?_
      replace H := (show L_subwayref09_rightTenant_b12 (L_subwayref09_rightTenant_l6 pNets4 pTokens8 f10) (L_subwayref09_rightTenant_l12 (L_subwayref09_rightTenant_l6 pNets4 pTokens8 f10) pTokens8 f13) pTokens8 v6027 = some r from H)
      unfold L_subwayref09_rightTenant_b12 at H
      refine At.sq K ?_
      refine At.sq K ?_
      refine At.region K K ?_
      refine In.run' 2 (k' := 2) rfl [(56, (.int .i64 v6027)), (57, (pt g12 4))] K ?_
      refine In.step (k' := 3) rfl K ?_
      refine Step.load (t := 43) (x := (.tmp 57)) (g := g12) (off := 4) (i := 0) (v := (.slice A9 (List.length pTokens8) c10)) (d := (some 58)) (k := 2) K rfl K hs6026 rfl K ?_
      refine In.run' 2 (k' := 5) rfl [(59, (.int .i64 ((List.length pTokens8 : Nat) : Int))), (60, (.bool (decide (v6027 < ((List.length pTokens8 : Nat) : Int)))))] K ?_
      refine In.fin K ?_
      refine At.cd K (o := (.tmp 60)) K (b := (decide (v6027 < ((List.length pTokens8 : Nat) : Int)))) K (fun hb6875 => ?_) (fun hb6875 => ?_)
      ·have H := ct H hb6875
       refine At.skip K ?_
       refine At.sq K ?_
       refine At.bk K (id := 3) K ?_
       refine At.sq K ?_
       refine At.region K K ?_
       refine In.run' 1 (k' := 1) rfl [(63, (pt g12 4))] K ?_
       refine In.step (k' := 2) rfl K ?_
       refine Step.load (t := 43) (x := (.tmp 63)) (g := g12) (off := 4) (i := 0) (v := (.slice A9 (List.length pTokens8) c10)) (d := (some 64)) (k := 1) K rfl K hs6026 rfl K ?_
       refine In.run' 1 (k' := 3) rfl [(65, (.int .i64 v6027))] K ?_
       obtain ⟨x6876, hp6877, hq6878, hx6879, H⟩ := idx_elim H
       refine In.step (k' := 4) rfl K ?_
       refine Step.elem (e := (ePair eStr (ePair eStr (eInt .i64)))) (l := pTokens8) (A := A9) (c := c10) (T := 43) (E := 56) (x := (.tmp 64)) (ix := (.tmp 65)) (ki := .i64) (iz := v6027) (d := (some 66)) (k := 3) K rfl K K K K (RdT.sp hr11 hs6026) hp6877 hq6878 ?_
       intro b6880 o6881 hA6883 hb6884 hc6882
       refine In.step (k' := 5) rfl K ?_
       refine Step.cells (t := 56) (x := (.tmp 66)) (b := b6880) (off := (o6881 + Int.toNat v6027 * (ePair eStr (ePair eStr (eInt .i64))).sz)) (xs := [(.string ⟨List.toArray x6876.1⟩), (.string ⟨List.toArray x6876.2.1⟩), (.int .i64 x6876.2.2)]) (d := (some 67)) (k := 4) K rfl K K K (elem_cells0 (e := (ePair eStr (ePair eStr (eInt .i64)))) (rdt_cells (RdT.sp hr11 hs6026) hA6883 hp6877 hq6878) hx6879 rfl) ?_
       refine In.step (k' := 6) rfl K ?_
       refine Step.alloc (t := 56) (z := (.agg #[(.string ⟨List.toArray ([] : List UInt8)⟩), (.string ⟨List.toArray ([] : List UInt8)⟩), (.int .i64 0)])) (d := (some 5)) (k := 5) K rfl K hs6026 ?_
       intro g6885 w6886 (hs6888 : SP [] w0 w6886 [boxE g12 45 #[(.string ⟨List.toArray pName1⟩), (.int .i64 pNames2), (.int .i64 pVisitors3), (.slice A5 (List.length pNets4) c6), (.slice A9 (List.length pTokens8) c10)], boxE g6885 56 #[(.string ⟨List.toArray ([] : List UInt8)⟩), (.string ⟨List.toArray ([] : List UInt8)⟩), (.int .i64 0)]])
       refine In.step (k' := 7) rfl K ?_
       refine Step.store (t := 56) (x := (.tmp 5)) (y := (.tmp 67)) (g := g6885) (off := 0) (i := 1) (v := (.agg #[(.string ⟨List.toArray x6876.1⟩), (.string ⟨List.toArray x6876.2.1⟩), (.int .i64 x6876.2.2)])) (cs' := #[(.string ⟨List.toArray x6876.1⟩), (.string ⟨List.toArray x6876.2.1⟩), (.int .i64 x6876.2.2)]) (d := none) (k := 6) K rfl K K hs6888 rfl K ?_
       intro w6889 (hs6891 : SP [] w0 w6889 [boxE g12 45 #[(.string ⟨List.toArray pName1⟩), (.int .i64 pNames2), (.int .i64 pVisitors3), (.slice A5 (List.length pNets4) c6), (.slice A9 (List.length pTokens8) c10)], boxE g6885 56 #[(.string ⟨List.toArray x6876.1⟩), (.string ⟨List.toArray x6876.2.1⟩), (.int .i64 x6876.2.2)]])
       refine In.fin K ?_
       refine At.sq K ?_
       refine At.join (fun ρ w => ∃ (v7305 : Bool), Known ρ [(1, (pt g12 0)), (4, (.int .i64 v6027)), (108, (.bool v7305))] ∧ SP [] w0 w [boxE g12 45 #[(.string ⟨List.toArray pName1⟩), (.int .i64 pNames2), (.int .i64 pVisitors3), (.slice A5 (List.length pNets4) c6), (.slice A9 (List.length pTokens8) c10)]] ∧ L_subwayref09_rightTenant_k14 (L_subwayref09_rightTenant_l6 pNets4 pTokens8 f10) (L_subwayref09_rightTenant_l12 (L_subwayref09_rightTenant_l6 pNets4 pTokens8 f10) pTokens8 f13) v6027 v7305 = some r) ?_ ?_
       ·obtain ⟨z7309, hz7310, H⟩ := bind_elim H
        rcases Bool.eq_false_or_eq_true (!z7309) with hb7315 | hb7315
        ·have H := ct H hb7315
         refine At.stages K K K K K [GEq (pt g6885 0), GEq (.string ⟨List.toArray x6876.1⟩), GEq (.bool z7309), GEq (.bool (!z7309)), GEq (.bool (!z7309)), GEq undef, GEq undef, GEq undef, GEq undef, GEq undef, GEq undef, GEq undef, GEq undef, GEq undef, GEq undef, GEq undef, GEq undef, GEq undef, GEq undef, GEq (.bool true), GEq (.bool true), GEq undef, GEq undef, GEq undef, GEq (.bool true), GEq (.bool true), GEq undef, GEq undef, GEq undef, GEq undef, GEq (.bool true), GEq (.bool true), GEq undef, GEq undef, GEq undef, GEq (.bool true), GEq (.bool true), GEq undef, GEq undef, GEq undef, GEq (.bool true)] [2] [([], fun vs w => VL vs [] ∧ SP [] w0 w [boxE g12 45 #[(.string ⟨List.toArray pName1⟩), (.int .i64 pNames2), (.int .i64 pVisitors3), (.slice A5 (List.length pNets4) c6), (.slice A9 (List.length pTokens8) c10)], boxE g6885 56 #[(.string ⟨List.toArray x6876.1⟩), (.string ⟨List.toArray x6876.2.1⟩), (.int .i64 x6876.2.2)]]), ([2], fun vs w => VL vs [(.bool z7309)] ∧ SP [] w0 w [boxE g12 45 #[(.string ⟨List.toArray pName1⟩), (.int .i64 pNames2), (.int .i64 pVisitors3), (.slice A5 (List.length pNets4) c6), (.slice A9 (List.length pTokens8) c10)], boxE g6885 56 #[(.string ⟨List.toArray x6876.1⟩), (.string ⟨List.toArray x6876.2.1⟩), (.int .i64 x6876.2.2)]])] (N := 41) K ⟨K, Nat.zero_lt_succ _⟩ (show VL [] [] ∧ SP [] w0 w6889.drew [boxE g12 45 #[(.string ⟨List.toArray pName1⟩), (.int .i64 pNames2), (.int .i64 pVisitors3), (.slice A5 (List.length pNets4) c6), (.slice A9 (List.length pTokens8) c10)], boxE g6885 56 #[(.string ⟨List.toArray x6876.1⟩), (.string ⟨List.toArray x6876.2.1⟩), (.int .i64 x6876.2.2)]] from ⟨trivial, SP.drew hs6891⟩) ⟨⟨⟨⟨⟨⟨⟨⟨⟨⟨⟨⟨⟨⟨⟨⟨⟨⟨⟨⟨⟨⟨⟨⟨⟨⟨⟨⟨⟨⟨⟨⟨⟨⟨⟨⟨⟨⟨⟨⟨⟨trivial, ?_⟩, ?_⟩, ?_⟩, ?_⟩, ?_⟩, ?_⟩, ?_⟩, ?_⟩, ?_⟩, ?_⟩, ?_⟩, ?_⟩, ?_⟩, ?_⟩, ?_⟩, ?_⟩, ?_⟩, ?_⟩, ?_⟩, ?_⟩, ?_⟩, ?_⟩, ?_⟩, ?_⟩, ?_⟩, ?_⟩, ?_⟩, ?_⟩, ?_⟩, ?_⟩, ?_⟩, ?_⟩, ?_⟩, ?_⟩, ?_⟩, ?_⟩, ?_⟩, ?_⟩, ?_⟩, ?_⟩, ?_⟩ (last := 1) K ?_
         ·exact Owe.run K [(5, (pt g6885 0))] ⟨gS K K, trivial⟩ (pt g6885 0) (fun _ _ => K) rfl
         ·refine Owe.light K [0] K (all_cons ?_ all_nil)
          ·rintro ρ' w' hs hah ⟨hvl7321, hs7320⟩
           have hkn : Known ρ' [(68, (pt g6885 0))] := ⟨hah 0 68 K, trivial⟩
           refine Step.known _ hkn ?_
           refine Step.load (t := 9) (x := (.tmp 68)) (g := g6885) (off := 0) (i := 1) (v := (.string ⟨List.toArray x6876.1⟩)) (d := (some 69)) (k := 1) K rfl K hs7320 rfl K ?_
           exact ⟨rfl, _, updO_known hkn, rfl⟩
         ·refine Owe.heavy K [(0, 1)] K (all_cons ⟨K, K, ?_⟩ all_nil)
          ·rintro ρ' w' hs hah ⟨hvl7323, hs7322⟩
           have hkn : Known ρ' [(69, (.string ⟨List.toArray x6876.1⟩))] := ⟨hah 1 69 K, trivial⟩
           refine Step.known _ hkn ?_
           refine Step.callF (f := 54) (fo := (.func 54)) (xs := #[(.tmp 69)]) (tys := #[9]) (first := #[]) (captured := #[]) (d := (some 70)) (k := 2) K rfl K K Tryd.call54 (L_subwayref04_Name_walk  x6876.1 w'  z7309 hz7310) ?_
           rintro e w7324 ⟨rfl, hs7325⟩
           refine ⟨_, rfl, ?_⟩
           have hs7327 : SP [] w0 w7324 [boxE g12 45 #[(.string ⟨List.toArray pName1⟩), (.int .i64 pNames2), (.int .i64 pVisitors3), (.slice A5 (List.length pNets4) c6), (.slice A9 (List.length pTokens8) c10)], boxE g6885 56 #[(.string ⟨List.toArray x6876.1⟩), (.string ⟨List.toArray x6876.2.1⟩), (.int .i64 x6876.2.2)]] := SP.call hs7322 hs7325
           clear hs7325
           refine ⟨_, updO_known hkn, rfl, ?_⟩
           exact (And.intro (And.intro rfl (trivial)) (hs7327))
         ·exact Owe.run K [(70, (.bool z7309))] ⟨gA 2 K K, trivial⟩ (.bool (!z7309)) (fun _ _ => K) rfl
         ·exact Owe.run K [(71, (.bool (!z7309)))] ⟨gA 3 K K, trivial⟩ (.bool (!z7309)) (fun _ _ => K) rfl
         ·exact Owe.skip K [(72, (.bool true))] ⟨gB 4 K (!z7309) K hb7315, trivial⟩ (some 73) (fun _ => K) K rfl
         ·exact Owe.skip K [(72, (.bool true))] ⟨gB 4 K (!z7309) K hb7315, trivial⟩ (some 74) (fun _ => K) K rfl
         ·exact Owe.skip K [(72, (.bool true))] ⟨gB 4 K (!z7309) K hb7315, trivial⟩ (some 75) (fun _ => K) K rfl
         ·exact Owe.skip K [(75, undef)] ⟨gA 7 K K, trivial⟩ (some 76) (fun _ => K) K rfl
         ·exact Owe.skip K [(75, undef)] ⟨gA 7 K K, trivial⟩ (some 77) (fun _ => K) K rfl
         ·exact Owe.skip K [(75, undef)] ⟨gA 7 K K, trivial⟩ (some 78) (fun _ => K) K rfl
         ·exact Owe.skip K [(75, undef)] ⟨gA 7 K K, trivial⟩ (some 79) (fun _ => K) K rfl
         ·exact Owe.skip K [(75, undef)] ⟨gA 7 K K, trivial⟩ (some 80) (fun _ => K) K rfl
         ·exact Owe.skip K [(75, undef)] ⟨gA 7 K K, trivial⟩ (some 81) (fun _ => K) K rfl
         ·exact Owe.skip K [(75, undef)] ⟨gA 7 K K, trivial⟩ (some 82) (fun _ => K) K rfl
         ·exact Owe.skip K [(75, undef)] ⟨gA 7 K K, trivial⟩ (some 83) (fun _ => K) K rfl
         ·exact Owe.skip K [(75, undef)] ⟨gA 7 K K, trivial⟩ (some 84) (fun _ => K) K rfl
         ·exact Owe.skip K [(75, undef)] ⟨gA 7 K K, trivial⟩ (some 85) (fun _ => K) K rfl
         ·exact Owe.skip K [(72, (.bool true))] ⟨gB 4 K (!z7309) K hb7315, trivial⟩ (some 86) (fun _ => K) K rfl
         ·exact Owe.run K [(72, (.bool true)), (86, undef)] ⟨gB 4 K (!z7309) K hb7315, gA 18 K K, trivial⟩ (.bool true) (fun _ _ => K) rfl
         ·exact Owe.run K [(87, (.bool true))] ⟨gA 19 K K, trivial⟩ (.bool true) (fun _ _ => K) rfl
         ·exact Owe.skip K [(88, (.bool true))] ⟨gA 20 K K, trivial⟩ (some 89) (fun _ => K) K rfl
         ·exact Owe.skip K [(88, (.bool true))] ⟨gA 20 K K, trivial⟩ (some 90) (fun _ => K) K rfl
         ·exact Owe.skip K [(88, (.bool true))] ⟨gA 20 K K, trivial⟩ (some 91) (fun _ => K) K rfl
         ·exact Owe.run K [(88, (.bool true)), (91, undef)] ⟨gA 20 K K, gA 23 K K, trivial⟩ (.bool true) (fun _ _ => K) rfl
         ·exact Owe.run K [(92, (.bool true))] ⟨gA 24 K K, trivial⟩ (.bool true) (fun _ _ => K) rfl
         ·exact Owe.skip K [(93, (.bool true))] ⟨gA 25 K K, trivial⟩ (some 94) (fun _ => K) K rfl
         ·exact Owe.skip K [(93, (.bool true))] ⟨gA 25 K K, trivial⟩ (some 95) (fun _ => K) K rfl
         ·exact Owe.skip K [(93, (.bool true))] ⟨gA 25 K K, trivial⟩ (some 96) (fun _ => K) K rfl
         ·exact Owe.skip K [(93, (.bool true))] ⟨gA 25 K K, trivial⟩ (some 97) (fun _ => K) K rfl
         ·exact Owe.run K [(93, (.bool true)), (97, undef)] ⟨gA 25 K K, gA 29 K K, trivial⟩ (.bool true) (fun _ _ => K) rfl
         ·exact Owe.run K [(98, (.bool true))] ⟨gA 30 K K, trivial⟩ (.bool true) (fun _ _ => K) rfl
         ·exact Owe.skip K [(99, (.bool true))] ⟨gA 31 K K, trivial⟩ (some 100) (fun _ => K) K rfl
         ·exact Owe.skip K [(99, (.bool true))] ⟨gA 31 K K, trivial⟩ (some 101) (fun _ => K) K rfl
         ·exact Owe.skip K [(99, (.bool true))] ⟨gA 31 K K, trivial⟩ (some 102) (fun _ => K) K rfl
         ·exact Owe.run K [(99, (.bool true)), (102, undef)] ⟨gA 31 K K, gA 34 K K, trivial⟩ (.bool true) (fun _ _ => K) rfl
         ·exact Owe.run K [(103, (.bool true))] ⟨gA 35 K K, trivial⟩ (.bool true) (fun _ _ => K) rfl
         ·exact Owe.skip K [(104, (.bool true))] ⟨gA 36 K K, trivial⟩ (some 105) (fun _ => K) K rfl
         ·exact Owe.skip K [(104, (.bool true))] ⟨gA 36 K K, trivial⟩ (some 106) (fun _ => K) K rfl
         ·exact Owe.skip K [(104, (.bool true))] ⟨gA 36 K K, trivial⟩ (some 107) (fun _ => K) K rfl
         ·exact Owe.run K [(104, (.bool true)), (107, undef)] ⟨gA 36 K K, gA 39 K K, trivial⟩ (.bool true) (fun _ _ => K) rfl
         ·rintro ρ' w' hs hf ⟨⟨q7329, -⟩, hs7328⟩
          refine postKnown [(1, (pt g12 0)), (4, (.int .i64 v6027)), (108, (.bool true))] ⟨(hs 1 K).trans K, (hs 4 K).trans K, hf 40 108 K, trivial⟩ ?_
          obtain ⟨w7331, hww7331⟩ : ∃ x, w' = x := ⟨_, rfl⟩
          rw [hww7331] at hs7328 ⊢
          exact ⟨true, ⟨K, K, K, trivial⟩, SP.sel hs7328 [0] rfl rfl, H⟩
        ·have H := cf H hb7315
         rcases Bool.eq_false_or_eq_true (decide (v6027 > 0)) with hb7332 | hb7332
         ·have H := ct H hb7332
          obtain ⟨x7333, hp7334, hq7335, hx7336, H⟩ := idx_elim H
          rcases Bool.eq_false_or_eq_true (!(Op.bytesLess x7333.1 x6876.1)) with hb7342 | hb7342
          ·have H := ct H hb7342
           refine At.stages K K K K K [GEq (pt g6885 0), GEq (.string ⟨List.toArray x6876.1⟩), GEq (.bool z7309), GEq (.bool (!z7309)), GEq (.bool (!z7309)), GEq (.int .i64 v6027), GEq (.bool (decide (v6027 > 0))), GEq (.bool (decide (v6027 > 0))), GEq (pt g12 4), GEq (.slice A9 (List.length pTokens8) c10), GEq (.int .i64 v6027), GEq (.int .i64 (IntKind.wrap .i64 (v6027 - 1))), GElem0 A9 (ePair eStr (ePair eStr (eInt .i64))).sz (IntKind.wrap .i64 (v6027 - 1)), GElem0 A9 (ePair eStr (ePair eStr (eInt .i64))).sz (IntKind.wrap .i64 (v6027 - 1)), GEq (.string ⟨List.toArray x7333.1⟩), GEq (pt g6885 0), GEq (.string ⟨List.toArray x6876.1⟩), GEq (.bool (!(Op.bytesLess x7333.1 x6876.1))), GEq (.bool (!(Op.bytesLess x7333.1 x6876.1))), GEq (.bool (!(Op.bytesLess x7333.1 x6876.1))), GEq (.bool (!(Op.bytesLess x7333.1 x6876.1))), GEq undef, GEq undef, GEq undef, GEq (.bool true), GEq (.bool true), GEq undef, GEq undef, GEq undef, GEq undef, GEq (.bool true), GEq (.bool true), GEq undef, GEq undef, GEq undef, GEq (.bool true), GEq (.bool true), GEq undef, GEq undef, GEq undef, GEq (.bool true)] [2] [([], fun vs w => VL vs [] ∧ SP [] w0 w [boxE g12 45 #[(.string ⟨List.toArray pName1⟩), (.int .i64 pNames2), (.int .i64 pVisitors3), (.slice A5 (List.length pNets4) c6), (.slice A9 (List.length pTokens8) c10)], boxE g6885 56 #[(.string ⟨List.toArray x6876.1⟩), (.string ⟨List.toArray x6876.2.1⟩), (.int .i64 x6876.2.2)]]), ([2], fun vs w => VL vs [(.bool z7309)] ∧ SP [] w0 w [boxE g12 45 #[(.string ⟨List.toArray pName1⟩), (.int .i64 pNames2), (.int .i64 pVisitors3), (.slice A5 (List.length pNets4) c6), (.slice A9 (List.length pTokens8) c10)], boxE g6885 56 #[(.string ⟨List.toArray x6876.1⟩), (.string ⟨List.toArray x6876.2.1⟩), (.int .i64 x6876.2.2)]])] (N := 41) K ⟨K, Nat.zero_lt_succ _⟩ (show VL [] [] ∧ SP [] w0 w6889.drew [boxE g12 45 #[(.string ⟨List.toArray pName1⟩), (.int .i64 pNames2), (.int .i64 pVisitors3), (.slice A5 (List.length pNets4) c6), (.slice A9 (List.length pTokens8) c10)], boxE g6885 56 #[(.string ⟨List.toArray x6876.1⟩), (.string ⟨List.toArray x6876.2.1⟩), (.int .i64 x6876.2.2)]] from ⟨trivial, SP.drew hs6891⟩) ⟨⟨⟨⟨⟨⟨⟨⟨⟨⟨⟨⟨⟨⟨⟨⟨⟨⟨⟨⟨⟨⟨⟨⟨⟨⟨⟨⟨⟨⟨⟨⟨⟨⟨⟨⟨⟨⟨⟨⟨⟨trivial, ?_⟩, ?_⟩, ?_⟩, ?_⟩, ?_⟩, ?_⟩, ?_⟩, ?_⟩, ?_⟩, ?_⟩, ?_⟩, ?_⟩, ?_⟩, ?_⟩, ?_⟩, ?_⟩, ?_⟩, ?_⟩, ?_⟩, ?_⟩, ?_⟩, ?_⟩, ?_⟩, ?_⟩, ?_⟩, ?_⟩, ?_⟩, ?_⟩, ?_⟩, ?_⟩, ?_⟩, ?_⟩, ?_⟩, ?_⟩, ?_⟩, ?_⟩, ?_⟩, ?_⟩, ?_⟩, ?_⟩, ?_⟩ (last := 1) K ?_
           ·exact Owe.run K [(5, (pt g6885 0))] ⟨gS K K, trivial⟩ (pt g6885 0) (fun _ _ => K) rfl
           ·refine Owe.light K [0] K (all_cons ?_ all_nil)
            ·rintro ρ' w' hs hah ⟨hvl7348, hs7347⟩
             have hkn : Known ρ' [(68, (pt g6885 0))] := ⟨hah 0 68 K, trivial⟩
             refine Step.known _ hkn ?_
             refine Step.load (t := 9) (x := (.tmp 68)) (g := g6885) (off := 0) (i := 1) (v := (.string ⟨List.toArray x6876.1⟩)) (d := (some 69)) (k := 1) K rfl K hs7347 rfl K ?_
             exact ⟨rfl, _, updO_known hkn, rfl⟩
           ·refine Owe.heavy K [(0, 1)] K (all_cons ⟨K, K, ?_⟩ all_nil)
            ·rintro ρ' w' hs hah ⟨hvl7350, hs7349⟩
             have hkn : Known ρ' [(69, (.string ⟨List.toArray x6876.1⟩))] := ⟨hah 1 69 K, trivial⟩
             refine Step.known _ hkn ?_
             refine Step.callF (f := 54) (fo := (.func 54)) (xs := #[(.tmp 69)]) (tys := #[9]) (first := #[]) (captured := #[]) (d := (some 70)) (k := 2) K rfl K K Tryd.call54 (L_subwayref04_Name_walk  x6876.1 w'  z7309 hz7310) ?_
             rintro e w7351 ⟨rfl, hs7352⟩
             refine ⟨_, rfl, ?_⟩
             have hs7354 : SP [] w0 w7351 [boxE g12 45 #[(.string ⟨List.toArray pName1⟩), (.int .i64 pNames2), (.int .i64 pVisitors3), (.slice A5 (List.length pNets4) c6), (.slice A9 (List.length pTokens8) c10)], boxE g6885 56 #[(.string ⟨List.toArray x6876.1⟩), (.string ⟨List.toArray x6876.2.1⟩), (.int .i64 x6876.2.2)]] := SP.call hs7349 hs7352
             clear hs7352
             refine ⟨_, updO_known hkn, rfl, ?_⟩
             exact (And.intro (And.intro rfl (trivial)) (hs7354))
           ·exact Owe.run K [(70, (.bool z7309))] ⟨gA 2 K K, trivial⟩ (.bool (!z7309)) (fun _ _ => K) rfl
           ·exact Owe.run K [(71, (.bool (!z7309)))] ⟨gA 3 K K, trivial⟩ (.bool (!z7309)) (fun _ _ => K) rfl
           ·exact Owe.run K [(4, (.int .i64 v6027)), (72, (.bool false))] ⟨gS K K, gB 4 K (!z7309) K hb7315, trivial⟩ (.int .i64 v6027) (fun _ _ => K) rfl
           ·exact Owe.run K [(73, (.int .i64 v6027)), (72, (.bool false))] ⟨gA 5 K K, gB 4 K (!z7309) K hb7315, trivial⟩ (.bool (decide (v6027 > 0))) (fun _ _ => K) rfl
           ·exact Owe.run K [(74, (.bool (decide (v6027 > 0)))), (72, (.bool false))] ⟨gA 6 K K, gB 4 K (!z7309) K hb7315, trivial⟩ (.bool (decide (v6027 > 0))) (fun _ _ => K) rfl
           ·exact Owe.run K [(1, (pt g12 0)), (75, (.bool true))] ⟨gS K K, gB 7 K (decide (v6027 > 0)) K hb7332, trivial⟩ (pt g12 4) (fun _ _ => K) rfl
           ·refine Owe.light K [1] K (all_cons ?_ all_nil)
            ·rintro ρ' w' hs hah ⟨⟨q7356, -⟩, hs7355⟩
             have e76 := hah 8 76 K
             have e75 := hah 7 75 K
             have hkn : Known ρ' [(76, (pt g12 4)), (75, (.bool true))] := ⟨e76, (Eq.trans e75 (congrArg Value.bool hb7332)), trivial⟩
             refine Step.known _ hkn ?_
             refine Step.load (t := 43) (x := (.tmp 76)) (g := g12) (off := 4) (i := 0) (v := (.slice A9 (List.length pTokens8) c10)) (d := (some 77)) (k := 9) K rfl K hs7355 rfl K ?_
             exact ⟨rfl, _, updO_known hkn, rfl⟩
           ·exact Owe.run K [(4, (.int .i64 v6027)), (75, (.bool true))] ⟨gS K K, gB 7 K (decide (v6027 > 0)) K hb7332, trivial⟩ (.int .i64 v6027) (fun _ _ => K) rfl
           ·exact Owe.run K [(78, (.int .i64 v6027)), (75, (.bool true))] ⟨gA 10 K K, gB 7 K (decide (v6027 > 0)) K hb7332, trivial⟩ (.int .i64 (IntKind.wrap .i64 (v6027 - 1))) (fun _ _ => K) rfl
           ·refine Owe.light K [1] K (all_cons ?_ all_nil)
            ·rintro ρ' w' hs hah ⟨⟨q7359, -⟩, hs7358⟩
             have e77 := hah 9 77 K
             have e79 := hah 11 79 K
             have e75 := hah 7 75 K
             have hkn : Known ρ' [(77, (.slice A9 (List.length pTokens8) c10)), (79, (.int .i64 (IntKind.wrap .i64 (v6027 - 1)))), (75, (.bool true))] := ⟨e77, e79, (Eq.trans e75 (congrArg Value.bool hb7332)), trivial⟩
             refine Step.known _ hkn ?_
             refine Step.elem (e := (ePair eStr (ePair eStr (eInt .i64)))) (l := pTokens8) (A := A9) (c := c10) (T := 43) (E := 56) (x := (.tmp 77)) (ix := (.tmp 79)) (ki := .i64) (iz := (IntKind.wrap .i64 (v6027 - 1))) (d := (some 80)) (k := 12) K rfl K K K K (RdT.sp hr11 hs7358) hp7334 hq7335 ?_
             intro b7361 o7362 hA7364 hb7365 hc7363
             exact ⟨rfl, _, updO_known hkn, ⟨b7361, o7362, hA7364, rfl⟩⟩
           ·refine Owe.light K [1] K (all_cons ?_ all_nil)
            ·rintro ρ' w' hs hah ⟨⟨q7367, -⟩, hs7366⟩
             obtain ⟨b7369, o7370, hA7371, e80⟩ := hah 12 80 K
             have e75 := hah 7 75 K
             have hkn : Known ρ' [(80, (.pointer (some ⟨b7369, (o7370 + Int.toNat (IntKind.wrap .i64 (v6027 - 1)) * (ePair eStr (ePair eStr (eInt .i64))).sz), none⟩))), (75, (.bool true))] := ⟨e80, (Eq.trans e75 (congrArg Value.bool hb7332)), trivial⟩
             refine Step.known _ hkn ?_
             refine Step.run (k := 13) (v := (.pointer (some ⟨b7369, (o7370 + Int.toNat (IntKind.wrap .i64 (v6027 - 1)) * (ePair eStr (ePair eStr (eInt .i64))).sz), none⟩))) K ?_
             exact ⟨rfl, _, updO_known hkn, ⟨b7369, o7370, hA7371, rfl⟩⟩
           ·refine Owe.light K [1] K (all_cons ?_ all_nil)
            ·rintro ρ' w' hs hah ⟨⟨q7373, -⟩, hs7372⟩
             obtain ⟨b7375, o7376, hA7377, e81⟩ := hah 13 81 K
             have e75 := hah 7 75 K
             have hkn : Known ρ' [(81, (.pointer (some ⟨b7375, (o7376 + Int.toNat (IntKind.wrap .i64 (v6027 - 1)) * (ePair eStr (ePair eStr (eInt .i64))).sz), none⟩))), (75, (.bool true))] := ⟨e81, (Eq.trans e75 (congrArg Value.bool hb7332)), trivial⟩
             refine Step.known _ hkn ?_
             refine Step.cell (t := 9) (x := (.tmp 81)) (b := b7375) (off := (o7376 + Int.toNat (IntKind.wrap .i64 (v6027 - 1)) * (ePair eStr (ePair eStr (eInt .i64))).sz)) (v := (.string ⟨List.toArray x7333.1⟩)) (d := (some 82)) (k := 14) K rfl K K (elem_cell (e := (ePair eStr (ePair eStr (eInt .i64)))) (rdt_cells (RdT.sp hr11 hs7372) hA7377 hp7334 hq7335) hx7336 (j := 0) rfl) ?_
             exact ⟨rfl, _, updO_known hkn, rfl⟩
           ·exact Owe.run K [(5, (pt g6885 0)), (75, (.bool true))] ⟨gS K K, gB 7 K (decide (v6027 > 0)) K hb7332, trivial⟩ (pt g6885 0) (fun _ _ => K) rfl
           ·refine Owe.light K [1] K (all_cons ?_ all_nil)
            ·rintro ρ' w' hs hah ⟨⟨q7379, -⟩, hs7378⟩
             have e83 := hah 15 83 K
             have e75 := hah 7 75 K
             have hkn : Known ρ' [(83, (pt g6885 0)), (75, (.bool true))] := ⟨e83, (Eq.trans e75 (congrArg Value.bool hb7332)), trivial⟩
             refine Step.known _ hkn ?_
             refine Step.load (t := 9) (x := (.tmp 83)) (g := g6885) (off := 0) (i := 1) (v := (.string ⟨List.toArray x6876.1⟩)) (d := (some 84)) (k := 16) K rfl K hs7378 rfl K ?_
             exact ⟨rfl, _, updO_known hkn, rfl⟩
           ·refine Owe.light K [1] K (all_cons ?_ all_nil)
            ·rintro ρ' w' hs hah ⟨⟨q7382, -⟩, hs7381⟩
             have e82 := hah 14 82 K
             have e84 := hah 16 84 K
             have e75 := hah 7 75 K
             have hkn : Known ρ' [(82, (.string ⟨List.toArray x7333.1⟩)), (84, (.string ⟨List.toArray x6876.1⟩)), (75, (.bool true))] := ⟨e82, e84, (Eq.trans e75 (congrArg Value.bool hb7332)), trivial⟩
             refine Step.known _ hkn ?_
             refine Step.strOp (op := .geq) (T := 9) (T' := 9) (x := (.tmp 82)) (y := (.tmp 84)) (a := x7333.1) (b := x6876.1) (r := (.bool (!(Op.bytesLess x7333.1 x6876.1)))) (d := (some 85)) (k := 17) K rfl K K rfl ?_
             exact ⟨rfl, _, updO_known hkn, rfl⟩
           ·exact Owe.run K [(75, (.bool true)), (85, (.bool (!(Op.bytesLess x7333.1 x6876.1)))), (72, (.bool false))] ⟨gB 7 K (decide (v6027 > 0)) K hb7332, gA 17 K K, gB 4 K (!z7309) K hb7315, trivial⟩ (.bool (!(Op.bytesLess x7333.1 x6876.1))) (fun _ _ => K) rfl
           ·exact Owe.run K [(72, (.bool false)), (86, (.bool (!(Op.bytesLess x7333.1 x6876.1))))] ⟨gB 4 K (!z7309) K hb7315, gA 18 K K, trivial⟩ (.bool (!(Op.bytesLess x7333.1 x6876.1))) (fun _ _ => K) rfl
           ·exact Owe.run K [(87, (.bool (!(Op.bytesLess x7333.1 x6876.1))))] ⟨gA 19 K K, trivial⟩ (.bool (!(Op.bytesLess x7333.1 x6876.1))) (fun _ _ => K) rfl
           ·exact Owe.skip K [(88, (.bool true))] ⟨gB 20 K (!(Op.bytesLess x7333.1 x6876.1)) K hb7342, trivial⟩ (some 89) (fun _ => K) K rfl
           ·exact Owe.skip K [(88, (.bool true))] ⟨gB 20 K (!(Op.bytesLess x7333.1 x6876.1)) K hb7342, trivial⟩ (some 90) (fun _ => K) K rfl
           ·exact Owe.skip K [(88, (.bool true))] ⟨gB 20 K (!(Op.bytesLess x7333.1 x6876.1)) K hb7342, trivial⟩ (some 91) (fun _ => K) K rfl
           ·exact Owe.run K [(88, (.bool true)), (91, undef)] ⟨gB 20 K (!(Op.bytesLess x7333.1 x6876.1)) K hb7342, gA 23 K K, trivial⟩ (.bool true) (fun _ _ => K) rfl
           ·exact Owe.run K [(92, (.bool true))] ⟨gA 24 K K, trivial⟩ (.bool true) (fun _ _ => K) rfl
           ·exact Owe.skip K [(93, (.bool true))] ⟨gA 25 K K, trivial⟩ (some 94) (fun _ => K) K rfl
           ·exact Owe.skip K [(93, (.bool true))] ⟨gA 25 K K, trivial⟩ (some 95) (fun _ => K) K rfl
           ·exact Owe.skip K [(93, (.bool true))] ⟨gA 25 K K, trivial⟩ (some 96) (fun _ => K) K rfl
           ·exact Owe.skip K [(93, (.bool true))] ⟨gA 25 K K, trivial⟩ (some 97) (fun _ => K) K rfl
           ·exact Owe.run K [(93, (.bool true)), (97, undef)] ⟨gA 25 K K, gA 29 K K, trivial⟩ (.bool true) (fun _ _ => K) rfl
           ·exact Owe.run K [(98, (.bool true))] ⟨gA 30 K K, trivial⟩ (.bool true) (fun _ _ => K) rfl
           ·exact Owe.skip K [(99, (.bool true))] ⟨gA 31 K K, trivial⟩ (some 100) (fun _ => K) K rfl
           ·exact Owe.skip K [(99, (.bool true))] ⟨gA 31 K K, trivial⟩ (some 101) (fun _ => K) K rfl
           ·exact Owe.skip K [(99, (.bool true))] ⟨gA 31 K K, trivial⟩ (some 102) (fun _ => K) K rfl
           ·exact Owe.run K [(99, (.bool true)), (102, undef)] ⟨gA 31 K K, gA 34 K K, trivial⟩ (.bool true) (fun _ _ => K) rfl
           ·exact Owe.run K [(103, (.bool true))] ⟨gA 35 K K, trivial⟩ (.bool true) (fun _ _ => K) rfl
           ·exact Owe.skip K [(104, (.bool true))] ⟨gA 36 K K, trivial⟩ (some 105) (fun _ => K) K rfl
           ·exact Owe.skip K [(104, (.bool true))] ⟨gA 36 K K, trivial⟩ (some 106) (fun _ => K) K rfl
           ·exact Owe.skip K [(104, (.bool true))] ⟨gA 36 K K, trivial⟩ (some 107) (fun _ => K) K rfl
           ·exact Owe.run K [(104, (.bool true)), (107, undef)] ⟨gA 36 K K, gA 39 K K, trivial⟩ (.bool true) (fun _ _ => K) rfl
           ·rintro ρ' w' hs hf ⟨⟨q7385, -⟩, hs7384⟩
            refine postKnown [(1, (pt g12 0)), (4, (.int .i64 v6027)), (108, (.bool true))] ⟨(hs 1 K).trans K, (hs 4 K).trans K, hf 40 108 K, trivial⟩ ?_
            obtain ⟨w7387, hww7387⟩ : ∃ x, w' = x := ⟨_, rfl⟩
            rw [hww7387] at hs7384 ⊢
            exact ⟨true, ⟨K, K, K, trivial⟩, SP.sel hs7384 [0] rfl rfl, H⟩
          ·have H := cf H hb7342
           rcases Bool.eq_false_or_eq_true (x6876.2.1 == ([] : List UInt8)) with hb7388 | hb7388
           ·have H := ct H hb7388
            refine At.stages K K K K K [GEq (pt g6885 0), GEq (.string ⟨List.toArray x6876.1⟩), GEq (.bool z7309), GEq (.bool (!z7309)), GEq (.bool (!z7309)), GEq (.int .i64 v6027), GEq (.bool (decide (v6027 > 0))), GEq (.bool (decide (v6027 > 0))), GEq (pt g12 4), GEq (.slice A9 (List.length pTokens8) c10), GEq (.int .i64 v6027), GEq (.int .i64 (IntKind.wrap .i64 (v6027 - 1))), GElem0 A9 (ePair eStr (ePair eStr (eInt .i64))).sz (IntKind.wrap .i64 (v6027 - 1)), GElem0 A9 (ePair eStr (ePair eStr (eInt .i64))).sz (IntKind.wrap .i64 (v6027 - 1)), GEq (.string ⟨List.toArray x7333.1⟩), GEq (pt g6885 0), GEq (.string ⟨List.toArray x6876.1⟩), GEq (.bool (!(Op.bytesLess x7333.1 x6876.1))), GEq (.bool (!(Op.bytesLess x7333.1 x6876.1))), GEq (.bool (!(Op.bytesLess x7333.1 x6876.1))), GEq (.bool (!(Op.bytesLess x7333.1 x6876.1))), GEq (pt g6885 1), GEq (.string ⟨List.toArray x6876.2.1⟩), GEq (.bool (x6876.2.1 == ([] : List UInt8))), GEq (.bool (x6876.2.1 == ([] : List UInt8))), GEq (.bool (x6876.2.1 == ([] : List UInt8))), GEq undef, GEq undef, GEq undef, GEq undef, GEq (.bool true), GEq (.bool true), GEq undef, GEq undef, GEq undef, GEq (.bool true), GEq (.bool true), GEq undef, GEq undef, GEq undef, GEq (.bool true)] [2] [([], fun vs w => VL vs [] ∧ SP [] w0 w [boxE g12 45 #[(.string ⟨List.toArray pName1⟩), (.int .i64 pNames2), (.int .i64 pVisitors3), (.slice A5 (List.length pNets4) c6), (.slice A9 (List.length pTokens8) c10)], boxE g6885 56 #[(.string ⟨List.toArray x6876.1⟩), (.string ⟨List.toArray x6876.2.1⟩), (.int .i64 x6876.2.2)]]), ([2], fun vs w => VL vs [(.bool z7309)] ∧ SP [] w0 w [boxE g12 45 #[(.string ⟨List.toArray pName1⟩), (.int .i64 pNames2), (.int .i64 pVisitors3), (.slice A5 (List.length pNets4) c6), (.slice A9 (List.length pTokens8) c10)], boxE g6885 56 #[(.string ⟨List.toArray x6876.1⟩), (.string ⟨List.toArray x6876.2.1⟩), (.int .i64 x6876.2.2)]])] (N := 41) K ⟨K, Nat.zero_lt_succ _⟩ (show VL [] [] ∧ SP [] w0 w6889.drew [boxE g12 45 #[(.string ⟨List.toArray pName1⟩), (.int .i64 pNames2), (.int .i64 pVisitors3), (.slice A5 (List.length pNets4) c6), (.slice A9 (List.length pTokens8) c10)], boxE g6885 56 #[(.string ⟨List.toArray x6876.1⟩), (.string ⟨List.toArray x6876.2.1⟩), (.int .i64 x6876.2.2)]] from ⟨trivial, SP.drew hs6891⟩) ⟨⟨⟨⟨⟨⟨⟨⟨⟨⟨⟨⟨⟨⟨⟨⟨⟨⟨⟨⟨⟨⟨⟨⟨⟨⟨⟨⟨⟨⟨⟨⟨⟨⟨⟨⟨⟨⟨⟨⟨⟨trivial, ?_⟩, ?_⟩, ?_⟩, ?_⟩, ?_⟩, ?_⟩, ?_⟩, ?_⟩, ?_⟩, ?_⟩, ?_⟩, ?_⟩, ?_⟩, ?_⟩, ?_⟩, ?_⟩, ?_⟩, ?_⟩, ?_⟩, ?_⟩, ?_⟩, ?_⟩, ?_⟩, ?_⟩, ?_⟩, ?_⟩, ?_⟩, ?_⟩, ?_⟩, ?_⟩, ?_⟩, ?_⟩, ?_⟩, ?_⟩, ?_⟩, ?_⟩, ?_⟩, ?_⟩, ?_⟩, ?_⟩, ?_⟩ (last := 1) K ?_
            ·exact Owe.run K [(5, (pt g6885 0))] ⟨gS K K, trivial⟩ (pt g6885 0) (fun _ _ => K) rfl
            ·refine Owe.light K [0] K (all_cons ?_ all_nil)
             ·rintro ρ' w' hs hah ⟨hvl7394, hs7393⟩
              have hkn : Known ρ' [(68, (pt g6885 0))] := ⟨hah 0 68 K, trivial⟩
              refine Step.known _ hkn ?_
              refine Step.load (t := 9) (x := (.tmp 68)) (g := g6885) (off := 0) (i := 1) (v := (.string ⟨List.toArray x6876.1⟩)) (d := (some 69)) (k := 1) K rfl K hs7393 rfl K ?_
              exact ⟨rfl, _, updO_known hkn, rfl⟩
            ·refine Owe.heavy K [(0, 1)] K (all_cons ⟨K, K, ?_⟩ all_nil)
             ·rintro ρ' w' hs hah ⟨hvl7396, hs7395⟩
              have hkn : Known ρ' [(69, (.string ⟨List.toArray x6876.1⟩))] := ⟨hah 1 69 K, trivial⟩
              refine Step.known _ hkn ?_
              refine Step.callF (f := 54) (fo := (.func 54)) (xs := #[(.tmp 69)]) (tys := #[9]) (first := #[]) (captured := #[]) (d := (some 70)) (k := 2) K rfl K K Tryd.call54 (L_subwayref04_Name_walk  x6876.1 w'  z7309 hz7310) ?_
              rintro e w7397 ⟨rfl, hs7398⟩
              refine ⟨_, rfl, ?_⟩
              have hs7400 : SP [] w0 w7397 [boxE g12 45 #[(.string ⟨List.toArray pName1⟩), (.int .i64 pNames2), (.int .i64 pVisitors3), (.slice A5 (List.length pNets4) c6), (.slice A9 (List.length pTokens8) c10)], boxE g6885 56 #[(.string ⟨List.toArray x6876.1⟩), (.string ⟨List.toArray x6876.2.1⟩), (.int .i64 x6876.2.2)]] := SP.call hs7395 hs7398
              clear hs7398
              refine ⟨_, updO_known hkn, rfl, ?_⟩
              exact (And.intro (And.intro rfl (trivial)) (hs7400))
            ·exact Owe.run K [(70, (.bool z7309))] ⟨gA 2 K K, trivial⟩ (.bool (!z7309)) (fun _ _ => K) rfl
            ·exact Owe.run K [(71, (.bool (!z7309)))] ⟨gA 3 K K, trivial⟩ (.bool (!z7309)) (fun _ _ => K) rfl
            ·exact Owe.run K [(4, (.int .i64 v6027)), (72, (.bool false))] ⟨gS K K, gB 4 K (!z7309) K hb7315, trivial⟩ (.int .i64 v6027) (fun _ _ => K) rfl
            ·exact Owe.run K [(73, (.int .i64 v6027)), (72, (.bool false))] ⟨gA 5 K K, gB 4 K (!z7309) K hb7315, trivial⟩ (.bool (decide (v6027 > 0))) (fun _ _ => K) rfl
            ·exact Owe.run K [(74, (.bool (decide (v6027 > 0)))), (72, (.bool false))] ⟨gA 6 K K, gB 4 K (!z7309) K hb7315, trivial⟩ (.bool (decide (v6027 > 0))) (fun _ _ => K) rfl
            ·exact Owe.run K [(1, (pt g12 0)), (75, (.bool true))] ⟨gS K K, gB 7 K (decide (v6027 > 0)) K hb7332, trivial⟩ (pt g12 4) (fun _ _ => K) rfl
            ·refine Owe.light K [1] K (all_cons ?_ all_nil)
             ·rintro ρ' w' hs hah ⟨⟨q7402, -⟩, hs7401⟩
              have e76 := hah 8 76 K
              have e75 := hah 7 75 K
              have hkn : Known ρ' [(76, (pt g12 4)), (75, (.bool true))] := ⟨e76, (Eq.trans e75 (congrArg Value.bool hb7332)), trivial⟩
              refine Step.known _ hkn ?_
              refine Step.load (t := 43) (x := (.tmp 76)) (g := g12) (off := 4) (i := 0) (v := (.slice A9 (List.length pTokens8) c10)) (d := (some 77)) (k := 9) K rfl K hs7401 rfl K ?_
              exact ⟨rfl, _, updO_known hkn, rfl⟩
            ·exact Owe.run K [(4, (.int .i64 v6027)), (75, (.bool true))] ⟨gS K K, gB 7 K (decide (v6027 > 0)) K hb7332, trivial⟩ (.int .i64 v6027) (fun _ _ => K) rfl
            ·exact Owe.run K [(78, (.int .i64 v6027)), (75, (.bool true))] ⟨gA 10 K K, gB 7 K (decide (v6027 > 0)) K hb7332, trivial⟩ (.int .i64 (IntKind.wrap .i64 (v6027 - 1))) (fun _ _ => K) rfl
            ·refine Owe.light K [1] K (all_cons ?_ all_nil)
             ·rintro ρ' w' hs hah ⟨⟨q7405, -⟩, hs7404⟩
              have e77 := hah 9 77 K
              have e79 := hah 11 79 K
              have e75 := hah 7 75 K
              have hkn : Known ρ' [(77, (.slice A9 (List.length pTokens8) c10)), (79, (.int .i64 (IntKind.wrap .i64 (v6027 - 1)))), (75, (.bool true))] := ⟨e77, e79, (Eq.trans e75 (congrArg Value.bool hb7332)), trivial⟩
              refine Step.known _ hkn ?_
              refine Step.elem (e := (ePair eStr (ePair eStr (eInt .i64)))) (l := pTokens8) (A := A9) (c := c10) (T := 43) (E := 56) (x := (.tmp 77)) (ix := (.tmp 79)) (ki := .i64) (iz := (IntKind.wrap .i64 (v6027 - 1))) (d := (some 80)) (k := 12) K rfl K K K K (RdT.sp hr11 hs7404) hp7334 hq7335 ?_
              intro b7407 o7408 hA7410 hb7411 hc7409
              exact ⟨rfl, _, updO_known hkn, ⟨b7407, o7408, hA7410, rfl⟩⟩
            ·refine Owe.light K [1] K (all_cons ?_ all_nil)
             ·rintro ρ' w' hs hah ⟨⟨q7413, -⟩, hs7412⟩
              obtain ⟨b7415, o7416, hA7417, e80⟩ := hah 12 80 K
              have e75 := hah 7 75 K
              have hkn : Known ρ' [(80, (.pointer (some ⟨b7415, (o7416 + Int.toNat (IntKind.wrap .i64 (v6027 - 1)) * (ePair eStr (ePair eStr (eInt .i64))).sz), none⟩))), (75, (.bool true))] := ⟨e80, (Eq.trans e75 (congrArg Value.bool hb7332)), trivial⟩
              refine Step.known _ hkn ?_
              refine Step.run (k := 13) (v := (.pointer (some ⟨b7415, (o7416 + Int.toNat (IntKind.wrap .i64 (v6027 - 1)) * (ePair eStr (ePair eStr (eInt .i64))).sz), none⟩))) K ?_
              exact ⟨rfl, _, updO_known hkn, ⟨b7415, o7416, hA7417, rfl⟩⟩
            ·refine Owe.light K [1] K (all_cons ?_ all_nil)
             ·rintro ρ' w' hs hah ⟨⟨q7419, -⟩, hs7418⟩
              obtain ⟨b7421, o7422, hA7423, e81⟩ := hah 13 81 K
              have e75 := hah 7 75 K
              have hkn : Known ρ' [(81, (.pointer (some ⟨b7421, (o7422 + Int.toNat (IntKind.wrap .i64 (v6027 - 1)) * (ePair eStr (ePair eStr (eInt .i64))).sz), none⟩))), (75, (.bool true))] := ⟨e81, (Eq.trans e75 (congrArg Value.bool hb7332)), trivial⟩
              refine Step.known _ hkn ?_
              refine Step.cell (t := 9) (x := (.tmp 81)) (b := b7421) (off := (o7422 + Int.toNat (IntKind.wrap .i64 (v6027 - 1)) * (ePair eStr (ePair eStr (eInt .i64))).sz)) (v := (.string ⟨List.toArray x7333.1⟩)) (d := (some 82)) (k := 14) K rfl K K (elem_cell (e := (ePair eStr (ePair eStr (eInt .i64)))) (rdt_cells (RdT.sp hr11 hs7418) hA7423 hp7334 hq7335) hx7336 (j := 0) rfl) ?_
              exact ⟨rfl, _, updO_known hkn, rfl⟩
            ·exact Owe.run K [(5, (pt g6885 0)), (75, (.bool true))] ⟨gS K K, gB 7 K (decide (v6027 > 0)) K hb7332, trivial⟩ (pt g6885 0) (fun _ _ => K) rfl
            ·refine Owe.light K [1] K (all_cons ?_ all_nil)
             ·rintro ρ' w' hs hah ⟨⟨q7425, -⟩, hs7424⟩
              have e83 := hah 15 83 K
              have e75 := hah 7 75 K
              have hkn : Known ρ' [(83, (pt g6885 0)), (75, (.bool true))] := ⟨e83, (Eq.trans e75 (congrArg Value.bool hb7332)), trivial⟩
              refine Step.known _ hkn ?_
              refine Step.load (t := 9) (x := (.tmp 83)) (g := g6885) (off := 0) (i := 1) (v := (.string ⟨List.toArray x6876.1⟩)) (d := (some 84)) (k := 16) K rfl K hs7424 rfl K ?_
              exact ⟨rfl, _, updO_known hkn, rfl⟩
            ·refine Owe.light K [1] K (all_cons ?_ all_nil)
             ·rintro ρ' w' hs hah ⟨⟨q7428, -⟩, hs7427⟩
              have e82 := hah 14 82 K
              have e84 := hah 16 84 K
              have e75 := hah 7 75 K
              have hkn : Known ρ' [(82, (.string ⟨List.toArray x7333.1⟩)), (84, (.string ⟨List.toArray x6876.1⟩)), (75, (.bool true))] := ⟨e82, e84, (Eq.trans e75 (congrArg Value.bool hb7332)), trivial⟩
              refine Step.known _ hkn ?_
              refine Step.strOp (op := .geq) (T := 9) (T' := 9) (x := (.tmp 82)) (y := (.tmp 84)) (a := x7333.1) (b := x6876.1) (r := (.bool (!(Op.bytesLess x7333.1 x6876.1)))) (d := (some 85)) (k := 17) K rfl K K rfl ?_
              exact ⟨rfl, _, updO_known hkn, rfl⟩
            ·exact Owe.run K [(75, (.bool true)), (85, (.bool (!(Op.bytesLess x7333.1 x6876.1)))), (72, (.bool false))] ⟨gB 7 K (decide (v6027 > 0)) K hb7332, gA 17 K K, gB 4 K (!z7309) K hb7315, trivial⟩ (.bool (!(Op.bytesLess x7333.1 x6876.1))) (fun _ _ => K) rfl
            ·exact Owe.run K [(72, (.bool false)), (86, (.bool (!(Op.bytesLess x7333.1 x6876.1))))] ⟨gB 4 K (!z7309) K hb7315, gA 18 K K, trivial⟩ (.bool (!(Op.bytesLess x7333.1 x6876.1))) (fun _ _ => K) rfl
            ·exact Owe.run K [(87, (.bool (!(Op.bytesLess x7333.1 x6876.1))))] ⟨gA 19 K K, trivial⟩ (.bool (!(Op.bytesLess x7333.1 x6876.1))) (fun _ _ => K) rfl
            ·exact Owe.run K [(5, (pt g6885 0)), (88, (.bool false))] ⟨gS K K, gB 20 K (!(Op.bytesLess x7333.1 x6876.1)) K hb7342, trivial⟩ (pt g6885 1) (fun _ _ => K) rfl
            ·refine Owe.light K [1] K (all_cons ?_ all_nil)
             ·rintro ρ' w' hs hah ⟨⟨q7431, -⟩, hs7430⟩
              have e89 := hah 21 89 K
              have e88 := hah 20 88 K
              have hkn : Known ρ' [(89, (pt g6885 1)), (88, (.bool false))] := ⟨e89, (Eq.trans e88 (congrArg Value.bool hb7342)), trivial⟩
              refine Step.known _ hkn ?_
              refine Step.load (t := 9) (x := (.tmp 89)) (g := g6885) (off := 1) (i := 1) (v := (.string ⟨List.toArray x6876.2.1⟩)) (d := (some 90)) (k := 22) K rfl K hs7430 rfl K ?_
              exact ⟨rfl, _, updO_known hkn, rfl⟩
            ·refine Owe.light K [1] K (all_cons ?_ all_nil)
             ·rintro ρ' w' hs hah ⟨⟨q7434, -⟩, hs7433⟩
              have e90 := hah 22 90 K
              have e88 := hah 20 88 K
              have hkn : Known ρ' [(90, (.string ⟨List.toArray x6876.2.1⟩)), (88, (.bool false))] := ⟨e90, (Eq.trans e88 (congrArg Value.bool hb7342)), trivial⟩
              refine Step.known _ hkn ?_
              refine Step.strOp (op := .eql) (T := 9) (T' := 9) (x := (.tmp 90)) (y := (.const (.string ⟨List.toArray ([] : List UInt8)⟩))) (a := x6876.2.1) (b := ([] : List UInt8)) (r := (.bool (x6876.2.1 == ([] : List UInt8)))) (d := (some 91)) (k := 23) K rfl K K rfl ?_
              exact ⟨rfl, _, updO_known hkn, rfl⟩
            ·exact Owe.run K [(88, (.bool false)), (91, (.bool (x6876.2.1 == ([] : List UInt8))))] ⟨gB 20 K (!(Op.bytesLess x7333.1 x6876.1)) K hb7342, gA 23 K K, trivial⟩ (.bool (x6876.2.1 == ([] : List UInt8))) (fun _ _ => K) rfl
            ·exact Owe.run K [(92, (.bool (x6876.2.1 == ([] : List UInt8))))] ⟨gA 24 K K, trivial⟩ (.bool (x6876.2.1 == ([] : List UInt8))) (fun _ _ => K) rfl
            ·exact Owe.skip K [(93, (.bool true))] ⟨gB 25 K (x6876.2.1 == ([] : List UInt8)) K hb7388, trivial⟩ (some 94) (fun _ => K) K rfl
            ·exact Owe.skip K [(93, (.bool true))] ⟨gB 25 K (x6876.2.1 == ([] : List UInt8)) K hb7388, trivial⟩ (some 95) (fun _ => K) K rfl
            ·exact Owe.skip K [(93, (.bool true))] ⟨gB 25 K (x6876.2.1 == ([] : List UInt8)) K hb7388, trivial⟩ (some 96) (fun _ => K) K rfl
            ·exact Owe.skip K [(93, (.bool true))] ⟨gB 25 K (x6876.2.1 == ([] : List UInt8)) K hb7388, trivial⟩ (some 97) (fun _ => K) K rfl
            ·exact Owe.run K [(93, (.bool true)), (97, undef)] ⟨gB 25 K (x6876.2.1 == ([] : List UInt8)) K hb7388, gA 29 K K, trivial⟩ (.bool true) (fun _ _ => K) rfl
            ·exact Owe.run K [(98, (.bool true))] ⟨gA 30 K K, trivial⟩ (.bool true) (fun _ _ => K) rfl
            ·exact Owe.skip K [(99, (.bool true))] ⟨gA 31 K K, trivial⟩ (some 100) (fun _ => K) K rfl
            ·exact Owe.skip K [(99, (.bool true))] ⟨gA 31 K K, trivial⟩ (some 101) (fun _ => K) K rfl
            ·exact Owe.skip K [(99, (.bool true))] ⟨gA 31 K K, trivial⟩ (some 102) (fun _ => K) K rfl
            ·exact Owe.run K [(99, (.bool true)), (102, undef)] ⟨gA 31 K K, gA 34 K K, trivial⟩ (.bool true) (fun _ _ => K) rfl
            ·exact Owe.run K [(103, (.bool true))] ⟨gA 35 K K, trivial⟩ (.bool true) (fun _ _ => K) rfl
            ·exact Owe.skip K [(104, (.bool true))] ⟨gA 36 K K, trivial⟩ (some 105) (fun _ => K) K rfl
            ·exact Owe.skip K [(104, (.bool true))] ⟨gA 36 K K, trivial⟩ (some 106) (fun _ => K) K rfl
            ·exact Owe.skip K [(104, (.bool true))] ⟨gA 36 K K, trivial⟩ (some 107) (fun _ => K) K rfl
            ·exact Owe.run K [(104, (.bool true)), (107, undef)] ⟨gA 36 K K, gA 39 K K, trivial⟩ (.bool true) (fun _ _ => K) rfl
            ·rintro ρ' w' hs hf ⟨⟨q7437, -⟩, hs7436⟩
             refine postKnown [(1, (pt g12 0)), (4, (.int .i64 v6027)), (108, (.bool true))] ⟨(hs 1 K).trans K, (hs 4 K).trans K, hf 40 108 K, trivial⟩ ?_
             obtain ⟨w7439, hww7439⟩ : ∃ x, w' = x := ⟨_, rfl⟩
             rw [hww7439] at hs7436 ⊢
             exact ⟨true, ⟨K, K, K, trivial⟩, SP.sel hs7436 [0] rfl rfl, H⟩
           ·have H := cf H hb7388
            rcases Bool.eq_false_or_eq_true (decide (((List.length x6876.2.1 : Nat) : Int) > 32)) with hb7440 | hb7440
            ·have H := ct H hb7440
             refine At.stages K K K K K [GEq (pt g6885 0), GEq (.string ⟨List.toArray x6876.1⟩), GEq (.bool z7309), GEq (.bool (!z7309)), GEq (.bool (!z7309)), GEq (.int .i64 v6027), GEq (.bool (decide (v6027 > 0))), GEq (.bool (decide (v6027 > 0))), GEq (pt g12 4), GEq (.slice A9 (List.length pTokens8) c10), GEq (.int .i64 v6027), GEq (.int .i64 (IntKind.wrap .i64 (v6027 - 1))), GElem0 A9 (ePair eStr (ePair eStr (eInt .i64))).sz (IntKind.wrap .i64 (v6027 - 1)), GElem0 A9 (ePair eStr (ePair eStr (eInt .i64))).sz (IntKind.wrap .i64 (v6027 - 1)), GEq (.string ⟨List.toArray x7333.1⟩), GEq (pt g6885 0), GEq (.string ⟨List.toArray x6876.1⟩), GEq (.bool (!(Op.bytesLess x7333.1 x6876.1))), GEq (.bool (!(Op.bytesLess x7333.1 x6876.1))), GEq (.bool (!(Op.bytesLess x7333.1 x6876.1))), GEq (.bool (!(Op.bytesLess x7333.1 x6876.1))), GEq (pt g6885 1), GEq (.string ⟨List.toArray x6876.2.1⟩), GEq (.bool (x6876.2.1 == ([] : List UInt8))), GEq (.bool (x6876.2.1 == ([] : List UInt8))), GEq (.bool (x6876.2.1 == ([] : List UInt8))), GEq (pt g6885 1), GEq (.string ⟨List.toArray x6876.2.1⟩), GEq (.int .i64 ((List.length x6876.2.1 : Nat) : Int)), GEq (.bool (decide (((List.length x6876.2.1 : Nat) : Int) > 32))), GEq (.bool (decide (((List.length x6876.2.1 : Nat) : Int) > 32))), GEq (.bool (decide (((List.length x6876.2.1 : Nat) : Int) > 32))), GEq undef, GEq undef, GEq undef, GEq (.bool true), GEq (.bool true), GEq undef, GEq undef, GEq undef, GEq (.bool true)] [2] [([], fun vs w => VL vs [] ∧ SP [] w0 w [boxE g12 45 #[(.string ⟨List.toArray pName1⟩), (.int .i64 pNames2), (.int .i64 pVisitors3), (.slice A5 (List.length pNets4) c6), (.slice A9 (List.length pTokens8) c10)], boxE g6885 56 #[(.string ⟨List.toArray x6876.1⟩), (.string ⟨List.toArray x6876.2.1⟩), (.int .i64 x6876.2.2)]]), ([2], fun vs w => VL vs [(.bool z7309)] ∧ SP [] w0 w [boxE g12 45 #[(.string ⟨List.toArray pName1⟩), (.int .i64 pNames2), (.int .i64 pVisitors3), (.slice A5 (List.length pNets4) c6), (.slice A9 (List.length pTokens8) c10)], boxE g6885 56 #[(.string ⟨List.toArray x6876.1⟩), (.string ⟨List.toArray x6876.2.1⟩), (.int .i64 x6876.2.2)]])] (N := 41) K ⟨K, Nat.zero_lt_succ _⟩ (show VL [] [] ∧ SP [] w0 w6889.drew [boxE g12 45 #[(.string ⟨List.toArray pName1⟩), (.int .i64 pNames2), (.int .i64 pVisitors3), (.slice A5 (List.length pNets4) c6), (.slice A9 (List.length pTokens8) c10)], boxE g6885 56 #[(.string ⟨List.toArray x6876.1⟩), (.string ⟨List.toArray x6876.2.1⟩), (.int .i64 x6876.2.2)]] from ⟨trivial, SP.drew hs6891⟩) ⟨⟨⟨⟨⟨⟨⟨⟨⟨⟨⟨⟨⟨⟨⟨⟨⟨⟨⟨⟨⟨⟨⟨⟨⟨⟨⟨⟨⟨⟨⟨⟨⟨⟨⟨⟨⟨⟨⟨⟨⟨trivial, ?_⟩, ?_⟩, ?_⟩, ?_⟩, ?_⟩, ?_⟩, ?_⟩, ?_⟩, ?_⟩, ?_⟩, ?_⟩, ?_⟩, ?_⟩, ?_⟩, ?_⟩, ?_⟩, ?_⟩, ?_⟩, ?_⟩, ?_⟩, ?_⟩, ?_⟩, ?_⟩, ?_⟩, ?_⟩, ?_⟩, ?_⟩, ?_⟩, ?_⟩, ?_⟩, ?_⟩, ?_⟩, ?_⟩, ?_⟩, ?_⟩, ?_⟩, ?_⟩, ?_⟩, ?_⟩, ?_⟩, ?_⟩ (last := 1) K ?_
             ·exact Owe.run K [(5, (pt g6885 0))] ⟨gS K K, trivial⟩ (pt g6885 0) (fun _ _ => K) rfl
             ·refine Owe.light K [0] K (all_cons ?_ all_nil)
              ·rintro ρ' w' hs hah ⟨hvl7446, hs7445⟩
               have hkn : Known ρ' [(68, (pt g6885 0))] := ⟨hah 0 68 K, trivial⟩
               refine Step.known _ hkn ?_
               refine Step.load (t := 9) (x := (.tmp 68)) (g := g6885) (off := 0) (i := 1) (v := (.string ⟨List.toArray x6876.1⟩)) (d := (some 69)) (k := 1) K rfl K hs7445 rfl K ?_
               exact ⟨rfl, _, updO_known hkn, rfl⟩
             ·refine Owe.heavy K [(0, 1)] K (all_cons ⟨K, K, ?_⟩ all_nil)
              ·rintro ρ' w' hs hah ⟨hvl7448, hs7447⟩
               have hkn : Known ρ' [(69, (.string ⟨List.toArray x6876.1⟩))] := ⟨hah 1 69 K, trivial⟩
               refine Step.known _ hkn ?_
               refine Step.callF (f := 54) (fo := (.func 54)) (xs := #[(.tmp 69)]) (tys := #[9]) (first := #[]) (captured := #[]) (d := (some 70)) (k := 2) K rfl K K Tryd.call54 (L_subwayref04_Name_walk  x6876.1 w'  z7309 hz7310) ?_
               rintro e w7449 ⟨rfl, hs7450⟩
               refine ⟨_, rfl, ?_⟩
               have hs7452 : SP [] w0 w7449 [boxE g12 45 #[(.string ⟨List.toArray pName1⟩), (.int .i64 pNames2), (.int .i64 pVisitors3), (.slice A5 (List.length pNets4) c6), (.slice A9 (List.length pTokens8) c10)], boxE g6885 56 #[(.string ⟨List.toArray x6876.1⟩), (.string ⟨List.toArray x6876.2.1⟩), (.int .i64 x6876.2.2)]] := SP.call hs7447 hs7450
               clear hs7450
               refine ⟨_, updO_known hkn, rfl, ?_⟩
               exact (And.intro (And.intro rfl (trivial)) (hs7452))
             ·exact Owe.run K [(70, (.bool z7309))] ⟨gA 2 K K, trivial⟩ (.bool (!z7309)) (fun _ _ => K) rfl
             ·exact Owe.run K [(71, (.bool (!z7309)))] ⟨gA 3 K K, trivial⟩ (.bool (!z7309)) (fun _ _ => K) rfl
             ·exact Owe.run K [(4, (.int .i64 v6027)), (72, (.bool false))] ⟨gS K K, gB 4 K (!z7309) K hb7315, trivial⟩ (.int .i64 v6027) (fun _ _ => K) rfl
             ·exact Owe.run K [(73, (.int .i64 v6027)), (72, (.bool false))] ⟨gA 5 K K, gB 4 K (!z7309) K hb7315, trivial⟩ (.bool (decide (v6027 > 0))) (fun _ _ => K) rfl
             ·exact Owe.run K [(74, (.bool (decide (v6027 > 0)))), (72, (.bool false))] ⟨gA 6 K K, gB 4 K (!z7309) K hb7315, trivial⟩ (.bool (decide (v6027 > 0))) (fun _ _ => K) rfl
             ·exact Owe.run K [(1, (pt g12 0)), (75, (.bool true))] ⟨gS K K, gB 7 K (decide (v6027 > 0)) K hb7332, trivial⟩ (pt g12 4) (fun _ _ => K) rfl
             ·refine Owe.light K [1] K (all_cons ?_ all_nil)
              ·rintro ρ' w' hs hah ⟨⟨q7454, -⟩, hs7453⟩
               have e76 := hah 8 76 K
               have e75 := hah 7 75 K
               have hkn : Known ρ' [(76, (pt g12 4)), (75, (.bool true))] := ⟨e76, (Eq.trans e75 (congrArg Value.bool hb7332)), trivial⟩
               refine Step.known _ hkn ?_
               refine Step.load (t := 43) (x := (.tmp 76)) (g := g12) (off := 4) (i := 0) (v := (.slice A9 (List.length pTokens8) c10)) (d := (some 77)) (k := 9) K rfl K hs7453 rfl K ?_
               exact ⟨rfl, _, updO_known hkn, rfl⟩
             ·exact Owe.run K [(4, (.int .i64 v6027)), (75, (.bool true))] ⟨gS K K, gB 7 K (decide (v6027 > 0)) K hb7332, trivial⟩ (.int .i64 v6027) (fun _ _ => K) rfl
             ·exact Owe.run K [(78, (.int .i64 v6027)), (75, (.bool true))] ⟨gA 10 K K, gB 7 K (decide (v6027 > 0)) K hb7332, trivial⟩ (.int .i64 (IntKind.wrap .i64 (v6027 - 1))) (fun _ _ => K) rfl
             ·refine Owe.light K [1] K (all_cons ?_ all_nil)
              ·rintro ρ' w' hs hah ⟨⟨q7457, -⟩, hs7456⟩
               have e77 := hah 9 77 K
               have e79 := hah 11 79 K
               have e75 := hah 7 75 K
               have hkn : Known ρ' [(77, (.slice A9 (List.length pTokens8) c10)), (79, (.int .i64 (IntKind.wrap .i64 (v6027 - 1)))), (75, (.bool true))] := ⟨e77, e79, (Eq.trans e75 (congrArg Value.bool hb7332)), trivial⟩
               refine Step.known _ hkn ?_
               refine Step.elem (e := (ePair eStr (ePair eStr (eInt .i64)))) (l := pTokens8) (A := A9) (c := c10) (T := 43) (E := 56) (x := (.tmp 77)) (ix := (.tmp 79)) (ki := .i64) (iz := (IntKind.wrap .i64 (v6027 - 1))) (d := (some 80)) (k := 12) K rfl K K K K (RdT.sp hr11 hs7456) hp7334 hq7335 ?_
               intro b7459 o7460 hA7462 hb7463 hc7461
               exact ⟨rfl, _, updO_known hkn, ⟨b7459, o7460, hA7462, rfl⟩⟩
             ·refine Owe.light K [1] K (all_cons ?_ all_nil)
              ·rintro ρ' w' hs hah ⟨⟨q7465, -⟩, hs7464⟩
               obtain ⟨b7467, o7468, hA7469, e80⟩ := hah 12 80 K
               have e75 := hah 7 75 K
               have hkn : Known ρ' [(80, (.pointer (some ⟨b7467, (o7468 + Int.toNat (IntKind.wrap .i64 (v6027 - 1)) * (ePair eStr (ePair eStr (eInt .i64))).sz), none⟩))), (75, (.bool true))] := ⟨e80, (Eq.trans e75 (congrArg Value.bool hb7332)), trivial⟩
               refine Step.known _ hkn ?_
               refine Step.run (k := 13) (v := (.pointer (some ⟨b7467, (o7468 + Int.toNat (IntKind.wrap .i64 (v6027 - 1)) * (ePair eStr (ePair eStr (eInt .i64))).sz), none⟩))) K ?_
               exact ⟨rfl, _, updO_known hkn, ⟨b7467, o7468, hA7469, rfl⟩⟩
             ·refine Owe.light K [1] K (all_cons ?_ all_nil)
              ·rintro ρ' w' hs hah ⟨⟨q7471, -⟩, hs7470⟩
               obtain ⟨b7473, o7474, hA7475, e81⟩ := hah 13 81 K
               have e75 := hah 7 75 K
               have hkn : Known ρ' [(81, (.pointer (some ⟨b7473, (o7474 + Int.toNat (IntKind.wrap .i64 (v6027 - 1)) * (ePair eStr (ePair eStr (eInt .i64))).sz), none⟩))), (75, (.bool true))] := ⟨e81, (Eq.trans e75 (congrArg Value.bool hb7332)), trivial⟩
               refine Step.known _ hkn ?_
               refine Step.cell (t := 9) (x := (.tmp 81)) (b := b7473) (off := (o7474 + Int.toNat (IntKind.wrap .i64 (v6027 - 1)) * (ePair eStr (ePair eStr (eInt .i64))).sz)) (v := (.string ⟨List.toArray x7333.1⟩)) (d := (some 82)) (k := 14) K rfl K K (elem_cell (e := (ePair eStr (ePair eStr (eInt .i64)))) (rdt_cells (RdT.sp hr11 hs7470) hA7475 hp7334 hq7335) hx7336 (j := 0) rfl) ?_
               exact ⟨rfl, _, updO_known hkn, rfl⟩
             ·exact Owe.run K [(5, (pt g6885 0)), (75, (.bool true))] ⟨gS K K, gB 7 K (decide (v6027 > 0)) K hb7332, trivial⟩ (pt g6885 0) (fun _ _ => K) rfl
             ·refine Owe.light K [1] K (all_cons ?_ all_nil)
              ·rintro ρ' w' hs hah ⟨⟨q7477, -⟩, hs7476⟩
               have e83 := hah 15 83 K
               have e75 := hah 7 75 K
               have hkn : Known ρ' [(83, (pt g6885 0)), (75, (.bool true))] := ⟨e83, (Eq.trans e75 (congrArg Value.bool hb7332)), trivial⟩
               refine Step.known _ hkn ?_
               refine Step.load (t := 9) (x := (.tmp 83)) (g := g6885) (off := 0) (i := 1) (v := (.string ⟨List.toArray x6876.1⟩)) (d := (some 84)) (k := 16) K rfl K hs7476 rfl K ?_
               exact ⟨rfl, _, updO_known hkn, rfl⟩
             ·refine Owe.light K [1] K (all_cons ?_ all_nil)
              ·rintro ρ' w' hs hah ⟨⟨q7480, -⟩, hs7479⟩
               have e82 := hah 14 82 K
               have e84 := hah 16 84 K
               have e75 := hah 7 75 K
               have hkn : Known ρ' [(82, (.string ⟨List.toArray x7333.1⟩)), (84, (.string ⟨List.toArray x6876.1⟩)), (75, (.bool true))] := ⟨e82, e84, (Eq.trans e75 (congrArg Value.bool hb7332)), trivial⟩
               refine Step.known _ hkn ?_
               refine Step.strOp (op := .geq) (T := 9) (T' := 9) (x := (.tmp 82)) (y := (.tmp 84)) (a := x7333.1) (b := x6876.1) (r := (.bool (!(Op.bytesLess x7333.1 x6876.1)))) (d := (some 85)) (k := 17) K rfl K K rfl ?_
               exact ⟨rfl, _, updO_known hkn, rfl⟩
             ·exact Owe.run K [(75, (.bool true)), (85, (.bool (!(Op.bytesLess x7333.1 x6876.1)))), (72, (.bool false))] ⟨gB 7 K (decide (v6027 > 0)) K hb7332, gA 17 K K, gB 4 K (!z7309) K hb7315, trivial⟩ (.bool (!(Op.bytesLess x7333.1 x6876.1))) (fun _ _ => K) rfl
             ·exact Owe.run K [(72, (.bool false)), (86, (.bool (!(Op.bytesLess x7333.1 x6876.1))))] ⟨gB 4 K (!z7309) K hb7315, gA 18 K K, trivial⟩ (.bool (!(Op.bytesLess x7333.1 x6876.1))) (fun _ _ => K) rfl
             ·exact Owe.run K [(87, (.bool (!(Op.bytesLess x7333.1 x6876.1))))] ⟨gA 19 K K, trivial⟩ (.bool (!(Op.bytesLess x7333.1 x6876.1))) (fun _ _ => K) rfl
             ·exact Owe.run K [(5, (pt g6885 0)), (88, (.bool false))] ⟨gS K K, gB 20 K (!(Op.bytesLess x7333.1 x6876.1)) K hb7342, trivial⟩ (pt g6885 1) (fun _ _ => K) rfl
             ·refine Owe.light K [1] K (all_cons ?_ all_nil)
              ·rintro ρ' w' hs hah ⟨⟨q7483, -⟩, hs7482⟩
               have e89 := hah 21 89 K
               have e88 := hah 20 88 K
               have hkn : Known ρ' [(89, (pt g6885 1)), (88, (.bool false))] := ⟨e89, (Eq.trans e88 (congrArg Value.bool hb7342)), trivial⟩
               refine Step.known _ hkn ?_
               refine Step.load (t := 9) (x := (.tmp 89)) (g := g6885) (off := 1) (i := 1) (v := (.string ⟨List.toArray x6876.2.1⟩)) (d := (some 90)) (k := 22) K rfl K hs7482 rfl K ?_
               exact ⟨rfl, _, updO_known hkn, rfl⟩
             ·refine Owe.light K [1] K (all_cons ?_ all_nil)
              ·rintro ρ' w' hs hah ⟨⟨q7486, -⟩, hs7485⟩
               have e90 := hah 22 90 K
               have e88 := hah 20 88 K
               have hkn : Known ρ' [(90, (.string ⟨List.toArray x6876.2.1⟩)), (88, (.bool false))] := ⟨e90, (Eq.trans e88 (congrArg Value.bool hb7342)), trivial⟩
               refine Step.known _ hkn ?_
               refine Step.strOp (op := .eql) (T := 9) (T' := 9) (x := (.tmp 90)) (y := (.const (.string ⟨List.toArray ([] : List UInt8)⟩))) (a := x6876.2.1) (b := ([] : List UInt8)) (r := (.bool (x6876.2.1 == ([] : List UInt8)))) (d := (some 91)) (k := 23) K rfl K K rfl ?_
               exact ⟨rfl, _, updO_known hkn, rfl⟩
             ·exact Owe.run K [(88, (.bool false)), (91, (.bool (x6876.2.1 == ([] : List UInt8))))] ⟨gB 20 K (!(Op.bytesLess x7333.1 x6876.1)) K hb7342, gA 23 K K, trivial⟩ (.bool (x6876.2.1 == ([] : List UInt8))) (fun _ _ => K) rfl
             ·exact Owe.run K [(92, (.bool (x6876.2.1 == ([] : List UInt8))))] ⟨gA 24 K K, trivial⟩ (.bool (x6876.2.1 == ([] : List UInt8))) (fun _ _ => K) rfl
             ·exact Owe.run K [(5, (pt g6885 0)), (93, (.bool false))] ⟨gS K K, gB 25 K (x6876.2.1 == ([] : List UInt8)) K hb7388, trivial⟩ (pt g6885 1) (fun _ _ => K) rfl
             ·refine Owe.light K [1] K (all_cons ?_ all_nil)
              ·rintro ρ' w' hs hah ⟨⟨q7489, -⟩, hs7488⟩
               have e94 := hah 26 94 K
               have e93 := hah 25 93 K
               have hkn : Known ρ' [(94, (pt g6885 1)), (93, (.bool false))] := ⟨e94, (Eq.trans e93 (congrArg Value.bool hb7388)), trivial⟩
               refine Step.known _ hkn ?_
               refine Step.load (t := 9) (x := (.tmp 94)) (g := g6885) (off := 1) (i := 1) (v := (.string ⟨List.toArray x6876.2.1⟩)) (d := (some 95)) (k := 27) K rfl K hs7488 rfl K ?_
               exact ⟨rfl, _, updO_known hkn, rfl⟩
             ·exact Owe.run K [(95, (.string ⟨List.toArray x6876.2.1⟩)), (93, (.bool false))] ⟨gA 27 K K, gB 25 K (x6876.2.1 == ([] : List UInt8)) K hb7388, trivial⟩ (.int .i64 ((List.length x6876.2.1 : Nat) : Int)) (fun _ _ => K) rfl
             ·exact Owe.run K [(96, (.int .i64 ((List.length x6876.2.1 : Nat) : Int))), (93, (.bool false))] ⟨gA 28 K K, gB 25 K (x6876.2.1 == ([] : List UInt8)) K hb7388, trivial⟩ (.bool (decide (((List.length x6876.2.1 : Nat) : Int) > 32))) (fun _ _ => K) rfl
             ·exact Owe.run K [(93, (.bool false)), (97, (.bool (decide (((List.length x6876.2.1 : Nat) : Int) > 32))))] ⟨gB 25 K (x6876.2.1 == ([] : List UInt8)) K hb7388, gA 29 K K, trivial⟩ (.bool (decide (((List.length x6876.2.1 : Nat) : Int) > 32))) (fun _ _ => K) rfl
             ·exact Owe.run K [(98, (.bool (decide (((List.length x6876.2.1 : Nat) : Int) > 32))))] ⟨gA 30 K K, trivial⟩ (.bool (decide (((List.length x6876.2.1 : Nat) : Int) > 32))) (fun _ _ => K) rfl
             ·exact Owe.skip K [(99, (.bool true))] ⟨gB 31 K (decide (((List.length x6876.2.1 : Nat) : Int) > 32)) K hb7440, trivial⟩ (some 100) (fun _ => K) K rfl
             ·exact Owe.skip K [(99, (.bool true))] ⟨gB 31 K (decide (((List.length x6876.2.1 : Nat) : Int) > 32)) K hb7440, trivial⟩ (some 101) (fun _ => K) K rfl
             ·exact Owe.skip K [(99, (.bool true))] ⟨gB 31 K (decide (((List.length x6876.2.1 : Nat) : Int) > 32)) K hb7440, trivial⟩ (some 102) (fun _ => K) K rfl
             ·exact Owe.run K [(99, (.bool true)), (102, undef)] ⟨gB 31 K (decide (((List.length x6876.2.1 : Nat) : Int) > 32)) K hb7440, gA 34 K K, trivial⟩ (.bool true) (fun _ _ => K) rfl
             ·exact Owe.run K [(103, (.bool true))] ⟨gA 35 K K, trivial⟩ (.bool true) (fun _ _ => K) rfl
             ·exact Owe.skip K [(104, (.bool true))] ⟨gA 36 K K, trivial⟩ (some 105) (fun _ => K) K rfl
             ·exact Owe.skip K [(104, (.bool true))] ⟨gA 36 K K, trivial⟩ (some 106) (fun _ => K) K rfl
             ·exact Owe.skip K [(104, (.bool true))] ⟨gA 36 K K, trivial⟩ (some 107) (fun _ => K) K rfl
             ·exact Owe.run K [(104, (.bool true)), (107, undef)] ⟨gA 36 K K, gA 39 K K, trivial⟩ (.bool true) (fun _ _ => K) rfl
             ·rintro ρ' w' hs hf ⟨⟨q7492, -⟩, hs7491⟩
              refine postKnown [(1, (pt g12 0)), (4, (.int .i64 v6027)), (108, (.bool true))] ⟨(hs 1 K).trans K, (hs 4 K).trans K, hf 40 108 K, trivial⟩ ?_
              obtain ⟨w7494, hww7494⟩ : ∃ x, w' = x := ⟨_, rfl⟩
              rw [hww7494] at hs7491 ⊢
              exact ⟨true, ⟨K, K, K, trivial⟩, SP.sel hs7491 [0] rfl rfl, H⟩
            ·have H := cf H hb7440
             rcases Bool.eq_false_or_eq_true (decide (x6876.2.2 < 0)) with hb7495 | hb7495
             ·have H := ct H hb7495
              refine At.stages K K K K K [GEq (pt g6885 0), GEq (.string ⟨List.toArray x6876.1⟩), GEq (.bool z7309), GEq (.bool (!z7309)), GEq (.bool (!z7309)), GEq (.int .i64 v6027), GEq (.bool (decide (v6027 > 0))), GEq (.bool (decide (v6027 > 0))), GEq (pt g12 4), GEq (.slice A9 (List.length pTokens8) c10), GEq (.int .i64 v6027), GEq (.int .i64 (IntKind.wrap .i64 (v6027 - 1))), GElem0 A9 (ePair eStr (ePair eStr (eInt .i64))).sz (IntKind.wrap .i64 (v6027 - 1)), GElem0 A9 (ePair eStr (ePair eStr (eInt .i64))).sz (IntKind.wrap .i64 (v6027 - 1)), GEq (.string ⟨List.toArray x7333.1⟩), GEq (pt g6885 0), GEq (.string ⟨List.toArray x6876.1⟩), GEq (.bool (!(Op.bytesLess x7333.1 x6876.1))), GEq (.bool (!(Op.bytesLess x7333.1 x6876.1))), GEq (.bool (!(Op.bytesLess x7333.1 x6876.1))), GEq (.bool (!(Op.bytesLess x7333.1 x6876.1))), GEq (pt g6885 1), GEq (.string ⟨List.toArray x6876.2.1⟩), GEq (.bool (x6876.2.1 == ([] : List UInt8))), GEq (.bool (x6876.2.1 == ([] : List UInt8))), GEq (.bool (x6876.2.1 == ([] : List UInt8))), GEq (pt g6885 1), GEq (.string ⟨List.toArray x6876.2.1⟩), GEq (.int .i64 ((List.length x6876.2.1 : Nat) : Int)), GEq (.bool (decide (((List.length x6876.2.1 : Nat) : Int) > 32))), GEq (.bool (decide (((List.length x6876.2.1 : Nat) : Int) > 32))), GEq (.bool (decide (((List.length x6876.2.1 : Nat) : Int) > 32))), GEq (pt g6885 2), GEq (.int .i64 x6876.2.2), GEq (.bool (decide (x6876.2.2 < 0))), GEq (.bool (decide (x6876.2.2 < 0))), GEq (.bool (decide (x6876.2.2 < 0))), GEq undef, GEq undef, GEq undef, GEq (.bool true)] [2] [([], fun vs w => VL vs [] ∧ SP [] w0 w [boxE g12 45 #[(.string ⟨List.toArray pName1⟩), (.int .i64 pNames2), (.int .i64 pVisitors3), (.slice A5 (List.length pNets4) c6), (.slice A9 (List.length pTokens8) c10)], boxE g6885 56 #[(.string ⟨List.toArray x6876.1⟩), (.string ⟨List.toArray x6876.2.1⟩), (.int .i64 x6876.2.2)]]), ([2], fun vs w => VL vs [(.bool z7309)] ∧ SP [] w0 w [boxE g12 45 #[(.string ⟨List.toArray pName1⟩), (.int .i64 pNames2), (.int .i64 pVisitors3), (.slice A5 (List.length pNets4) c6), (.slice A9 (List.length pTokens8) c10)], boxE g6885 56 #[(.string ⟨List.toArray x6876.1⟩), (.string ⟨List.toArray x6876.2.1⟩), (.int .i64 x6876.2.2)]])] (N := 41) K ⟨K, Nat.zero_lt_succ _⟩ (show VL [] [] ∧ SP [] w0 w6889.drew [boxE g12 45 #[(.string ⟨List.toArray pName1⟩), (.int .i64 pNames2), (.int .i64 pVisitors3), (.slice A5 (List.length pNets4) c6), (.slice A9 (List.length pTokens8) c10)], boxE g6885 56 #[(.string ⟨List.toArray x6876.1⟩), (.string ⟨List.toArray x6876.2.1⟩), (.int .i64 x6876.2.2)]] from ⟨trivial, SP.drew hs6891⟩) ⟨⟨⟨⟨⟨⟨⟨⟨⟨⟨⟨⟨⟨⟨⟨⟨⟨⟨⟨⟨⟨⟨⟨⟨⟨⟨⟨⟨⟨⟨⟨⟨⟨⟨⟨⟨⟨⟨⟨⟨⟨trivial, ?_⟩, ?_⟩, ?_⟩, ?_⟩, ?_⟩, ?_⟩, ?_⟩, ?_⟩, ?_⟩, ?_⟩, ?_⟩, ?_⟩, ?_⟩, ?_⟩, ?_⟩, ?_⟩, ?_⟩, ?_⟩, ?_⟩, ?_⟩, ?_⟩, ?_⟩, ?_⟩, ?_⟩, ?_⟩, ?_⟩, ?_⟩, ?_⟩, ?_⟩, ?_⟩, ?_⟩, ?_⟩, ?_⟩, ?_⟩, ?_⟩, ?_⟩, ?_⟩, ?_⟩, ?_⟩, ?_⟩, ?_⟩ (last := 1) K ?_
              ·exact Owe.run K [(5, (pt g6885 0))] ⟨gS K K, trivial⟩ (pt g6885 0) (fun _ _ => K) rfl
              ·refine Owe.light K [0] K (all_cons ?_ all_nil)
               ·rintro ρ' w' hs hah ⟨hvl7501, hs7500⟩
                have hkn : Known ρ' [(68, (pt g6885 0))] := ⟨hah 0 68 K, trivial⟩
                refine Step.known _ hkn ?_
                refine Step.load (t := 9) (x := (.tmp 68)) (g := g6885) (off := 0) (i := 1) (v := (.string ⟨List.toArray x6876.1⟩)) (d := (some 69)) (k := 1) K rfl K hs7500 rfl K ?_
                exact ⟨rfl, _, updO_known hkn, rfl⟩
              ·refine Owe.heavy K [(0, 1)] K (all_cons ⟨K, K, ?_⟩ all_nil)
               ·rintro ρ' w' hs hah ⟨hvl7503, hs7502⟩
                have hkn : Known ρ' [(69, (.string ⟨List.toArray x6876.1⟩))] := ⟨hah 1 69 K, trivial⟩
                refine Step.known _ hkn ?_
                refine Step.callF (f := 54) (fo := (.func 54)) (xs := #[(.tmp 69)]) (tys := #[9]) (first := #[]) (captured := #[]) (d := (some 70)) (k := 2) K rfl K K Tryd.call54 (L_subwayref04_Name_walk  x6876.1 w'  z7309 hz7310) ?_
                rintro e w7504 ⟨rfl, hs7505⟩
                refine ⟨_, rfl, ?_⟩
                have hs7507 : SP [] w0 w7504 [boxE g12 45 #[(.string ⟨List.toArray pName1⟩), (.int .i64 pNames2), (.int .i64 pVisitors3), (.slice A5 (List.length pNets4) c6), (.slice A9 (List.length pTokens8) c10)], boxE g6885 56 #[(.string ⟨List.toArray x6876.1⟩), (.string ⟨List.toArray x6876.2.1⟩), (.int .i64 x6876.2.2)]] := SP.call hs7502 hs7505
                clear hs7505
                refine ⟨_, updO_known hkn, rfl, ?_⟩
                exact (And.intro (And.intro rfl (trivial)) (hs7507))
              ·exact Owe.run K [(70, (.bool z7309))] ⟨gA 2 K K, trivial⟩ (.bool (!z7309)) (fun _ _ => K) rfl
              ·exact Owe.run K [(71, (.bool (!z7309)))] ⟨gA 3 K K, trivial⟩ (.bool (!z7309)) (fun _ _ => K) rfl
              ·exact Owe.run K [(4, (.int .i64 v6027)), (72, (.bool false))] ⟨gS K K, gB 4 K (!z7309) K hb7315, trivial⟩ (.int .i64 v6027) (fun _ _ => K) rfl
              ·exact Owe.run K [(73, (.int .i64 v6027)), (72, (.bool false))] ⟨gA 5 K K, gB 4 K (!z7309) K hb7315, trivial⟩ (.bool (decide (v6027 > 0))) (fun _ _ => K) rfl
              ·exact Owe.run K [(74, (.bool (decide (v6027 > 0)))), (72, (.bool false))] ⟨gA 6 K K, gB 4 K (!z7309) K hb7315, trivial⟩ (.bool (decide (v6027 > 0))) (fun _ _ => K) rfl
              ·exact Owe.run K [(1, (pt g12 0)), (75, (.bool true))] ⟨gS K K, gB 7 K (decide (v6027 > 0)) K hb7332, trivial⟩ (pt g12 4) (fun _ _ => K) rfl
              ·refine Owe.light K [1] K (all_cons ?_ all_nil)
               ·rintro ρ' w' hs hah ⟨⟨q7509, -⟩, hs7508⟩
                have e76 := hah 8 76 K
                have e75 := hah 7 75 K
                have hkn : Known ρ' [(76, (pt g12 4)), (75, (.bool true))] := ⟨e76, (Eq.trans e75 (congrArg Value.bool hb7332)), trivial⟩
                refine Step.known _ hkn ?_
                refine Step.load (t := 43) (x := (.tmp 76)) (g := g12) (off := 4) (i := 0) (v := (.slice A9 (List.length pTokens8) c10)) (d := (some 77)) (k := 9) K rfl K hs7508 rfl K ?_
                exact ⟨rfl, _, updO_known hkn, rfl⟩
              ·exact Owe.run K [(4, (.int .i64 v6027)), (75, (.bool true))] ⟨gS K K, gB 7 K (decide (v6027 > 0)) K hb7332, trivial⟩ (.int .i64 v6027) (fun _ _ => K) rfl
              ·exact Owe.run K [(78, (.int .i64 v6027)), (75, (.bool true))] ⟨gA 10 K K, gB 7 K (decide (v6027 > 0)) K hb7332, trivial⟩ (.int .i64 (IntKind.wrap .i64 (v6027 - 1))) (fun _ _ => K) rfl
              ·refine Owe.light K [1] K (all_cons ?_ all_nil)
               ·rintro ρ' w' hs hah ⟨⟨q7512, -⟩, hs7511⟩
                have e77 := hah 9 77 K
                have e79 := hah 11 79 K
                have e75 := hah 7 75 K
                have hkn : Known ρ' [(77, (.slice A9 (List.length pTokens8) c10)), (79, (.int .i64 (IntKind.wrap .i64 (v6027 - 1)))), (75, (.bool true))] := ⟨e77, e79, (Eq.trans e75 (congrArg Value.bool hb7332)), trivial⟩
                refine Step.known _ hkn ?_
                refine Step.elem (e := (ePair eStr (ePair eStr (eInt .i64)))) (l := pTokens8) (A := A9) (c := c10) (T := 43) (E := 56) (x := (.tmp 77)) (ix := (.tmp 79)) (ki := .i64) (iz := (IntKind.wrap .i64 (v6027 - 1))) (d := (some 80)) (k := 12) K rfl K K K K (RdT.sp hr11 hs7511) hp7334 hq7335 ?_
                intro b7514 o7515 hA7517 hb7518 hc7516
                exact ⟨rfl, _, updO_known hkn, ⟨b7514, o7515, hA7517, rfl⟩⟩
              ·refine Owe.light K [1] K (all_cons ?_ all_nil)
               ·rintro ρ' w' hs hah ⟨⟨q7520, -⟩, hs7519⟩
                obtain ⟨b7522, o7523, hA7524, e80⟩ := hah 12 80 K
                have e75 := hah 7 75 K
                have hkn : Known ρ' [(80, (.pointer (some ⟨b7522, (o7523 + Int.toNat (IntKind.wrap .i64 (v6027 - 1)) * (ePair eStr (ePair eStr (eInt .i64))).sz), none⟩))), (75, (.bool true))] := ⟨e80, (Eq.trans e75 (congrArg Value.bool hb7332)), trivial⟩
                refine Step.known _ hkn ?_
                refine Step.run (k := 13) (v := (.pointer (some ⟨b7522, (o7523 + Int.toNat (IntKind.wrap .i64 (v6027 - 1)) * (ePair eStr (ePair eStr (eInt .i64))).sz), none⟩))) K ?_
                exact ⟨rfl, _, updO_known hkn, ⟨b7522, o7523, hA7524, rfl⟩⟩
              ·refine Owe.light K [1] K (all_cons ?_ all_nil)
               ·rintro ρ' w' hs hah ⟨⟨q7526, -⟩, hs7525⟩
                obtain ⟨b7528, o7529, hA7530, e81⟩ := hah 13 81 K
                have e75 := hah 7 75 K
                have hkn : Known ρ' [(81, (.pointer (some ⟨b7528, (o7529 + Int.toNat (IntKind.wrap .i64 (v6027 - 1)) * (ePair eStr (ePair eStr (eInt .i64))).sz), none⟩))), (75, (.bool true))] := ⟨e81, (Eq.trans e75 (congrArg Value.bool hb7332)), trivial⟩
                refine Step.known _ hkn ?_
                refine Step.cell (t := 9) (x := (.tmp 81)) (b := b7528) (off := (o7529 + Int.toNat (IntKind.wrap .i64 (v6027 - 1)) * (ePair eStr (ePair eStr (eInt .i64))).sz)) (v := (.string ⟨List.toArray x7333.1⟩)) (d := (some 82)) (k := 14) K rfl K K (elem_cell (e := (ePair eStr (ePair eStr (eInt .i64)))) (rdt_cells (RdT.sp hr11 hs7525) hA7530 hp7334 hq7335) hx7336 (j := 0) rfl) ?_
                exact ⟨rfl, _, updO_known hkn, rfl⟩
              ·exact Owe.run K [(5, (pt g6885 0)), (75, (.bool true))] ⟨gS K K, gB 7 K (decide (v6027 > 0)) K hb7332, trivial⟩ (pt g6885 0) (fun _ _ => K) rfl
              ·refine Owe.light K [1] K (all_cons ?_ all_nil)
               ·rintro ρ' w' hs hah ⟨⟨q7532, -⟩, hs7531⟩
                have e83 := hah 15 83 K
                have e75 := hah 7 75 K
                have hkn : Known ρ' [(83, (pt g6885 0)), (75, (.bool true))] := ⟨e83, (Eq.trans e75 (congrArg Value.bool hb7332)), trivial⟩
                refine Step.known _ hkn ?_
                refine Step.load (t := 9) (x := (.tmp 83)) (g := g6885) (off := 0) (i := 1) (v := (.string ⟨List.toArray x6876.1⟩)) (d := (some 84)) (k := 16) K rfl K hs7531 rfl K ?_
                exact ⟨rfl, _, updO_known hkn, rfl⟩
              ·refine Owe.light K [1] K (all_cons ?_ all_nil)
               ·rintro ρ' w' hs hah ⟨⟨q7535, -⟩, hs7534⟩
                have e82 := hah 14 82 K
                have e84 := hah 16 84 K
                have e75 := hah 7 75 K
                have hkn : Known ρ' [(82, (.string ⟨List.toArray x7333.1⟩)), (84, (.string ⟨List.toArray x6876.1⟩)), (75, (.bool true))] := ⟨e82, e84, (Eq.trans e75 (congrArg Value.bool hb7332)), trivial⟩
                refine Step.known _ hkn ?_
                refine Step.strOp (op := .geq) (T := 9) (T' := 9) (x := (.tmp 82)) (y := (.tmp 84)) (a := x7333.1) (b := x6876.1) (r := (.bool (!(Op.bytesLess x7333.1 x6876.1)))) (d := (some 85)) (k := 17) K rfl K K rfl ?_
                exact ⟨rfl, _, updO_known hkn, rfl⟩
              ·exact Owe.run K [(75, (.bool true)), (85, (.bool (!(Op.bytesLess x7333.1 x6876.1)))), (72, (.bool false))] ⟨gB 7 K (decide (v6027 > 0)) K hb7332, gA 17 K K, gB 4 K (!z7309) K hb7315, trivial⟩ (.bool (!(Op.bytesLess x7333.1 x6876.1))) (fun _ _ => K) rfl
              ·exact Owe.run K [(72, (.bool false)), (86, (.bool (!(Op.bytesLess x7333.1 x6876.1))))] ⟨gB 4 K (!z7309) K hb7315, gA 18 K K, trivial⟩ (.bool (!(Op.bytesLess x7333.1 x6876.1))) (fun _ _ => K) rfl
              ·exact Owe.run K [(87, (.bool (!(Op.bytesLess x7333.1 x6876.1))))] ⟨gA 19 K K, trivial⟩ (.bool (!(Op.bytesLess x7333.1 x6876.1))) (fun _ _ => K) rfl
              ·exact Owe.run K [(5, (pt g6885 0)), (88, (.bool false))] ⟨gS K K, gB 20 K (!(Op.bytesLess x7333.1 x6876.1)) K hb7342, trivial⟩ (pt g6885 1) (fun _ _ => K) rfl
              ·refine Owe.light K [1] K (all_cons ?_ all_nil)
               ·rintro ρ' w' hs hah ⟨⟨q7538, -⟩, hs7537⟩
                have e89 := hah 21 89 K
                have e88 := hah 20 88 K
                have hkn : Known ρ' [(89, (pt g6885 1)), (88, (.bool false))] := ⟨e89, (Eq.trans e88 (congrArg Value.bool hb7342)), trivial⟩
                refine Step.known _ hkn ?_
                refine Step.load (t := 9) (x := (.tmp 89)) (g := g6885) (off := 1) (i := 1) (v := (.string ⟨List.toArray x6876.2.1⟩)) (d := (some 90)) (k := 22) K rfl K hs7537 rfl K ?_
                exact ⟨rfl, _, updO_known hkn, rfl⟩
              ·refine Owe.light K [1] K (all_cons ?_ all_nil)
               ·rintro ρ' w' hs hah ⟨⟨q7541, -⟩, hs7540⟩
                have e90 := hah 22 90 K
                have e88 := hah 20 88 K
                have hkn : Known ρ' [(90, (.string ⟨List.toArray x6876.2.1⟩)), (88, (.bool false))] := ⟨e90, (Eq.trans e88 (congrArg Value.bool hb7342)), trivial⟩
                refine Step.known _ hkn ?_
                refine Step.strOp (op := .eql) (T := 9) (T' := 9) (x := (.tmp 90)) (y := (.const (.string ⟨List.toArray ([] : List UInt8)⟩))) (a := x6876.2.1) (b := ([] : List UInt8)) (r := (.bool (x6876.2.1 == ([] : List UInt8)))) (d := (some 91)) (k := 23) K rfl K K rfl ?_
                exact ⟨rfl, _, updO_known hkn, rfl⟩
              ·exact Owe.run K [(88, (.bool false)), (91, (.bool (x6876.2.1 == ([] : List UInt8))))] ⟨gB 20 K (!(Op.bytesLess x7333.1 x6876.1)) K hb7342, gA 23 K K, trivial⟩ (.bool (x6876.2.1 == ([] : List UInt8))) (fun _ _ => K) rfl
              ·exact Owe.run K [(92, (.bool (x6876.2.1 == ([] : List UInt8))))] ⟨gA 24 K K, trivial⟩ (.bool (x6876.2.1 == ([] : List UInt8))) (fun _ _ => K) rfl
              ·exact Owe.run K [(5, (pt g6885 0)), (93, (.bool false))] ⟨gS K K, gB 25 K (x6876.2.1 == ([] : List UInt8)) K hb7388, trivial⟩ (pt g6885 1) (fun _ _ => K) rfl
              ·refine Owe.light K [1] K (all_cons ?_ all_nil)
               ·rintro ρ' w' hs hah ⟨⟨q7544, -⟩, hs7543⟩
                have e94 := hah 26 94 K
                have e93 := hah 25 93 K
                have hkn : Known ρ' [(94, (pt g6885 1)), (93, (.bool false))] := ⟨e94, (Eq.trans e93 (congrArg Value.bool hb7388)), trivial⟩
                refine Step.known _ hkn ?_
                refine Step.load (t := 9) (x := (.tmp 94)) (g := g6885) (off := 1) (i := 1) (v := (.string ⟨List.toArray x6876.2.1⟩)) (d := (some 95)) (k := 27) K rfl K hs7543 rfl K ?_
                exact ⟨rfl, _, updO_known hkn, rfl⟩
              ·exact Owe.run K [(95, (.string ⟨List.toArray x6876.2.1⟩)), (93, (.bool false))] ⟨gA 27 K K, gB 25 K (x6876.2.1 == ([] : List UInt8)) K hb7388, trivial⟩ (.int .i64 ((List.length x6876.2.1 : Nat) : Int)) (fun _ _ => K) rfl
              ·exact Owe.run K [(96, (.int .i64 ((List.length x6876.2.1 : Nat) : Int))), (93, (.bool false))] ⟨gA 28 K K, gB 25 K (x6876.2.1 == ([] : List UInt8)) K hb7388, trivial⟩ (.bool (decide (((List.length x6876.2.1 : Nat) : Int) > 32))) (fun _ _ => K) rfl
              ·exact Owe.run K [(93, (.bool false)), (97, (.bool (decide (((List.length x6876.2.1 : Nat) : Int) > 32))))] ⟨gB 25 K (x6876.2.1 == ([] : List UInt8)) K hb7388, gA 29 K K, trivial⟩ (.bool (decide (((List.length x6876.2.1 : Nat) : Int) > 32))) (fun _ _ => K) rfl
              ·exact Owe.run K [(98, (.bool (decide (((List.length x6876.2.1 : Nat) : Int) > 32))))] ⟨gA 30 K K, trivial⟩ (.bool (decide (((List.length x6876.2.1 : Nat) : Int) > 32))) (fun _ _ => K) rfl
              ·exact Owe.run K [(5, (pt g6885 0)), (99, (.bool false))] ⟨gS K K, gB 31 K (decide (((List.length x6876.2.1 : Nat) : Int) > 32)) K hb7440, trivial⟩ (pt g6885 2) (fun _ _ => K) rfl
              ·refine Owe.light K [1] K (all_cons ?_ all_nil)
               ·rintro ρ' w' hs hah ⟨⟨q7547, -⟩, hs7546⟩
                have e100 := hah 32 100 K
                have e99 := hah 31 99 K
                have hkn : Known ρ' [(100, (pt g6885 2)), (99, (.bool false))] := ⟨e100, (Eq.trans e99 (congrArg Value.bool hb7440)), trivial⟩
                refine Step.known _ hkn ?_
                refine Step.load (t := 2) (x := (.tmp 100)) (g := g6885) (off := 2) (i := 1) (v := (.int .i64 x6876.2.2)) (d := (some 101)) (k := 33) K rfl K hs7546 rfl K ?_
                exact ⟨rfl, _, updO_known hkn, rfl⟩
              ·exact Owe.run K [(101, (.int .i64 x6876.2.2)), (99, (.bool false))] ⟨gA 33 K K, gB 31 K (decide (((List.length x6876.2.1 : Nat) : Int) > 32)) K hb7440, trivial⟩ (.bool (decide (x6876.2.2 < 0))) (fun _ _ => K) rfl
              ·exact Owe.run K [(99, (.bool false)), (102, (.bool (decide (x6876.2.2 < 0))))] ⟨gB 31 K (decide (((List.length x6876.2.1 : Nat) : Int) > 32)) K hb7440, gA 34 K K, trivial⟩ (.bool (decide (x6876.2.2 < 0))) (fun _ _ => K) rfl
              ·exact Owe.run K [(103, (.bool (decide (x6876.2.2 < 0))))] ⟨gA 35 K K, trivial⟩ (.bool (decide (x6876.2.2 < 0))) (fun _ _ => K) rfl
              ·exact Owe.skip K [(104, (.bool true))] ⟨gB 36 K (decide (x6876.2.2 < 0)) K hb7495, trivial⟩ (some 105) (fun _ => K) K rfl
              ·exact Owe.skip K [(104, (.bool true))] ⟨gB 36 K (decide (x6876.2.2 < 0)) K hb7495, trivial⟩ (some 106) (fun _ => K) K rfl
              ·exact Owe.skip K [(104, (.bool true))] ⟨gB 36 K (decide (x6876.2.2 < 0)) K hb7495, trivial⟩ (some 107) (fun _ => K) K rfl
              ·exact Owe.run K [(104, (.bool true)), (107, undef)] ⟨gB 36 K (decide (x6876.2.2 < 0)) K hb7495, gA 39 K K, trivial⟩ (.bool true) (fun _ _ => K) rfl
              ·rintro ρ' w' hs hf ⟨⟨q7550, -⟩, hs7549⟩
               refine postKnown [(1, (pt g12 0)), (4, (.int .i64 v6027)), (108, (.bool true))] ⟨(hs 1 K).trans K, (hs 4 K).trans K, hf 40 108 K, trivial⟩ ?_
               obtain ⟨w7552, hww7552⟩ : ∃ x, w' = x := ⟨_, rfl⟩
               rw [hww7552] at hs7549 ⊢
               exact ⟨true, ⟨K, K, K, trivial⟩, SP.sel hs7549 [0] rfl rfl, H⟩
             ·have H := cf H hb7495
              refine At.stages K K K K K [GEq (pt g6885 0), GEq (.string ⟨List.toArray x6876.1⟩), GEq (.bool z7309), GEq (.bool (!z7309)), GEq (.bool (!z7309)), GEq (.int .i64 v6027), GEq (.bool (decide (v6027 > 0))), GEq (.bool (decide (v6027 > 0))), GEq (pt g12 4), GEq (.slice A9 (List.length pTokens8) c10), GEq (.int .i64 v6027), GEq (.int .i64 (IntKind.wrap .i64 (v6027 - 1))), GElem0 A9 (ePair eStr (ePair eStr (eInt .i64))).sz (IntKind.wrap .i64 (v6027 - 1)), GElem0 A9 (ePair eStr (ePair eStr (eInt .i64))).sz (IntKind.wrap .i64 (v6027 - 1)), GEq (.string ⟨List.toArray x7333.1⟩), GEq (pt g6885 0), GEq (.string ⟨List.toArray x6876.1⟩), GEq (.bool (!(Op.bytesLess x7333.1 x6876.1))), GEq (.bool (!(Op.bytesLess x7333.1 x6876.1))), GEq (.bool (!(Op.bytesLess x7333.1 x6876.1))), GEq (.bool (!(Op.bytesLess x7333.1 x6876.1))), GEq (pt g6885 1), GEq (.string ⟨List.toArray x6876.2.1⟩), GEq (.bool (x6876.2.1 == ([] : List UInt8))), GEq (.bool (x6876.2.1 == ([] : List UInt8))), GEq (.bool (x6876.2.1 == ([] : List UInt8))), GEq (pt g6885 1), GEq (.string ⟨List.toArray x6876.2.1⟩), GEq (.int .i64 ((List.length x6876.2.1 : Nat) : Int)), GEq (.bool (decide (((List.length x6876.2.1 : Nat) : Int) > 32))), GEq (.bool (decide (((List.length x6876.2.1 : Nat) : Int) > 32))), GEq (.bool (decide (((List.length x6876.2.1 : Nat) : Int) > 32))), GEq (pt g6885 2), GEq (.int .i64 x6876.2.2), GEq (.bool (decide (x6876.2.2 < 0))), GEq (.bool (decide (x6876.2.2 < 0))), GEq (.bool (decide (x6876.2.2 < 0))), GEq (pt g6885 2), GEq (.int .i64 x6876.2.2), GEq (.bool (decide (x6876.2.2 > 1099511627776))), GEq (.bool (decide (x6876.2.2 > 1099511627776)))] [2] [([], fun vs w => VL vs [] ∧ SP [] w0 w [boxE g12 45 #[(.string ⟨List.toArray pName1⟩), (.int .i64 pNames2), (.int .i64 pVisitors3), (.slice A5 (List.length pNets4) c6), (.slice A9 (List.length pTokens8) c10)], boxE g6885 56 #[(.string ⟨List.toArray x6876.1⟩), (.string ⟨List.toArray x6876.2.1⟩), (.int .i64 x6876.2.2)]]), ([2], fun vs w => VL vs [(.bool z7309)] ∧ SP [] w0 w [boxE g12 45 #[(.string ⟨List.toArray pName1⟩), (.int .i64 pNames2), (.int .i64 pVisitors3), (.slice A5 (List.length pNets4) c6), (.slice A9 (List.length pTokens8) c10)], boxE g6885 56 #[(.string ⟨List.toArray x6876.1⟩), (.string ⟨List.toArray x6876.2.1⟩), (.int .i64 x6876.2.2)]])] (N := 41) K ⟨K, Nat.zero_lt_succ _⟩ (show VL [] [] ∧ SP [] w0 w6889.drew [boxE g12 45 #[(.string ⟨List.toArray pName1⟩), (.int .i64 pNames2), (.int .i64 pVisitors3), (.slice A5 (List.length pNets4) c6), (.slice A9 (List.length pTokens8) c10)], boxE g6885 56 #[(.string ⟨List.toArray x6876.1⟩), (.string ⟨List.toArray x6876.2.1⟩), (.int .i64 x6876.2.2)]] from ⟨trivial, SP.drew hs6891⟩) ⟨⟨⟨⟨⟨⟨⟨⟨⟨⟨⟨⟨⟨⟨⟨⟨⟨⟨⟨⟨⟨⟨⟨⟨⟨⟨⟨⟨⟨⟨⟨⟨⟨⟨⟨⟨⟨⟨⟨⟨⟨trivial, ?_⟩, ?_⟩, ?_⟩, ?_⟩, ?_⟩, ?_⟩, ?_⟩, ?_⟩, ?_⟩, ?_⟩, ?_⟩, ?_⟩, ?_⟩, ?_⟩, ?_⟩, ?_⟩, ?_⟩, ?_⟩, ?_⟩, ?_⟩, ?_⟩, ?_⟩, ?_⟩, ?_⟩, ?_⟩, ?_⟩, ?_⟩, ?_⟩, ?_⟩, ?_⟩, ?_⟩, ?_⟩, ?_⟩, ?_⟩, ?_⟩, ?_⟩, ?_⟩, ?_⟩, ?_⟩, ?_⟩, ?_⟩ (last := 1) K ?_
              ·exact Owe.run K [(5, (pt g6885 0))] ⟨gS K K, trivial⟩ (pt g6885 0) (fun _ _ => K) rfl
              ·refine Owe.light K [0] K (all_cons ?_ all_nil)
               ·rintro ρ' w' hs hah ⟨hvl7558, hs7557⟩
                have hkn : Known ρ' [(68, (pt g6885 0))] := ⟨hah 0 68 K, trivial⟩
                refine Step.known _ hkn ?_
                refine Step.load (t := 9) (x := (.tmp 68)) (g := g6885) (off := 0) (i := 1) (v := (.string ⟨List.toArray x6876.1⟩)) (d := (some 69)) (k := 1) K rfl K hs7557 rfl K ?_
                exact ⟨rfl, _, updO_known hkn, rfl⟩
              ·refine Owe.heavy K [(0, 1)] K (all_cons ⟨K, K, ?_⟩ all_nil)
               ·rintro ρ' w' hs hah ⟨hvl7560, hs7559⟩
                have hkn : Known ρ' [(69, (.string ⟨List.toArray x6876.1⟩))] := ⟨hah 1 69 K, trivial⟩
                refine Step.known _ hkn ?_
                refine Step.callF (f := 54) (fo := (.func 54)) (xs := #[(.tmp 69)]) (tys := #[9]) (first := #[]) (captured := #[]) (d := (some 70)) (k := 2) K rfl K K Tryd.call54 (L_subwayref04_Name_walk  x6876.1 w'  z7309 hz7310) ?_
                rintro e w7561 ⟨rfl, hs7562⟩
                refine ⟨_, rfl, ?_⟩
                have hs7564 : SP [] w0 w7561 [boxE g12 45 #[(.string ⟨List.toArray pName1⟩), (.int .i64 pNames2), (.int .i64 pVisitors3), (.slice A5 (List.length pNets4) c6), (.slice A9 (List.length pTokens8) c10)], boxE g6885 56 #[(.string ⟨List.toArray x6876.1⟩), (.string ⟨List.toArray x6876.2.1⟩), (.int .i64 x6876.2.2)]] := SP.call hs7559 hs7562
                clear hs7562
                refine ⟨_, updO_known hkn, rfl, ?_⟩
                exact (And.intro (And.intro rfl (trivial)) (hs7564))
              ·exact Owe.run K [(70, (.bool z7309))] ⟨gA 2 K K, trivial⟩ (.bool (!z7309)) (fun _ _ => K) rfl
              ·exact Owe.run K [(71, (.bool (!z7309)))] ⟨gA 3 K K, trivial⟩ (.bool (!z7309)) (fun _ _ => K) rfl
              ·exact Owe.run K [(4, (.int .i64 v6027)), (72, (.bool false))] ⟨gS K K, gB 4 K (!z7309) K hb7315, trivial⟩ (.int .i64 v6027) (fun _ _ => K) rfl
              ·exact Owe.run K [(73, (.int .i64 v6027)), (72, (.bool false))] ⟨gA 5 K K, gB 4 K (!z7309) K hb7315, trivial⟩ (.bool (decide (v6027 > 0))) (fun _ _ => K) rfl
              ·exact Owe.run K [(74, (.bool (decide (v6027 > 0)))), (72, (.bool false))] ⟨gA 6 K K, gB 4 K (!z7309) K hb7315, trivial⟩ (.bool (decide (v6027 > 0))) (fun _ _ => K) rfl
              ·exact Owe.run K [(1, (pt g12 0)), (75, (.bool true))] ⟨gS K K, gB 7 K (decide (v6027 > 0)) K hb7332, trivial⟩ (pt g12 4) (fun _ _ => K) rfl
              ·refine Owe.light K [1] K (all_cons ?_ all_nil)
               ·rintro ρ' w' hs hah ⟨⟨q7566, -⟩, hs7565⟩
                have e76 := hah 8 76 K
                have e75 := hah 7 75 K
                have hkn : Known ρ' [(76, (pt g12 4)), (75, (.bool true))] := ⟨e76, (Eq.trans e75 (congrArg Value.bool hb7332)), trivial⟩
                refine Step.known _ hkn ?_
                refine Step.load (t := 43) (x := (.tmp 76)) (g := g12) (off := 4) (i := 0) (v := (.slice A9 (List.length pTokens8) c10)) (d := (some 77)) (k := 9) K rfl K hs7565 rfl K ?_
                exact ⟨rfl, _, updO_known hkn, rfl⟩
              ·exact Owe.run K [(4, (.int .i64 v6027)), (75, (.bool true))] ⟨gS K K, gB 7 K (decide (v6027 > 0)) K hb7332, trivial⟩ (.int .i64 v6027) (fun _ _ => K) rfl
              ·exact Owe.run K [(78, (.int .i64 v6027)), (75, (.bool true))] ⟨gA 10 K K, gB 7 K (decide (v6027 > 0)) K hb7332, trivial⟩ (.int .i64 (IntKind.wrap .i64 (v6027 - 1))) (fun _ _ => K) rfl
              ·refine Owe.light K [1] K (all_cons ?_ all_nil)
               ·rintro ρ' w' hs hah ⟨⟨q7569, -⟩, hs7568⟩
                have e77 := hah 9 77 K
                have e79 := hah 11 79 K
                have e75 := hah 7 75 K
                have hkn : Known ρ' [(77, (.slice A9 (List.length pTokens8) c10)), (79, (.int .i64 (IntKind.wrap .i64 (v6027 - 1)))), (75, (.bool true))] := ⟨e77, e79, (Eq.trans e75 (congrArg Value.bool hb7332)), trivial⟩
                refine Step.known _ hkn ?_
                refine Step.elem (e := (ePair eStr (ePair eStr (eInt .i64)))) (l := pTokens8) (A := A9) (c := c10) (T := 43) (E := 56) (x := (.tmp 77)) (ix := (.tmp 79)) (ki := .i64) (iz := (IntKind.wrap .i64 (v6027 - 1))) (d := (some 80)) (k := 12) K rfl K K K K (RdT.sp hr11 hs7568) hp7334 hq7335 ?_
                intro b7571 o7572 hA7574 hb7575 hc7573
                exact ⟨rfl, _, updO_known hkn, ⟨b7571, o7572, hA7574, rfl⟩⟩
              ·refine Owe.light K [1] K (all_cons ?_ all_nil)
               ·rintro ρ' w' hs hah ⟨⟨q7577, -⟩, hs7576⟩
                obtain ⟨b7579, o7580, hA7581, e80⟩ := hah 12 80 K
                have e75 := hah 7 75 K
                have hkn : Known ρ' [(80, (.pointer (some ⟨b7579, (o7580 + Int.toNat (IntKind.wrap .i64 (v6027 - 1)) * (ePair eStr (ePair eStr (eInt .i64))).sz), none⟩))), (75, (.bool true))] := ⟨e80, (Eq.trans e75 (congrArg Value.bool hb7332)), trivial⟩
                refine Step.known _ hkn ?_
                refine Step.run (k := 13) (v := (.pointer (some ⟨b7579, (o7580 + Int.toNat (IntKind.wrap .i64 (v6027 - 1)) * (ePair eStr (ePair eStr (eInt .i64))).sz), none⟩))) K ?_
                exact ⟨rfl, _, updO_known hkn, ⟨b7579, o7580, hA7581, rfl⟩⟩
              ·refine Owe.light K [1] K (all_cons ?_ all_nil)
               ·rintro ρ' w' hs hah ⟨⟨q7583, -⟩, hs7582⟩
                obtain ⟨b7585, o7586, hA7587, e81⟩ := hah 13 81 K
                have e75 := hah 7 75 K
                have hkn : Known ρ' [(81, (.pointer (some ⟨b7585, (o7586 + Int.toNat (IntKind.wrap .i64 (v6027 - 1)) * (ePair eStr (ePair eStr (eInt .i64))).sz), none⟩))), (75, (.bool true))] := ⟨e81, (Eq.trans e75 (congrArg Value.bool hb7332)), trivial⟩
                refine Step.known _ hkn ?_
                refine Step.cell (t := 9) (x := (.tmp 81)) (b := b7585) (off := (o7586 + Int.toNat (IntKind.wrap .i64 (v6027 - 1)) * (ePair eStr (ePair eStr (eInt .i64))).sz)) (v := (.string ⟨List.toArray x7333.1⟩)) (d := (some 82)) (k := 14) K rfl K K (elem_cell (e := (ePair eStr (ePair eStr (eInt .i64)))) (rdt_cells (RdT.sp hr11 hs7582) hA7587 hp7334 hq7335) hx7336 (j := 0) rfl) ?_
                exact ⟨rfl, _, updO_known hkn, rfl⟩
              ·exact Owe.run K [(5, (pt g6885 0)), (75, (.bool true))] ⟨gS K K, gB 7 K (decide (v6027 > 0)) K hb7332, trivial⟩ (pt g6885 0) (fun _ _ => K) rfl
              ·refine Owe.light K [1] K (all_cons ?_ all_nil)
               ·rintro ρ' w' hs hah ⟨⟨q7589, -⟩, hs7588⟩
                have e83 := hah 15 83 K
                have e75 := hah 7 75 K
                have hkn : Known ρ' [(83, (pt g6885 0)), (75, (.bool true))] := ⟨e83, (Eq.trans e75 (congrArg Value.bool hb7332)), trivial⟩
                refine Step.known _ hkn ?_
                refine Step.load (t := 9) (x := (.tmp 83)) (g := g6885) (off := 0) (i := 1) (v := (.string ⟨List.toArray x6876.1⟩)) (d := (some 84)) (k := 16) K rfl K hs7588 rfl K ?_
                exact ⟨rfl, _, updO_known hkn, rfl⟩
              ·refine Owe.light K [1] K (all_cons ?_ all_nil)
               ·rintro ρ' w' hs hah ⟨⟨q7592, -⟩, hs7591⟩
                have e82 := hah 14 82 K
                have e84 := hah 16 84 K
                have e75 := hah 7 75 K
                have hkn : Known ρ' [(82, (.string ⟨List.toArray x7333.1⟩)), (84, (.string ⟨List.toArray x6876.1⟩)), (75, (.bool true))] := ⟨e82, e84, (Eq.trans e75 (congrArg Value.bool hb7332)), trivial⟩
                refine Step.known _ hkn ?_
                refine Step.strOp (op := .geq) (T := 9) (T' := 9) (x := (.tmp 82)) (y := (.tmp 84)) (a := x7333.1) (b := x6876.1) (r := (.bool (!(Op.bytesLess x7333.1 x6876.1)))) (d := (some 85)) (k := 17) K rfl K K rfl ?_
                exact ⟨rfl, _, updO_known hkn, rfl⟩
              ·exact Owe.run K [(75, (.bool true)), (85, (.bool (!(Op.bytesLess x7333.1 x6876.1)))), (72, (.bool false))] ⟨gB 7 K (decide (v6027 > 0)) K hb7332, gA 17 K K, gB 4 K (!z7309) K hb7315, trivial⟩ (.bool (!(Op.bytesLess x7333.1 x6876.1))) (fun _ _ => K) rfl
              ·exact Owe.run K [(72, (.bool false)), (86, (.bool (!(Op.bytesLess x7333.1 x6876.1))))] ⟨gB 4 K (!z7309) K hb7315, gA 18 K K, trivial⟩ (.bool (!(Op.bytesLess x7333.1 x6876.1))) (fun _ _ => K) rfl
              ·exact Owe.run K [(87, (.bool (!(Op.bytesLess x7333.1 x6876.1))))] ⟨gA 19 K K, trivial⟩ (.bool (!(Op.bytesLess x7333.1 x6876.1))) (fun _ _ => K) rfl
              ·exact Owe.run K [(5, (pt g6885 0)), (88, (.bool false))] ⟨gS K K, gB 20 K (!(Op.bytesLess x7333.1 x6876.1)) K hb7342, trivial⟩ (pt g6885 1) (fun _ _ => K) rfl
              ·refine Owe.light K [1] K (all_cons ?_ all_nil)
               ·rintro ρ' w' hs hah ⟨⟨q7595, -⟩, hs7594⟩
                have e89 := hah 21 89 K
                have e88 := hah 20 88 K
                have hkn : Known ρ' [(89, (pt g6885 1)), (88, (.bool false))] := ⟨e89, (Eq.trans e88 (congrArg Value.bool hb7342)), trivial⟩
                refine Step.known _ hkn ?_
                refine Step.load (t := 9) (x := (.tmp 89)) (g := g6885) (off := 1) (i := 1) (v := (.string ⟨List.toArray x6876.2.1⟩)) (d := (some 90)) (k := 22) K rfl K hs7594 rfl K ?_
                exact ⟨rfl, _, updO_known hkn, rfl⟩
              ·refine Owe.light K [1] K (all_cons ?_ all_nil)
               ·rintro ρ' w' hs hah ⟨⟨q7598, -⟩, hs7597⟩
                have e90 := hah 22 90 K
                have e88 := hah 20 88 K
                have hkn : Known ρ' [(90, (.string ⟨List.toArray x6876.2.1⟩)), (88, (.bool false))] := ⟨e90, (Eq.trans e88 (congrArg Value.bool hb7342)), trivial⟩
                refine Step.known _ hkn ?_
                refine Step.strOp (op := .eql) (T := 9) (T' := 9) (x := (.tmp 90)) (y := (.const (.string ⟨List.toArray ([] : List UInt8)⟩))) (a := x6876.2.1) (b := ([] : List UInt8)) (r := (.bool (x6876.2.1 == ([] : List UInt8)))) (d := (some 91)) (k := 23) K rfl K K rfl ?_
                exact ⟨rfl, _, updO_known hkn, rfl⟩
              ·exact Owe.run K [(88, (.bool false)), (91, (.bool (x6876.2.1 == ([] : List UInt8))))] ⟨gB 20 K (!(Op.bytesLess x7333.1 x6876.1)) K hb7342, gA 23 K K, trivial⟩ (.bool (x6876.2.1 == ([] : List UInt8))) (fun _ _ => K) rfl
              ·exact Owe.run K [(92, (.bool (x6876.2.1 == ([] : List UInt8))))] ⟨gA 24 K K, trivial⟩ (.bool (x6876.2.1 == ([] : List UInt8))) (fun _ _ => K) rfl
              ·exact Owe.run K [(5, (pt g6885 0)), (93, (.bool false))] ⟨gS K K, gB 25 K (x6876.2.1 == ([] : List UInt8)) K hb7388, trivial⟩ (pt g6885 1) (fun _ _ => K) rfl
              ·refine Owe.light K [1] K (all_cons ?_ all_nil)
               ·rintro ρ' w' hs hah ⟨⟨q7601, -⟩, hs7600⟩
                have e94 := hah 26 94 K
                have e93 := hah 25 93 K
                have hkn : Known ρ' [(94, (pt g6885 1)), (93, (.bool false))] := ⟨e94, (Eq.trans e93 (congrArg Value.bool hb7388)), trivial⟩
                refine Step.known _ hkn ?_
                refine Step.load (t := 9) (x := (.tmp 94)) (g := g6885) (off := 1) (i := 1) (v := (.string ⟨List.toArray x6876.2.1⟩)) (d := (some 95)) (k := 27) K rfl K hs7600 rfl K ?_
                exact ⟨rfl, _, updO_known hkn, rfl⟩
              ·exact Owe.run K [(95, (.string ⟨List.toArray x6876.2.1⟩)), (93, (.bool false))] ⟨gA 27 K K, gB 25 K (x6876.2.1 == ([] : List UInt8)) K hb7388, trivial⟩ (.int .i64 ((List.length x6876.2.1 : Nat) : Int)) (fun _ _ => K) rfl
              ·exact Owe.run K [(96, (.int .i64 ((List.length x6876.2.1 : Nat) : Int))), (93, (.bool false))] ⟨gA 28 K K, gB 25 K (x6876.2.1 == ([] : List UInt8)) K hb7388, trivial⟩ (.bool (decide (((List.length x6876.2.1 : Nat) : Int) > 32))) (fun _ _ => K) rfl
              ·exact Owe.run K [(93, (.bool false)), (97, (.bool (decide (((List.length x6876.2.1 : Nat) : Int) > 32))))] ⟨gB 25 K (x6876.2.1 == ([] : List UInt8)) K hb7388, gA 29 K K, trivial⟩ (.bool (decide (((List.length x6876.2.1 : Nat) : Int) > 32))) (fun _ _ => K) rfl
              ·exact Owe.run K [(98, (.bool (decide (((List.length x6876.2.1 : Nat) : Int) > 32))))] ⟨gA 30 K K, trivial⟩ (.bool (decide (((List.length x6876.2.1 : Nat) : Int) > 32))) (fun _ _ => K) rfl
              ·exact Owe.run K [(5, (pt g6885 0)), (99, (.bool false))] ⟨gS K K, gB 31 K (decide (((List.length x6876.2.1 : Nat) : Int) > 32)) K hb7440, trivial⟩ (pt g6885 2) (fun _ _ => K) rfl
              ·refine Owe.light K [1] K (all_cons ?_ all_nil)
               ·rintro ρ' w' hs hah ⟨⟨q7604, -⟩, hs7603⟩
                have e100 := hah 32 100 K
                have e99 := hah 31 99 K
                have hkn : Known ρ' [(100, (pt g6885 2)), (99, (.bool false))] := ⟨e100, (Eq.trans e99 (congrArg Value.bool hb7440)), trivial⟩
                refine Step.known _ hkn ?_
                refine Step.load (t := 2) (x := (.tmp 100)) (g := g6885) (off := 2) (i := 1) (v := (.int .i64 x6876.2.2)) (d := (some 101)) (k := 33) K rfl K hs7603 rfl K ?_
                exact ⟨rfl, _, updO_known hkn, rfl⟩
              ·exact Owe.run K [(101, (.int .i64 x6876.2.2)), (99, (.bool false))] ⟨gA 33 K K, gB 31 K (decide (((List.length x6876.2.1 : Nat) : Int) > 32)) K hb7440, trivial⟩ (.bool (decide (x6876.2.2 < 0))) (fun _ _ => K) rfl
              ·exact Owe.run K [(99, (.bool false)), (102, (.bool (decide (x6876.2.2 < 0))))] ⟨gB 31 K (decide (((List.length x6876.2.1 : Nat) : Int) > 32)) K hb7440, gA 34 K K, trivial⟩ (.bool (decide (x6876.2.2 < 0))) (fun _ _ => K) rfl
              ·exact Owe.run K [(103, (.bool (decide (x6876.2.2 < 0))))] ⟨gA 35 K K, trivial⟩ (.bool (decide (x6876.2.2 < 0))) (fun _ _ => K) rfl
              ·exact Owe.run K [(5, (pt g6885 0)), (104, (.bool false))] ⟨gS K K, gB 36 K (decide (x6876.2.2 < 0)) K hb7495, trivial⟩ (pt g6885 2) (fun _ _ => K) rfl
              ·refine Owe.light K [1] K (all_cons ?_ all_nil)
               ·rintro ρ' w' hs hah ⟨⟨q7607, -⟩, hs7606⟩
                have e105 := hah 37 105 K
                have e104 := hah 36 104 K
                have hkn : Known ρ' [(105, (pt g6885 2)), (104, (.bool false))] := ⟨e105, (Eq.trans e104 (congrArg Value.bool hb7495)), trivial⟩
                refine Step.known _ hkn ?_
                refine Step.load (t := 2) (x := (.tmp 105)) (g := g6885) (off := 2) (i := 1) (v := (.int .i64 x6876.2.2)) (d := (some 106)) (k := 38) K rfl K hs7606 rfl K ?_
                exact ⟨rfl, _, updO_known hkn, rfl⟩
              ·exact Owe.run K [(106, (.int .i64 x6876.2.2)), (104, (.bool false))] ⟨gA 38 K K, gB 36 K (decide (x6876.2.2 < 0)) K hb7495, trivial⟩ (.bool (decide (x6876.2.2 > 1099511627776))) (fun _ _ => K) rfl
              ·exact Owe.run K [(104, (.bool false)), (107, (.bool (decide (x6876.2.2 > 1099511627776))))] ⟨gB 36 K (decide (x6876.2.2 < 0)) K hb7495, gA 39 K K, trivial⟩ (.bool (decide (x6876.2.2 > 1099511627776))) (fun _ _ => K) rfl
              ·rintro ρ' w' hs hf ⟨⟨q7610, -⟩, hs7609⟩
               refine postKnown [(1, (pt g12 0)), (4, (.int .i64 v6027)), (108, (.bool (decide (x6876.2.2 > 1099511627776))))] ⟨(hs 1 K).trans K, (hs 4 K).trans K, hf 40 108 K, trivial⟩ ?_
               obtain ⟨w7612, hww7612⟩ : ∃ x, w' = x := ⟨_, rfl⟩
               rw [hww7612] at hs7609 ⊢
               exact ⟨(decide (x6876.2.2 > 1099511627776)), ⟨K, K, K, trivial⟩, SP.sel hs7609 [0] rfl rfl, H⟩
         ·have H := cf H hb7332
          rcases Bool.eq_false_or_eq_true (x6876.2.1 == ([] : List UInt8)) with hb7613 | hb7613
          ·have H := ct H hb7613
           refine At.stages K K K K K [GEq (pt g6885 0), GEq (.string ⟨List.toArray x6876.1⟩), GEq (.bool z7309), GEq (.bool (!z7309)), GEq (.bool (!z7309)), GEq (.int .i64 v6027), GEq (.bool (decide (v6027 > 0))), GEq (.bool (decide (v6027 > 0))), GEq undef, GEq undef, GEq undef, GEq undef, GEq undef, GEq undef, GEq undef, GEq undef, GEq undef, GEq undef, GEq (.bool false), GEq (.bool false), GEq (.bool false), GEq (pt g6885 1), GEq (.string ⟨List.toArray x6876.2.1⟩), GEq (.bool (x6876.2.1 == ([] : List UInt8))), GEq (.bool (x6876.2.1 == ([] : List UInt8))), GEq (.bool (x6876.2.1 == ([] : List UInt8))), GEq undef, GEq undef, GEq undef, GEq undef, GEq (.bool true), GEq (.bool true), GEq undef, GEq undef, GEq undef, GEq (.bool true), GEq (.bool true), GEq undef, GEq undef, GEq undef, GEq (.bool true)] [2] [([], fun vs w => VL vs [] ∧ SP [] w0 w [boxE g12 45 #[(.string ⟨List.toArray pName1⟩), (.int .i64 pNames2), (.int .i64 pVisitors3), (.slice A5 (List.length pNets4) c6), (.slice A9 (List.length pTokens8) c10)], boxE g6885 56 #[(.string ⟨List.toArray x6876.1⟩), (.string ⟨List.toArray x6876.2.1⟩), (.int .i64 x6876.2.2)]]), ([2], fun vs w => VL vs [(.bool z7309)] ∧ SP [] w0 w [boxE g12 45 #[(.string ⟨List.toArray pName1⟩), (.int .i64 pNames2), (.int .i64 pVisitors3), (.slice A5 (List.length pNets4) c6), (.slice A9 (List.length pTokens8) c10)], boxE g6885 56 #[(.string ⟨List.toArray x6876.1⟩), (.string ⟨List.toArray x6876.2.1⟩), (.int .i64 x6876.2.2)]])] (N := 41) K ⟨K, Nat.zero_lt_succ _⟩ (show VL [] [] ∧ SP [] w0 w6889.drew [boxE g12 45 #[(.string ⟨List.toArray pName1⟩), (.int .i64 pNames2), (.int .i64 pVisitors3), (.slice A5 (List.length pNets4) c6), (.slice A9 (List.length pTokens8) c10)], boxE g6885 56 #[(.string ⟨List.toArray x6876.1⟩), (.string ⟨List.toArray x6876.2.1⟩), (.int .i64 x6876.2.2)]] from ⟨trivial, SP.drew hs6891⟩) ⟨⟨⟨⟨⟨⟨⟨⟨⟨⟨⟨⟨⟨⟨⟨⟨⟨⟨⟨⟨⟨⟨⟨⟨⟨⟨⟨⟨⟨⟨⟨⟨⟨⟨⟨⟨⟨⟨⟨⟨⟨trivial, ?_⟩, ?_⟩, ?_⟩, ?_⟩, ?_⟩, ?_⟩, ?_⟩, ?_⟩, ?_⟩, ?_⟩, ?_⟩, ?_⟩, ?_⟩, ?_⟩, ?_⟩, ?_⟩, ?_⟩, ?_⟩, ?_⟩, ?_⟩, ?_⟩, ?_⟩, ?_⟩, ?_⟩, ?_⟩, ?_⟩, ?_⟩, ?_⟩, ?_⟩, ?_⟩, ?_⟩, ?_⟩, ?_⟩, ?_⟩, ?_⟩, ?_⟩, ?_⟩, ?_⟩, ?_⟩, ?_⟩, ?_⟩ (last := 1) K ?_
           ·exact Owe.run K [(5, (pt g6885 0))] ⟨gS K K, trivial⟩ (pt g6885 0) (fun _ _ => K) rfl
           ·refine Owe.light K [0] K (all_cons ?_ all_nil)
            ·rintro ρ' w' hs hah ⟨hvl7619, hs7618⟩
             have hkn : Known ρ' [(68, (pt g6885 0))] := ⟨hah 0 68 K, trivial⟩
             refine Step.known _ hkn ?_
             refine Step.load (t := 9) (x := (.tmp 68)) (g := g6885) (off := 0) (i := 1) (v := (.string ⟨List.toArray x6876.1⟩)) (d := (some 69)) (k := 1) K rfl K hs7618 rfl K ?_
             exact ⟨rfl, _, updO_known hkn, rfl⟩
           ·refine Owe.heavy K [(0, 1)] K (all_cons ⟨K, K, ?_⟩ all_nil)
            ·rintro ρ' w' hs hah ⟨hvl7621, hs7620⟩
             have hkn : Known ρ' [(69, (.string ⟨List.toArray x6876.1⟩))] := ⟨hah 1 69 K, trivial⟩
             refine Step.known _ hkn ?_
             refine Step.callF (f := 54) (fo := (.func 54)) (xs := #[(.tmp 69)]) (tys := #[9]) (first := #[]) (captured := #[]) (d := (some 70)) (k := 2) K rfl K K Tryd.call54 (L_subwayref04_Name_walk  x6876.1 w'  z7309 hz7310) ?_
             rintro e w7622 ⟨rfl, hs7623⟩
             refine ⟨_, rfl, ?_⟩
             have hs7625 : SP [] w0 w7622 [boxE g12 45 #[(.string ⟨List.toArray pName1⟩), (.int .i64 pNames2), (.int .i64 pVisitors3), (.slice A5 (List.length pNets4) c6), (.slice A9 (List.length pTokens8) c10)], boxE g6885 56 #[(.string ⟨List.toArray x6876.1⟩), (.string ⟨List.toArray x6876.2.1⟩), (.int .i64 x6876.2.2)]] := SP.call hs7620 hs7623
             clear hs7623
             refine ⟨_, updO_known hkn, rfl, ?_⟩
             exact (And.intro (And.intro rfl (trivial)) (hs7625))
           ·exact Owe.run K [(70, (.bool z7309))] ⟨gA 2 K K, trivial⟩ (.bool (!z7309)) (fun _ _ => K) rfl
           ·exact Owe.run K [(71, (.bool (!z7309)))] ⟨gA 3 K K, trivial⟩ (.bool (!z7309)) (fun _ _ => K) rfl
           ·exact Owe.run K [(4, (.int .i64 v6027)), (72, (.bool false))] ⟨gS K K, gB 4 K (!z7309) K hb7315, trivial⟩ (.int .i64 v6027) (fun _ _ => K) rfl
           ·exact Owe.run K [(73, (.int .i64 v6027)), (72, (.bool false))] ⟨gA 5 K K, gB 4 K (!z7309) K hb7315, trivial⟩ (.bool (decide (v6027 > 0))) (fun _ _ => K) rfl
           ·exact Owe.run K [(74, (.bool (decide (v6027 > 0)))), (72, (.bool false))] ⟨gA 6 K K, gB 4 K (!z7309) K hb7315, trivial⟩ (.bool (decide (v6027 > 0))) (fun _ _ => K) rfl
           ·exact Owe.skip K [(75, (.bool false))] ⟨gB 7 K (decide (v6027 > 0)) K hb7332, trivial⟩ (some 76) (fun _ => K) K rfl
           ·exact Owe.skip K [(75, (.bool false))] ⟨gB 7 K (decide (v6027 > 0)) K hb7332, trivial⟩ (some 77) (fun _ => K) K rfl
           ·exact Owe.skip K [(75, (.bool false))] ⟨gB 7 K (decide (v6027 > 0)) K hb7332, trivial⟩ (some 78) (fun _ => K) K rfl
           ·exact Owe.skip K [(75, (.bool false))] ⟨gB 7 K (decide (v6027 > 0)) K hb7332, trivial⟩ (some 79) (fun _ => K) K rfl
           ·exact Owe.skip K [(75, (.bool false))] ⟨gB 7 K (decide (v6027 > 0)) K hb7332, trivial⟩ (some 80) (fun _ => K) K rfl
           ·exact Owe.skip K [(75, (.bool false))] ⟨gB 7 K (decide (v6027 > 0)) K hb7332, trivial⟩ (some 81) (fun _ => K) K rfl
           ·exact Owe.skip K [(75, (.bool false))] ⟨gB 7 K (decide (v6027 > 0)) K hb7332, trivial⟩ (some 82) (fun _ => K) K rfl
           ·exact Owe.skip K [(75, (.bool false))] ⟨gB 7 K (decide (v6027 > 0)) K hb7332, trivial⟩ (some 83) (fun _ => K) K rfl
           ·exact Owe.skip K [(75, (.bool false))] ⟨gB 7 K (decide (v6027 > 0)) K hb7332, trivial⟩ (some 84) (fun _ => K) K rfl
           ·exact Owe.skip K [(75, (.bool false))] ⟨gB 7 K (decide (v6027 > 0)) K hb7332, trivial⟩ (some 85) (fun _ => K) K rfl
           ·exact Owe.run K [(75, (.bool false)), (85, undef), (72, (.bool false))] ⟨gB 7 K (decide (v6027 > 0)) K hb7332, gA 17 K K, gB 4 K (!z7309) K hb7315, trivial⟩ (.bool false) (fun _ _ => K) rfl
           ·exact Owe.run K [(72, (.bool false)), (86, (.bool false))] ⟨gB 4 K (!z7309) K hb7315, gA 18 K K, trivial⟩ (.bool false) (fun _ _ => K) rfl
           ·exact Owe.run K [(87, (.bool false))] ⟨gA 19 K K, trivial⟩ (.bool false) (fun _ _ => K) rfl
           ·exact Owe.run K [(5, (pt g6885 0)), (88, (.bool false))] ⟨gS K K, gA 20 K K, trivial⟩ (pt g6885 1) (fun _ _ => K) rfl
           ·refine Owe.light K [1] K (all_cons ?_ all_nil)
            ·rintro ρ' w' hs hah ⟨⟨q7627, -⟩, hs7626⟩
             have hkn : Known ρ' [(89, (pt g6885 1)), (88, (.bool false))] := ⟨hah 21 89 K, hah 20 88 K, trivial⟩
             refine Step.known _ hkn ?_
             refine Step.load (t := 9) (x := (.tmp 89)) (g := g6885) (off := 1) (i := 1) (v := (.string ⟨List.toArray x6876.2.1⟩)) (d := (some 90)) (k := 22) K rfl K hs7626 rfl K ?_
             exact ⟨rfl, _, updO_known hkn, rfl⟩
           ·refine Owe.light K [1] K (all_cons ?_ all_nil)
            ·rintro ρ' w' hs hah ⟨⟨q7630, -⟩, hs7629⟩
             have hkn : Known ρ' [(90, (.string ⟨List.toArray x6876.2.1⟩)), (88, (.bool false))] := ⟨hah 22 90 K, hah 20 88 K, trivial⟩
             refine Step.known _ hkn ?_
             refine Step.strOp (op := .eql) (T := 9) (T' := 9) (x := (.tmp 90)) (y := (.const (.string ⟨List.toArray ([] : List UInt8)⟩))) (a := x6876.2.1) (b := ([] : List UInt8)) (r := (.bool (x6876.2.1 == ([] : List UInt8)))) (d := (some 91)) (k := 23) K rfl K K rfl ?_
             exact ⟨rfl, _, updO_known hkn, rfl⟩
           ·exact Owe.run K [(88, (.bool false)), (91, (.bool (x6876.2.1 == ([] : List UInt8))))] ⟨gA 20 K K, gA 23 K K, trivial⟩ (.bool (x6876.2.1 == ([] : List UInt8))) (fun _ _ => K) rfl
           ·exact Owe.run K [(92, (.bool (x6876.2.1 == ([] : List UInt8))))] ⟨gA 24 K K, trivial⟩ (.bool (x6876.2.1 == ([] : List UInt8))) (fun _ _ => K) rfl
           ·exact Owe.skip K [(93, (.bool true))] ⟨gB 25 K (x6876.2.1 == ([] : List UInt8)) K hb7613, trivial⟩ (some 94) (fun _ => K) K rfl
           ·exact Owe.skip K [(93, (.bool true))] ⟨gB 25 K (x6876.2.1 == ([] : List UInt8)) K hb7613, trivial⟩ (some 95) (fun _ => K) K rfl
           ·exact Owe.skip K [(93, (.bool true))] ⟨gB 25 K (x6876.2.1 == ([] : List UInt8)) K hb7613, trivial⟩ (some 96) (fun _ => K) K rfl
           ·exact Owe.skip K [(93, (.bool true))] ⟨gB 25 K (x6876.2.1 == ([] : List UInt8)) K hb7613, trivial⟩ (some 97) (fun _ => K) K rfl
           ·exact Owe.run K [(93, (.bool true)), (97, undef)] ⟨gB 25 K (x6876.2.1 == ([] : List UInt8)) K hb7613, gA 29 K K, trivial⟩ (.bool true) (fun _ _ => K) rfl
           ·exact Owe.run K [(98, (.bool true))] ⟨gA 30 K K, trivial⟩ (.bool true) (fun _ _ => K) rfl
           ·exact Owe.skip K [(99, (.bool true))] ⟨gA 31 K K, trivial⟩ (some 100) (fun _ => K) K rfl
           ·exact Owe.skip K [(99, (.bool true))] ⟨gA 31 K K, trivial⟩ (some 101) (fun _ => K) K rfl
           ·exact Owe.skip K [(99, (.bool true))] ⟨gA 31 K K, trivial⟩ (some 102) (fun _ => K) K rfl
           ·exact Owe.run K [(99, (.bool true)), (102, undef)] ⟨gA 31 K K, gA 34 K K, trivial⟩ (.bool true) (fun _ _ => K) rfl
           ·exact Owe.run K [(103, (.bool true))] ⟨gA 35 K K, trivial⟩ (.bool true) (fun _ _ => K) rfl
           ·exact Owe.skip K [(104, (.bool true))] ⟨gA 36 K K, trivial⟩ (some 105) (fun _ => K) K rfl
           ·exact Owe.skip K [(104, (.bool true))] ⟨gA 36 K K, trivial⟩ (some 106) (fun _ => K) K rfl
           ·exact Owe.skip K [(104, (.bool true))] ⟨gA 36 K K, trivial⟩ (some 107) (fun _ => K) K rfl
           ·exact Owe.run K [(104, (.bool true)), (107, undef)] ⟨gA 36 K K, gA 39 K K, trivial⟩ (.bool true) (fun _ _ => K) rfl
           ·rintro ρ' w' hs hf ⟨⟨q7633, -⟩, hs7632⟩
            refine postKnown [(1, (pt g12 0)), (4, (.int .i64 v6027)), (108, (.bool true))] ⟨(hs 1 K).trans K, (hs 4 K).trans K, hf 40 108 K, trivial⟩ ?_
            obtain ⟨w7635, hww7635⟩ : ∃ x, w' = x := ⟨_, rfl⟩
            rw [hww7635] at hs7632 ⊢
            exact ⟨true, ⟨K, K, K, trivial⟩, SP.sel hs7632 [0] rfl rfl, H⟩
          ·have H := cf H hb7613
           rcases Bool.eq_false_or_eq_true (decide (((List.length x6876.2.1 : Nat) : Int) > 32)) with hb7636 | hb7636
           ·have H := ct H hb7636
            refine At.stages K K K K K [GEq (pt g6885 0), GEq (.string ⟨List.toArray x6876.1⟩), GEq (.bool z7309), GEq (.bool (!z7309)), GEq (.bool (!z7309)), GEq (.int .i64 v6027), GEq (.bool (decide (v6027 > 0))), GEq (.bool (decide (v6027 > 0))), GEq undef, GEq undef, GEq undef, GEq undef, GEq undef, GEq undef, GEq undef, GEq undef, GEq undef, GEq undef, GEq (.bool false), GEq (.bool false), GEq (.bool false), GEq (pt g6885 1), GEq (.string ⟨List.toArray x6876.2.1⟩), GEq (.bool (x6876.2.1 == ([] : List UInt8))), GEq (.bool (x6876.2.1 == ([] : List UInt8))), GEq (.bool (x6876.2.1 == ([] : List UInt8))), GEq (pt g6885 1), GEq (.string ⟨List.toArray x6876.2.1⟩), GEq (.int .i64 ((List.length x6876.2.1 : Nat) : Int)), GEq (.bool (decide (((List.length x6876.2.1 : Nat) : Int) > 32))), GEq (.bool (decide (((List.length x6876.2.1 : Nat) : Int) > 32))), GEq (.bool (decide (((List.length x6876.2.1 : Nat) : Int) > 32))), GEq undef, GEq undef, GEq undef, GEq (.bool true), GEq (.bool true), GEq undef, GEq undef, GEq undef, GEq (.bool true)] [2] [([], fun vs w => VL vs [] ∧ SP [] w0 w [boxE g12 45 #[(.string ⟨List.toArray pName1⟩), (.int .i64 pNames2), (.int .i64 pVisitors3), (.slice A5 (List.length pNets4) c6), (.slice A9 (List.length pTokens8) c10)], boxE g6885 56 #[(.string ⟨List.toArray x6876.1⟩), (.string ⟨List.toArray x6876.2.1⟩), (.int .i64 x6876.2.2)]]), ([2], fun vs w => VL vs [(.bool z7309)] ∧ SP [] w0 w [boxE g12 45 #[(.string ⟨List.toArray pName1⟩), (.int .i64 pNames2), (.int .i64 pVisitors3), (.slice A5 (List.length pNets4) c6), (.slice A9 (List.length pTokens8) c10)], boxE g6885 56 #[(.string ⟨List.toArray x6876.1⟩), (.string ⟨List.toArray x6876.2.1⟩), (.int .i64 x6876.2.2)]])] (N := 41) K ⟨K, Nat.zero_lt_succ _⟩ (show VL [] [] ∧ SP [] w0 w6889.drew [boxE g12 45 #[(.string ⟨List.toArray pName1⟩), (.int .i64 pNames2), (.int .i64 pVisitors3), (.slice A5 (List.length pNets4) c6), (.slice A9 (List.length pTokens8) c10)], boxE g6885 56 #[(.string ⟨List.toArray x6876.1⟩), (.string ⟨List.toArray x6876.2.1⟩), (.int .i64 x6876.2.2)]] from ⟨trivial, SP.drew hs6891⟩) ⟨⟨⟨⟨⟨⟨⟨⟨⟨⟨⟨⟨⟨⟨⟨⟨⟨⟨⟨⟨⟨⟨⟨⟨⟨⟨⟨⟨⟨⟨⟨⟨⟨⟨⟨⟨⟨⟨⟨⟨⟨trivial, ?_⟩, ?_⟩, ?_⟩, ?_⟩, ?_⟩, ?_⟩, ?_⟩, ?_⟩, ?_⟩, ?_⟩, ?_⟩, ?_⟩, ?_⟩, ?_⟩, ?_⟩, ?_⟩, ?_⟩, ?_⟩, ?_⟩, ?_⟩, ?_⟩, ?_⟩, ?_⟩, ?_⟩, ?_⟩, ?_⟩, ?_⟩, ?_⟩, ?_⟩, ?_⟩, ?_⟩, ?_⟩, ?_⟩, ?_⟩, ?_⟩, ?_⟩, ?_⟩, ?_⟩, ?_⟩, ?_⟩, ?_⟩ (last := 1) K ?_
            ·exact Owe.run K [(5, (pt g6885 0))] ⟨gS K K, trivial⟩ (pt g6885 0) (fun _ _ => K) rfl
            ·refine Owe.light K [0] K (all_cons ?_ all_nil)
             ·rintro ρ' w' hs hah ⟨hvl7642, hs7641⟩
              have hkn : Known ρ' [(68, (pt g6885 0))] := ⟨hah 0 68 K, trivial⟩
              refine Step.known _ hkn ?_
              refine Step.load (t := 9) (x := (.tmp 68)) (g := g6885) (off := 0) (i := 1) (v := (.string ⟨List.toArray x6876.1⟩)) (d := (some 69)) (k := 1) K rfl K hs7641 rfl K ?_
              exact ⟨rfl, _, updO_known hkn, rfl⟩
            ·refine Owe.heavy K [(0, 1)] K (all_cons ⟨K, K, ?_⟩ all_nil)
             ·rintro ρ' w' hs hah ⟨hvl7644, hs7643⟩
              have hkn : Known ρ' [(69, (.string ⟨List.toArray x6876.1⟩))] := ⟨hah 1 69 K, trivial⟩
              refine Step.known _ hkn ?_
              refine Step.callF (f := 54) (fo := (.func 54)) (xs := #[(.tmp 69)]) (tys := #[9]) (first := #[]) (captured := #[]) (d := (some 70)) (k := 2) K rfl K K Tryd.call54 (L_subwayref04_Name_walk  x6876.1 w'  z7309 hz7310) ?_
              rintro e w7645 ⟨rfl, hs7646⟩
              refine ⟨_, rfl, ?_⟩
              have hs7648 : SP [] w0 w7645 [boxE g12 45 #[(.string ⟨List.toArray pName1⟩), (.int .i64 pNames2), (.int .i64 pVisitors3), (.slice A5 (List.length pNets4) c6), (.slice A9 (List.length pTokens8) c10)], boxE g6885 56 #[(.string ⟨List.toArray x6876.1⟩), (.string ⟨List.toArray x6876.2.1⟩), (.int .i64 x6876.2.2)]] := SP.call hs7643 hs7646
              clear hs7646
              refine ⟨_, updO_known hkn, rfl, ?_⟩
              exact (And.intro (And.intro rfl (trivial)) (hs7648))
            ·exact Owe.run K [(70, (.bool z7309))] ⟨gA 2 K K, trivial⟩ (.bool (!z7309)) (fun _ _ => K) rfl
            ·exact Owe.run K [(71, (.bool (!z7309)))] ⟨gA 3 K K, trivial⟩ (.bool (!z7309)) (fun _ _ => K) rfl
            ·exact Owe.run K [(4, (.int .i64 v6027)), (72, (.bool false))] ⟨gS K K, gB 4 K (!z7309) K hb7315, trivial⟩ (.int .i64 v6027) (fun _ _ => K) rfl
            ·exact Owe.run K [(73, (.int .i64 v6027)), (72, (.bool false))] ⟨gA 5 K K, gB 4 K (!z7309) K hb7315, trivial⟩ (.bool (decide (v6027 > 0))) (fun _ _ => K) rfl
            ·exact Owe.run K [(74, (.bool (decide (v6027 > 0)))), (72, (.bool false))] ⟨gA 6 K K, gB 4 K (!z7309) K hb7315, trivial⟩ (.bool (decide (v6027 > 0))) (fun _ _ => K) rfl
            ·exact Owe.skip K [(75, (.bool false))] ⟨gB 7 K (decide (v6027 > 0)) K hb7332, trivial⟩ (some 76) (fun _ => K) K rfl
            ·exact Owe.skip K [(75, (.bool false))] ⟨gB 7 K (decide (v6027 > 0)) K hb7332, trivial⟩ (some 77) (fun _ => K) K rfl
            ·exact Owe.skip K [(75, (.bool false))] ⟨gB 7 K (decide (v6027 > 0)) K hb7332, trivial⟩ (some 78) (fun _ => K) K rfl
            ·exact Owe.skip K [(75, (.bool false))] ⟨gB 7 K (decide (v6027 > 0)) K hb7332, trivial⟩ (some 79) (fun _ => K) K rfl
            ·exact Owe.skip K [(75, (.bool false))] ⟨gB 7 K (decide (v6027 > 0)) K hb7332, trivial⟩ (some 80) (fun _ => K) K rfl
            ·exact Owe.skip K [(75, (.bool false))] ⟨gB 7 K (decide (v6027 > 0)) K hb7332, trivial⟩ (some 81) (fun _ => K) K rfl
            ·exact Owe.skip K [(75, (.bool false))] ⟨gB 7 K (decide (v6027 > 0)) K hb7332, trivial⟩ (some 82) (fun _ => K) K rfl
            ·exact Owe.skip K [(75, (.bool false))] ⟨gB 7 K (decide (v6027 > 0)) K hb7332, trivial⟩ (some 83) (fun _ => K) K rfl
            ·exact Owe.skip K [(75, (.bool false))] ⟨gB 7 K (decide (v6027 > 0)) K hb7332, trivial⟩ (some 84) (fun _ => K) K rfl
            ·exact Owe.skip K [(75, (.bool false))] ⟨gB 7 K (decide (v6027 > 0)) K hb7332, trivial⟩ (some 85) (fun _ => K) K rfl
            ·exact Owe.run K [(75, (.bool false)), (85, undef), (72, (.bool false))] ⟨gB 7 K (decide (v6027 > 0)) K hb7332, gA 17 K K, gB 4 K (!z7309) K hb7315, trivial⟩ (.bool false) (fun _ _ => K) rfl
            ·exact Owe.run K [(72, (.bool false)), (86, (.bool false))] ⟨gB 4 K (!z7309) K hb7315, gA 18 K K, trivial⟩ (.bool false) (fun _ _ => K) rfl
            ·exact Owe.run K [(87, (.bool false))] ⟨gA 19 K K, trivial⟩ (.bool false) (fun _ _ => K) rfl
            ·exact Owe.run K [(5, (pt g6885 0)), (88, (.bool false))] ⟨gS K K, gA 20 K K, trivial⟩ (pt g6885 1) (fun _ _ => K) rfl
            ·refine Owe.light K [1] K (all_cons ?_ all_nil)
             ·rintro ρ' w' hs hah ⟨⟨q7650, -⟩, hs7649⟩
              have hkn : Known ρ' [(89, (pt g6885 1)), (88, (.bool false))] := ⟨hah 21 89 K, hah 20 88 K, trivial⟩
              refine Step.known _ hkn ?_
              refine Step.load (t := 9) (x := (.tmp 89)) (g := g6885) (off := 1) (i := 1) (v := (.string ⟨List.toArray x6876.2.1⟩)) (d := (some 90)) (k := 22) K rfl K hs7649 rfl K ?_
              exact ⟨rfl, _, updO_known hkn, rfl⟩
            ·refine Owe.light K [1] K (all_cons ?_ all_nil)
             ·rintro ρ' w' hs hah ⟨⟨q7653, -⟩, hs7652⟩
              have hkn : Known ρ' [(90, (.string ⟨List.toArray x6876.2.1⟩)), (88, (.bool false))] := ⟨hah 22 90 K, hah 20 88 K, trivial⟩
              refine Step.known _ hkn ?_
              refine Step.strOp (op := .eql) (T := 9) (T' := 9) (x := (.tmp 90)) (y := (.const (.string ⟨List.toArray ([] : List UInt8)⟩))) (a := x6876.2.1) (b := ([] : List UInt8)) (r := (.bool (x6876.2.1 == ([] : List UInt8)))) (d := (some 91)) (k := 23) K rfl K K rfl ?_
              exact ⟨rfl, _, updO_known hkn, rfl⟩
            ·exact Owe.run K [(88, (.bool false)), (91, (.bool (x6876.2.1 == ([] : List UInt8))))] ⟨gA 20 K K, gA 23 K K, trivial⟩ (.bool (x6876.2.1 == ([] : List UInt8))) (fun _ _ => K) rfl
            ·exact Owe.run K [(92, (.bool (x6876.2.1 == ([] : List UInt8))))] ⟨gA 24 K K, trivial⟩ (.bool (x6876.2.1 == ([] : List UInt8))) (fun _ _ => K) rfl
            ·exact Owe.run K [(5, (pt g6885 0)), (93, (.bool false))] ⟨gS K K, gB 25 K (x6876.2.1 == ([] : List UInt8)) K hb7613, trivial⟩ (pt g6885 1) (fun _ _ => K) rfl
            ·refine Owe.light K [1] K (all_cons ?_ all_nil)
             ·rintro ρ' w' hs hah ⟨⟨q7656, -⟩, hs7655⟩
              have e94 := hah 26 94 K
              have e93 := hah 25 93 K
              have hkn : Known ρ' [(94, (pt g6885 1)), (93, (.bool false))] := ⟨e94, (Eq.trans e93 (congrArg Value.bool hb7613)), trivial⟩
              refine Step.known _ hkn ?_
              refine Step.load (t := 9) (x := (.tmp 94)) (g := g6885) (off := 1) (i := 1) (v := (.string ⟨List.toArray x6876.2.1⟩)) (d := (some 95)) (k := 27) K rfl K hs7655 rfl K ?_
              exact ⟨rfl, _, updO_known hkn, rfl⟩
            ·exact Owe.run K [(95, (.string ⟨List.toArray x6876.2.1⟩)), (93, (.bool false))] ⟨gA 27 K K, gB 25 K (x6876.2.1 == ([] : List UInt8)) K hb7613, trivial⟩ (.int .i64 ((List.length x6876.2.1 : Nat) : Int)) (fun _ _ => K) rfl
            ·exact Owe.run K [(96, (.int .i64 ((List.length x6876.2.1 : Nat) : Int))), (93, (.bool false))] ⟨gA 28 K K, gB 25 K (x6876.2.1 == ([] : List UInt8)) K hb7613, trivial⟩ (.bool (decide (((List.length x6876.2.1 : Nat) : Int) > 32))) (fun _ _ => K) rfl
            ·exact Owe.run K [(93, (.bool false)), (97, (.bool (decide (((List.length x6876.2.1 : Nat) : Int) > 32))))] ⟨gB 25 K (x6876.2.1 == ([] : List UInt8)) K hb7613, gA 29 K K, trivial⟩ (.bool (decide (((List.length x6876.2.1 : Nat) : Int) > 32))) (fun _ _ => K) rfl
            ·exact Owe.run K [(98, (.bool (decide (((List.length x6876.2.1 : Nat) : Int) > 32))))] ⟨gA 30 K K, trivial⟩ (.bool (decide (((List.length x6876.2.1 : Nat) : Int) > 32))) (fun _ _ => K) rfl
            ·exact Owe.skip K [(99, (.bool true))] ⟨gB 31 K (decide (((List.length x6876.2.1 : Nat) : Int) > 32)) K hb7636, trivial⟩ (some 100) (fun _ => K) K rfl
            ·exact Owe.skip K [(99, (.bool true))] ⟨gB 31 K (decide (((List.length x6876.2.1 : Nat) : Int) > 32)) K hb7636, trivial⟩ (some 101) (fun _ => K) K rfl
            ·exact Owe.skip K [(99, (.bool true))] ⟨gB 31 K (decide (((List.length x6876.2.1 : Nat) : Int) > 32)) K hb7636, trivial⟩ (some 102) (fun _ => K) K rfl
            ·exact Owe.run K [(99, (.bool true)), (102, undef)] ⟨gB 31 K (decide (((List.length x6876.2.1 : Nat) : Int) > 32)) K hb7636, gA 34 K K, trivial⟩ (.bool true) (fun _ _ => K) rfl
            ·exact Owe.run K [(103, (.bool true))] ⟨gA 35 K K, trivial⟩ (.bool true) (fun _ _ => K) rfl
            ·exact Owe.skip K [(104, (.bool true))] ⟨gA 36 K K, trivial⟩ (some 105) (fun _ => K) K rfl
            ·exact Owe.skip K [(104, (.bool true))] ⟨gA 36 K K, trivial⟩ (some 106) (fun _ => K) K rfl
            ·exact Owe.skip K [(104, (.bool true))] ⟨gA 36 K K, trivial⟩ (some 107) (fun _ => K) K rfl
            ·exact Owe.run K [(104, (.bool true)), (107, undef)] ⟨gA 36 K K, gA 39 K K, trivial⟩ (.bool true) (fun _ _ => K) rfl
            ·rintro ρ' w' hs hf ⟨⟨q7659, -⟩, hs7658⟩
             refine postKnown [(1, (pt g12 0)), (4, (.int .i64 v6027)), (108, (.bool true))] ⟨(hs 1 K).trans K, (hs 4 K).trans K, hf 40 108 K, trivial⟩ ?_
             obtain ⟨w7661, hww7661⟩ : ∃ x, w' = x := ⟨_, rfl⟩
             rw [hww7661] at hs7658 ⊢
             exact ⟨true, ⟨K, K, K, trivial⟩, SP.sel hs7658 [0] rfl rfl, H⟩
           ·have H := cf H hb7636
            rcases Bool.eq_false_or_eq_true (decide (x6876.2.2 < 0)) with hb7662 | hb7662
            ·have H := ct H hb7662
             refine At.stages K K K K K [GEq (pt g6885 0), GEq (.string ⟨List.toArray x6876.1⟩), GEq (.bool z7309), GEq (.bool (!z7309)), GEq (.bool (!z7309)), GEq (.int .i64 v6027), GEq (.bool (decide (v6027 > 0))), GEq (.bool (decide (v6027 > 0))), GEq undef, GEq undef, GEq undef, GEq undef, GEq undef, GEq undef, GEq undef, GEq undef, GEq undef, GEq undef, GEq (.bool false), GEq (.bool false), GEq (.bool false), GEq (pt g6885 1), GEq (.string ⟨List.toArray x6876.2.1⟩), GEq (.bool (x6876.2.1 == ([] : List UInt8))), GEq (.bool (x6876.2.1 == ([] : List UInt8))), GEq (.bool (x6876.2.1 == ([] : List UInt8))), GEq (pt g6885 1), GEq (.string ⟨List.toArray x6876.2.1⟩), GEq (.int .i64 ((List.length x6876.2.1 : Nat) : Int)), GEq (.bool (decide (((List.length x6876.2.1 : Nat) : Int) > 32))), GEq (.bool (decide (((List.length x6876.2.1 : Nat) : Int) > 32))), GEq (.bool (decide (((List.length x6876.2.1 : Nat) : Int) > 32))), GEq (pt g6885 2), GEq (.int .i64 x6876.2.2), GEq (.bool (decide (x6876.2.2 < 0))), GEq (.bool (decide (x6876.2.2 < 0))), GEq (.bool (decide (x6876.2.2 < 0))), GEq undef, GEq undef, GEq undef, GEq (.bool true)] [2] [([], fun vs w => VL vs [] ∧ SP [] w0 w [boxE g12 45 #[(.string ⟨List.toArray pName1⟩), (.int .i64 pNames2), (.int .i64 pVisitors3), (.slice A5 (List.length pNets4) c6), (.slice A9 (List.length pTokens8) c10)], boxE g6885 56 #[(.string ⟨List.toArray x6876.1⟩), (.string ⟨List.toArray x6876.2.1⟩), (.int .i64 x6876.2.2)]]), ([2], fun vs w => VL vs [(.bool z7309)] ∧ SP [] w0 w [boxE g12 45 #[(.string ⟨List.toArray pName1⟩), (.int .i64 pNames2), (.int .i64 pVisitors3), (.slice A5 (List.length pNets4) c6), (.slice A9 (List.length pTokens8) c10)], boxE g6885 56 #[(.string ⟨List.toArray x6876.1⟩), (.string ⟨List.toArray x6876.2.1⟩), (.int .i64 x6876.2.2)]])] (N := 41) K ⟨K, Nat.zero_lt_succ _⟩ (show VL [] [] ∧ SP [] w0 w6889.drew [boxE g12 45 #[(.string ⟨List.toArray pName1⟩), (.int .i64 pNames2), (.int .i64 pVisitors3), (.slice A5 (List.length pNets4) c6), (.slice A9 (List.length pTokens8) c10)], boxE g6885 56 #[(.string ⟨List.toArray x6876.1⟩), (.string ⟨List.toArray x6876.2.1⟩), (.int .i64 x6876.2.2)]] from ⟨trivial, SP.drew hs6891⟩) ⟨⟨⟨⟨⟨⟨⟨⟨⟨⟨⟨⟨⟨⟨⟨⟨⟨⟨⟨⟨⟨⟨⟨⟨⟨⟨⟨⟨⟨⟨⟨⟨⟨⟨⟨⟨⟨⟨⟨⟨⟨trivial, ?_⟩, ?_⟩, ?_⟩, ?_⟩, ?_⟩, ?_⟩, ?_⟩, ?_⟩, ?_⟩, ?_⟩, ?_⟩, ?_⟩, ?_⟩, ?_⟩, ?_⟩, ?_⟩, ?_⟩, ?_⟩, ?_⟩, ?_⟩, ?_⟩, ?_⟩, ?_⟩, ?_⟩, ?_⟩, ?_⟩, ?_⟩, ?_⟩, ?_⟩, ?_⟩, ?_⟩, ?_⟩, ?_⟩, ?_⟩, ?_⟩, ?_⟩, ?_⟩, ?_⟩, ?_⟩, ?_⟩, ?_⟩ (last := 1) K ?_
             ·exact Owe.run K [(5, (pt g6885 0))] ⟨gS K K, trivial⟩ (pt g6885 0) (fun _ _ => K) rfl
             ·refine Owe.light K [0] K (all_cons ?_ all_nil)
              ·rintro ρ' w' hs hah ⟨hvl7668, hs7667⟩
               have hkn : Known ρ' [(68, (pt g6885 0))] := ⟨hah 0 68 K, trivial⟩
               refine Step.known _ hkn ?_
               refine Step.load (t := 9) (x := (.tmp 68)) (g := g6885) (off := 0) (i := 1) (v := (.string ⟨List.toArray x6876.1⟩)) (d := (some 69)) (k := 1) K rfl K hs7667 rfl K ?_
               exact ⟨rfl, _, updO_known hkn, rfl⟩
             ·refine Owe.heavy K [(0, 1)] K (all_cons ⟨K, K, ?_⟩ all_nil)
              ·rintro ρ' w' hs hah ⟨hvl7670, hs7669⟩
               have hkn : Known ρ' [(69, (.string ⟨List.toArray x6876.1⟩))] := ⟨hah 1 69 K, trivial⟩
               refine Step.known _ hkn ?_
               refine Step.callF (f := 54) (fo := (.func 54)) (xs := #[(.tmp 69)]) (tys := #[9]) (first := #[]) (captured := #[]) (d := (some 70)) (k := 2) K rfl K K Tryd.call54 (L_subwayref04_Name_walk  x6876.1 w'  z7309 hz7310) ?_
               rintro e w7671 ⟨rfl, hs7672⟩
               refine ⟨_, rfl, ?_⟩
               have hs7674 : SP [] w0 w7671 [boxE g12 45 #[(.string ⟨List.toArray pName1⟩), (.int .i64 pNames2), (.int .i64 pVisitors3), (.slice A5 (List.length pNets4) c6), (.slice A9 (List.length pTokens8) c10)], boxE g6885 56 #[(.string ⟨List.toArray x6876.1⟩), (.string ⟨List.toArray x6876.2.1⟩), (.int .i64 x6876.2.2)]] := SP.call hs7669 hs7672
               clear hs7672
               refine ⟨_, updO_known hkn, rfl, ?_⟩
               exact (And.intro (And.intro rfl (trivial)) (hs7674))
             ·exact Owe.run K [(70, (.bool z7309))] ⟨gA 2 K K, trivial⟩ (.bool (!z7309)) (fun _ _ => K) rfl
             ·exact Owe.run K [(71, (.bool (!z7309)))] ⟨gA 3 K K, trivial⟩ (.bool (!z7309)) (fun _ _ => K) rfl
             ·exact Owe.run K [(4, (.int .i64 v6027)), (72, (.bool false))] ⟨gS K K, gB 4 K (!z7309) K hb7315, trivial⟩ (.int .i64 v6027) (fun _ _ => K) rfl
             ·exact Owe.run K [(73, (.int .i64 v6027)), (72, (.bool false))] ⟨gA 5 K K, gB 4 K (!z7309) K hb7315, trivial⟩ (.bool (decide (v6027 > 0))) (fun _ _ => K) rfl
             ·exact Owe.run K [(74, (.bool (decide (v6027 > 0)))), (72, (.bool false))] ⟨gA 6 K K, gB 4 K (!z7309) K hb7315, trivial⟩ (.bool (decide (v6027 > 0))) (fun _ _ => K) rfl
             ·exact Owe.skip K [(75, (.bool false))] ⟨gB 7 K (decide (v6027 > 0)) K hb7332, trivial⟩ (some 76) (fun _ => K) K rfl
             ·exact Owe.skip K [(75, (.bool false))] ⟨gB 7 K (decide (v6027 > 0)) K hb7332, trivial⟩ (some 77) (fun _ => K) K rfl
             ·exact Owe.skip K [(75, (.bool false))] ⟨gB 7 K (decide (v6027 > 0)) K hb7332, trivial⟩ (some 78) (fun _ => K) K rfl
             ·exact Owe.skip K [(75, (.bool false))] ⟨gB 7 K (decide (v6027 > 0)) K hb7332, trivial⟩ (some 79) (fun _ => K) K rfl
             ·exact Owe.skip K [(75, (.bool false))] ⟨gB 7 K (decide (v6027 > 0)) K hb7332, trivial⟩ (some 80) (fun _ => K) K rfl
             ·exact Owe.skip K [(75, (.bool false))] ⟨gB 7 K (decide (v6027 > 0)) K hb7332, trivial⟩ (some 81) (fun _ => K) K rfl
             ·exact Owe.skip K [(75, (.bool false))] ⟨gB 7 K (decide (v6027 > 0)) K hb7332, trivial⟩ (some 82) (fun _ => K) K rfl
             ·exact Owe.skip K [(75, (.bool false))] ⟨gB 7 K (decide (v6027 > 0)) K hb7332, trivial⟩ (some 83) (fun _ => K) K rfl
             ·exact Owe.skip K [(75, (.bool false))] ⟨gB 7 K (decide (v6027 > 0)) K hb7332, trivial⟩ (some 84) (fun _ => K) K rfl
             ·exact Owe.skip K [(75, (.bool false))] ⟨gB 7 K (decide (v6027 > 0)) K hb7332, trivial⟩ (some 85) (fun _ => K) K rfl
             ·exact Owe.run K [(75, (.bool false)), (85, undef), (72, (.bool false))] ⟨gB 7 K (decide (v6027 > 0)) K hb7332, gA 17 K K, gB 4 K (!z7309) K hb7315, trivial⟩ (.bool false) (fun _ _ => K) rfl
             ·exact Owe.run K [(72, (.bool false)), (86, (.bool false))] ⟨gB 4 K (!z7309) K hb7315, gA 18 K K, trivial⟩ (.bool false) (fun _ _ => K) rfl
             ·exact Owe.run K [(87, (.bool false))] ⟨gA 19 K K, trivial⟩ (.bool false) (fun _ _ => K) rfl
             ·exact Owe.run K [(5, (pt g6885 0)), (88, (.bool false))] ⟨gS K K, gA 20 K K, trivial⟩ (pt g6885 1) (fun _ _ => K) rfl
             ·refine Owe.light K [1] K (all_cons ?_ all_nil)
              ·rintro ρ' w' hs hah ⟨⟨q7676, -⟩, hs7675⟩
               have hkn : Known ρ' [(89, (pt g6885 1)), (88, (.bool false))] := ⟨hah 21 89 K, hah 20 88 K, trivial⟩
               refine Step.known _ hkn ?_
               refine Step.load (t := 9) (x := (.tmp 89)) (g := g6885) (off := 1) (i := 1) (v := (.string ⟨List.toArray x6876.2.1⟩)) (d := (some 90)) (k := 22) K rfl K hs7675 rfl K ?_
               exact ⟨rfl, _, updO_known hkn, rfl⟩
             ·refine Owe.light K [1] K (all_cons ?_ all_nil)
              ·rintro ρ' w' hs hah ⟨⟨q7679, -⟩, hs7678⟩
               have hkn : Known ρ' [(90, (.string ⟨List.toArray x6876.2.1⟩)), (88, (.bool false))] := ⟨hah 22 90 K, hah 20 88 K, trivial⟩
               refine Step.known _ hkn ?_
               refine Step.strOp (op := .eql) (T := 9) (T' := 9) (x := (.tmp 90)) (y := (.const (.string ⟨List.toArray ([] : List UInt8)⟩))) (a := x6876.2.1) (b := ([] : List UInt8)) (r := (.bool (x6876.2.1 == ([] : List UInt8)))) (d := (some 91)) (k := 23) K rfl K K rfl ?_
               exact ⟨rfl, _, updO_known hkn, rfl⟩
             ·exact Owe.run K [(88, (.bool false)), (91, (.bool (x6876.2.1 == ([] : List UInt8))))] ⟨gA 20 K K, gA 23 K K, trivial⟩ (.bool (x6876.2.1 == ([] : List UInt8))) (fun _ _ => K) rfl
             ·exact Owe.run K [(92, (.bool (x6876.2.1 == ([] : List UInt8))))] ⟨gA 24 K K, trivial⟩ (.bool (x6876.2.1 == ([] : List UInt8))) (fun _ _ => K) rfl
             ·exact Owe.run K [(5, (pt g6885 0)), (93, (.bool false))] ⟨gS K K, gB 25 K (x6876.2.1 == ([] : List UInt8)) K hb7613, trivial⟩ (pt g6885 1) (fun _ _ => K) rfl
             ·refine Owe.light K [1] K (all_cons ?_ all_nil)
              ·rintro ρ' w' hs hah ⟨⟨q7682, -⟩, hs7681⟩
               have e94 := hah 26 94 K
               have e93 := hah 25 93 K
               have hkn : Known ρ' [(94, (pt g6885 1)), (93, (.bool false))] := ⟨e94, (Eq.trans e93 (congrArg Value.bool hb7613)), trivial⟩
               refine Step.known _ hkn ?_
               refine Step.load (t := 9) (x := (.tmp 94)) (g := g6885) (off := 1) (i := 1) (v := (.string ⟨List.toArray x6876.2.1⟩)) (d := (some 95)) (k := 27) K rfl K hs7681 rfl K ?_
               exact ⟨rfl, _, updO_known hkn, rfl⟩
             ·exact Owe.run K [(95, (.string ⟨List.toArray x6876.2.1⟩)), (93, (.bool false))] ⟨gA 27 K K, gB 25 K (x6876.2.1 == ([] : List UInt8)) K hb7613, trivial⟩ (.int .i64 ((List.length x6876.2.1 : Nat) : Int)) (fun _ _ => K) rfl
             ·exact Owe.run K [(96, (.int .i64 ((List.length x6876.2.1 : Nat) : Int))), (93, (.bool false))] ⟨gA 28 K K, gB 25 K (x6876.2.1 == ([] : List UInt8)) K hb7613, trivial⟩ (.bool (decide (((List.length x6876.2.1 : Nat) : Int) > 32))) (fun _ _ => K) rfl
             ·exact Owe.run K [(93, (.bool false)), (97, (.bool (decide (((List.length x6876.2.1 : Nat) : Int) > 32))))] ⟨gB 25 K (x6876.2.1 == ([] : List UInt8)) K hb7613, gA 29 K K, trivial⟩ (.bool (decide (((List.length x6876.2.1 : Nat) : Int) > 32))) (fun _ _ => K) rfl
             ·exact Owe.run K [(98, (.bool (decide (((List.length x6876.2.1 : Nat) : Int) > 32))))] ⟨gA 30 K K, trivial⟩ (.bool (decide (((List.length x6876.2.1 : Nat) : Int) > 32))) (fun _ _ => K) rfl
             ·exact Owe.run K [(5, (pt g6885 0)), (99, (.bool false))] ⟨gS K K, gB 31 K (decide (((List.length x6876.2.1 : Nat) : Int) > 32)) K hb7636, trivial⟩ (pt g6885 2) (fun _ _ => K) rfl
             ·refine Owe.light K [1] K (all_cons ?_ all_nil)
              ·rintro ρ' w' hs hah ⟨⟨q7685, -⟩, hs7684⟩
               have e100 := hah 32 100 K
               have e99 := hah 31 99 K
               have hkn : Known ρ' [(100, (pt g6885 2)), (99, (.bool false))] := ⟨e100, (Eq.trans e99 (congrArg Value.bool hb7636)), trivial⟩
               refine Step.known _ hkn ?_
               refine Step.load (t := 2) (x := (.tmp 100)) (g := g6885) (off := 2) (i := 1) (v := (.int .i64 x6876.2.2)) (d := (some 101)) (k := 33) K rfl K hs7684 rfl K ?_
               exact ⟨rfl, _, updO_known hkn, rfl⟩
             ·exact Owe.run K [(101, (.int .i64 x6876.2.2)), (99, (.bool false))] ⟨gA 33 K K, gB 31 K (decide (((List.length x6876.2.1 : Nat) : Int) > 32)) K hb7636, trivial⟩ (.bool (decide (x6876.2.2 < 0))) (fun _ _ => K) rfl
             ·exact Owe.run K [(99, (.bool false)), (102, (.bool (decide (x6876.2.2 < 0))))] ⟨gB 31 K (decide (((List.length x6876.2.1 : Nat) : Int) > 32)) K hb7636, gA 34 K K, trivial⟩ (.bool (decide (x6876.2.2 < 0))) (fun _ _ => K) rfl
             ·exact Owe.run K [(103, (.bool (decide (x6876.2.2 < 0))))] ⟨gA 35 K K, trivial⟩ (.bool (decide (x6876.2.2 < 0))) (fun _ _ => K) rfl
             ·exact Owe.skip K [(104, (.bool true))] ⟨gB 36 K (decide (x6876.2.2 < 0)) K hb7662, trivial⟩ (some 105) (fun _ => K) K rfl
             ·exact Owe.skip K [(104, (.bool true))] ⟨gB 36 K (decide (x6876.2.2 < 0)) K hb7662, trivial⟩ (some 106) (fun _ => K) K rfl
             ·exact Owe.skip K [(104, (.bool true))] ⟨gB 36 K (decide (x6876.2.2 < 0)) K hb7662, trivial⟩ (some 107) (fun _ => K) K rfl
             ·exact Owe.run K [(104, (.bool true)), (107, undef)] ⟨gB 36 K (decide (x6876.2.2 < 0)) K hb7662, gA 39 K K, trivial⟩ (.bool true) (fun _ _ => K) rfl
             ·rintro ρ' w' hs hf ⟨⟨q7688, -⟩, hs7687⟩
              refine postKnown [(1, (pt g12 0)), (4, (.int .i64 v6027)), (108, (.bool true))] ⟨(hs 1 K).trans K, (hs 4 K).trans K, hf 40 108 K, trivial⟩ ?_
              obtain ⟨w7690, hww7690⟩ : ∃ x, w' = x := ⟨_, rfl⟩
              rw [hww7690] at hs7687 ⊢
              exact ⟨true, ⟨K, K, K, trivial⟩, SP.sel hs7687 [0] rfl rfl, H⟩
            ·have H := cf H hb7662
             refine At.stages K K K K K [GEq (pt g6885 0), GEq (.string ⟨List.toArray x6876.1⟩), GEq (.bool z7309), GEq (.bool (!z7309)), GEq (.bool (!z7309)), GEq (.int .i64 v6027), GEq (.bool (decide (v6027 > 0))), GEq (.bool (decide (v6027 > 0))), GEq undef, GEq undef, GEq undef, GEq undef, GEq undef, GEq undef, GEq undef, GEq undef, GEq undef, GEq undef, GEq (.bool false), GEq (.bool false), GEq (.bool false), GEq (pt g6885 1), GEq (.string ⟨List.toArray x6876.2.1⟩), GEq (.bool (x6876.2.1 == ([] : List UInt8))), GEq (.bool (x6876.2.1 == ([] : List UInt8))), GEq (.bool (x6876.2.1 == ([] : List UInt8))), GEq (pt g6885 1), GEq (.string ⟨List.toArray x6876.2.1⟩), GEq (.int .i64 ((List.length x6876.2.1 : Nat) : Int)), GEq (.bool (decide (((List.length x6876.2.1 : Nat) : Int) > 32))), GEq (.bool (decide (((List.length x6876.2.1 : Nat) : Int) > 32))), GEq (.bool (decide (((List.length x6876.2.1 : Nat) : Int) > 32))), GEq (pt g6885 2), GEq (.int .i64 x6876.2.2), GEq (.bool (decide (x6876.2.2 < 0))), GEq (.bool (decide (x6876.2.2 < 0))), GEq (.bool (decide (x6876.2.2 < 0))), GEq (pt g6885 2), GEq (.int .i64 x6876.2.2), GEq (.bool (decide (x6876.2.2 > 1099511627776))), GEq (.bool (decide (x6876.2.2 > 1099511627776)))] [2] [([], fun vs w => VL vs [] ∧ SP [] w0 w [boxE g12 45 #[(.string ⟨List.toArray pName1⟩), (.int .i64 pNames2), (.int .i64 pVisitors3), (.slice A5 (List.length pNets4) c6), (.slice A9 (List.length pTokens8) c10)], boxE g6885 56 #[(.string ⟨List.toArray x6876.1⟩), (.string ⟨List.toArray x6876.2.1⟩), (.int .i64 x6876.2.2)]]), ([2], fun vs w => VL vs [(.bool z7309)] ∧ SP [] w0 w [boxE g12 45 #[(.string ⟨List.toArray pName1⟩), (.int .i64 pNames2), (.int .i64 pVisitors3), (.slice A5 (List.length pNets4) c6), (.slice A9 (List.length pTokens8) c10)], boxE g6885 56 #[(.string ⟨List.toArray x6876.1⟩), (.string ⟨List.toArray x6876.2.1⟩), (.int .i64 x6876.2.2)]])] (N := 41) K ⟨K, Nat.zero_lt_succ _⟩ (show VL [] [] ∧ SP [] w0 w6889.drew [boxE g12 45 #[(.string ⟨List.toArray pName1⟩), (.int .i64 pNames2), (.int .i64 pVisitors3), (.slice A5 (List.length pNets4) c6), (.slice A9 (List.length pTokens8) c10)], boxE g6885 56 #[(.string ⟨List.toArray x6876.1⟩), (.string ⟨List.toArray x6876.2.1⟩), (.int .i64 x6876.2.2)]] from ⟨trivial, SP.drew hs6891⟩) ⟨⟨⟨⟨⟨⟨⟨⟨⟨⟨⟨⟨⟨⟨⟨⟨⟨⟨⟨⟨⟨⟨⟨⟨⟨⟨⟨⟨⟨⟨⟨⟨⟨⟨⟨⟨⟨⟨⟨⟨⟨trivial, ?_⟩, ?_⟩, ?_⟩, ?_⟩, ?_⟩, ?_⟩, ?_⟩, ?_⟩, ?_⟩, ?_⟩, ?_⟩, ?_⟩, ?_⟩, ?_⟩, ?_⟩, ?_⟩, ?_⟩, ?_⟩, ?_⟩, ?_⟩, ?_⟩, ?_⟩, ?_⟩, ?_⟩, ?_⟩, ?_⟩, ?_⟩, ?_⟩, ?_⟩, ?_⟩, ?_⟩, ?_⟩, ?_⟩, ?_⟩, ?_⟩, ?_⟩, ?_⟩, ?_⟩, ?_⟩, ?_⟩, ?_⟩ (last := 1) K ?_
             ·exact Owe.run K [(5, (pt g6885 0))] ⟨gS K K, trivial⟩ (pt g6885 0) (fun _ _ => K) rfl
             ·refine Owe.light K [0] K (all_cons ?_ all_nil)
              ·rintro ρ' w' hs hah ⟨hvl7696, hs7695⟩
               have hkn : Known ρ' [(68, (pt g6885 0))] := ⟨hah 0 68 K, trivial⟩
               refine Step.known _ hkn ?_
               refine Step.load (t := 9) (x := (.tmp 68)) (g := g6885) (off := 0) (i := 1) (v := (.string ⟨List.toArray x6876.1⟩)) (d := (some 69)) (k := 1) K rfl K hs7695 rfl K ?_
               exact ⟨rfl, _, updO_known hkn, rfl⟩
             ·refine Owe.heavy K [(0, 1)] K (all_cons ⟨K, K, ?_⟩ all_nil)
              ·rintro ρ' w' hs hah ⟨hvl7698, hs7697⟩
               have hkn : Known ρ' [(69, (.string ⟨List.toArray x6876.1⟩))] := ⟨hah 1 69 K, trivial⟩
               refine Step.known _ hkn ?_
               refine Step.callF (f := 54) (fo := (.func 54)) (xs := #[(.tmp 69)]) (tys := #[9]) (first := #[]) (captured := #[]) (d := (some 70)) (k := 2) K rfl K K Tryd.call54 (L_subwayref04_Name_walk  x6876.1 w'  z7309 hz7310) ?_
               rintro e w7699 ⟨rfl, hs7700⟩
               refine ⟨_, rfl, ?_⟩
               have hs7702 : SP [] w0 w7699 [boxE g12 45 #[(.string ⟨List.toArray pName1⟩), (.int .i64 pNames2), (.int .i64 pVisitors3), (.slice A5 (List.length pNets4) c6), (.slice A9 (List.length pTokens8) c10)], boxE g6885 56 #[(.string ⟨List.toArray x6876.1⟩), (.string ⟨List.toArray x6876.2.1⟩), (.int .i64 x6876.2.2)]] := SP.call hs7697 hs7700
               clear hs7700
               refine ⟨_, updO_known hkn, rfl, ?_⟩
               exact (And.intro (And.intro rfl (trivial)) (hs7702))
             ·exact Owe.run K [(70, (.bool z7309))] ⟨gA 2 K K, trivial⟩ (.bool (!z7309)) (fun _ _ => K) rfl
             ·exact Owe.run K [(71, (.bool (!z7309)))] ⟨gA 3 K K, trivial⟩ (.bool (!z7309)) (fun _ _ => K) rfl
             ·exact Owe.run K [(4, (.int .i64 v6027)), (72, (.bool false))] ⟨gS K K, gB 4 K (!z7309) K hb7315, trivial⟩ (.int .i64 v6027) (fun _ _ => K) rfl
             ·exact Owe.run K [(73, (.int .i64 v6027)), (72, (.bool false))] ⟨gA 5 K K, gB 4 K (!z7309) K hb7315, trivial⟩ (.bool (decide (v6027 > 0))) (fun _ _ => K) rfl
             ·exact Owe.run K [(74, (.bool (decide (v6027 > 0)))), (72, (.bool false))] ⟨gA 6 K K, gB 4 K (!z7309) K hb7315, trivial⟩ (.bool (decide (v6027 > 0))) (fun _ _ => K) rfl
             ·exact Owe.skip K [(75, (.bool false))] ⟨gB 7 K (decide (v6027 > 0)) K hb7332, trivial⟩ (some 76) (fun _ => K) K rfl
             ·exact Owe.skip K [(75, (.bool false))] ⟨gB 7 K (decide (v6027 > 0)) K hb7332, trivial⟩ (some 77) (fun _ => K) K rfl
             ·exact Owe.skip K [(75, (.bool false))] ⟨gB 7 K (decide (v6027 > 0)) K hb7332, trivial⟩ (some 78) (fun _ => K) K rfl
             ·exact Owe.skip K [(75, (.bool false))] ⟨gB 7 K (decide (v6027 > 0)) K hb7332, trivial⟩ (some 79) (fun _ => K) K rfl
             ·exact Owe.skip K [(75, (.bool false))] ⟨gB 7 K (decide (v6027 > 0)) K hb7332, trivial⟩ (some 80) (fun _ => K) K rfl
             ·exact Owe.skip K [(75, (.bool false))] ⟨gB 7 K (decide (v6027 > 0)) K hb7332, trivial⟩ (some 81) (fun _ => K) K rfl
             ·exact Owe.skip K [(75, (.bool false))] ⟨gB 7 K (decide (v6027 > 0)) K hb7332, trivial⟩ (some 82) (fun _ => K) K rfl
             ·exact Owe.skip K [(75, (.bool false))] ⟨gB 7 K (decide (v6027 > 0)) K hb7332, trivial⟩ (some 83) (fun _ => K) K rfl
             ·exact Owe.skip K [(75, (.bool false))] ⟨gB 7 K (decide (v6027 > 0)) K hb7332, trivial⟩ (some 84) (fun _ => K) K rfl
             ·exact Owe.skip K [(75, (.bool false))] ⟨gB 7 K (decide (v6027 > 0)) K hb7332, trivial⟩ (some 85) (fun _ => K) K rfl
             ·exact Owe.run K [(75, (.bool false)), (85, undef), (72, (.bool false))] ⟨gB 7 K (decide (v6027 > 0)) K hb7332, gA 17 K K, gB 4 K (!z7309) K hb7315, trivial⟩ (.bool false) (fun _ _ => K) rfl
             ·exact Owe.run K [(72, (.bool false)), (86, (.bool false))] ⟨gB 4 K (!z7309) K hb7315, gA 18 K K, trivial⟩ (.bool false) (fun _ _ => K) rfl
             ·exact Owe.run K [(87, (.bool false))] ⟨gA 19 K K, trivial⟩ (.bool false) (fun _ _ => K) rfl
             ·exact Owe.run K [(5, (pt g6885 0)), (88, (.bool false))] ⟨gS K K, gA 20 K K, trivial⟩ (pt g6885 1) (fun _ _ => K) rfl
             ·refine Owe.light K [1] K (all_cons ?_ all_nil)
              ·rintro ρ' w' hs hah ⟨⟨q7704, -⟩, hs7703⟩
               have hkn : Known ρ' [(89, (pt g6885 1)), (88, (.bool false))] := ⟨hah 21 89 K, hah 20 88 K, trivial⟩
               refine Step.known _ hkn ?_
               refine Step.load (t := 9) (x := (.tmp 89)) (g := g6885) (off := 1) (i := 1) (v := (.string ⟨List.toArray x6876.2.1⟩)) (d := (some 90)) (k := 22) K rfl K hs7703 rfl K ?_
               exact ⟨rfl, _, updO_known hkn, rfl⟩
             ·refine Owe.light K [1] K (all_cons ?_ all_nil)
              ·rintro ρ' w' hs hah ⟨⟨q7707, -⟩, hs7706⟩
               have hkn : Known ρ' [(90, (.string ⟨List.toArray x6876.2.1⟩)), (88, (.bool false))] := ⟨hah 22 90 K, hah 20 88 K, trivial⟩
               refine Step.known _ hkn ?_
               refine Step.strOp (op := .eql) (T := 9) (T' := 9) (x := (.tmp 90)) (y := (.const (.string ⟨List.toArray ([] : List UInt8)⟩))) (a := x6876.2.1) (b := ([] : List UInt8)) (r := (.bool (x6876.2.1 == ([] : List UInt8)))) (d := (some 91)) (k := 23) K rfl K K rfl ?_
               exact ⟨rfl, _, updO_known hkn, rfl⟩
             ·exact Owe.run K [(88, (.bool false)), (91, (.bool (x6876.2.1 == ([] : List UInt8))))] ⟨gA 20 K K, gA 23 K K, trivial⟩ (.bool (x6876.2.1 == ([] : List UInt8))) (fun _ _ => K) rfl
             ·exact Owe.run K [(92, (.bool (x6876.2.1 == ([] : List UInt8))))] ⟨gA 24 K K, trivial⟩ (.bool (x6876.2.1 == ([] : List UInt8))) (fun _ _ => K) rfl
             ·exact Owe.run K [(5, (pt g6885 0)), (93, (.bool false))] ⟨gS K K, gB 25 K (x6876.2.1 == ([] : List UInt8)) K hb7613, trivial⟩ (pt g6885 1) (fun _ _ => K) rfl
             ·refine Owe.light K [1] K (all_cons ?_ all_nil)
              ·rintro ρ' w' hs hah ⟨⟨q7710, -⟩, hs7709⟩
               have e94 := hah 26 94 K
               have e93 := hah 25 93 K
               have hkn : Known ρ' [(94, (pt g6885 1)), (93, (.bool false))] := ⟨e94, (Eq.trans e93 (congrArg Value.bool hb7613)), trivial⟩
               refine Step.known _ hkn ?_
               refine Step.load (t := 9) (x := (.tmp 94)) (g := g6885) (off := 1) (i := 1) (v := (.string ⟨List.toArray x6876.2.1⟩)) (d := (some 95)) (k := 27) K rfl K hs7709 rfl K ?_
               exact ⟨rfl, _, updO_known hkn, rfl⟩
             ·exact Owe.run K [(95, (.string ⟨List.toArray x6876.2.1⟩)), (93, (.bool false))] ⟨gA 27 K K, gB 25 K (x6876.2.1 == ([] : List UInt8)) K hb7613, trivial⟩ (.int .i64 ((List.length x6876.2.1 : Nat) : Int)) (fun _ _ => K) rfl
             ·exact Owe.run K [(96, (.int .i64 ((List.length x6876.2.1 : Nat) : Int))), (93, (.bool false))] ⟨gA 28 K K, gB 25 K (x6876.2.1 == ([] : List UInt8)) K hb7613, trivial⟩ (.bool (decide (((List.length x6876.2.1 : Nat) : Int) > 32))) (fun _ _ => K) rfl
             ·exact Owe.run K [(93, (.bool false)), (97, (.bool (decide (((List.length x6876.2.1 : Nat) : Int) > 32))))] ⟨gB 25 K (x6876.2.1 == ([] : List UInt8)) K hb7613, gA 29 K K, trivial⟩ (.bool (decide (((List.length x6876.2.1 : Nat) : Int) > 32))) (fun _ _ => K) rfl
             ·exact Owe.run K [(98, (.bool (decide (((List.length x6876.2.1 : Nat) : Int) > 32))))] ⟨gA 30 K K, trivial⟩ (.bool (decide (((List.length x6876.2.1 : Nat) : Int) > 32))) (fun _ _ => K) rfl
             ·exact Owe.run K [(5, (pt g6885 0)), (99, (.bool false))] ⟨gS K K, gB 31 K (decide (((List.length x6876.2.1 : Nat) : Int) > 32)) K hb7636, trivial⟩ (pt g6885 2) (fun _ _ => K) rfl
             ·refine Owe.light K [1] K (all_cons ?_ all_nil)
              ·rintro ρ' w' hs hah ⟨⟨q7713, -⟩, hs7712⟩
               have e100 := hah 32 100 K
               have e99 := hah 31 99 K
               have hkn : Known ρ' [(100, (pt g6885 2)), (99, (.bool false))] := ⟨e100, (Eq.trans e99 (congrArg Value.bool hb7636)), trivial⟩
               refine Step.known _ hkn ?_
               refine Step.load (t := 2) (x := (.tmp 100)) (g := g6885) (off := 2) (i := 1) (v := (.int .i64 x6876.2.2)) (d := (some 101)) (k := 33) K rfl K hs7712 rfl K ?_
               exact ⟨rfl, _, updO_known hkn, rfl⟩
             ·exact Owe.run K [(101, (.int .i64 x6876.2.2)), (99, (.bool false))] ⟨gA 33 K K, gB 31 K (decide (((List.length x6876.2.1 : Nat) : Int) > 32)) K hb7636, trivial⟩ (.bool (decide (x6876.2.2 < 0))) (fun _ _ => K) rfl
             ·exact Owe.run K [(99, (.bool false)), (102, (.bool (decide (x6876.2.2 < 0))))] ⟨gB 31 K (decide (((List.length x6876.2.1 : Nat) : Int) > 32)) K hb7636, gA 34 K K, trivial⟩ (.bool (decide (x6876.2.2 < 0))) (fun _ _ => K) rfl
             ·exact Owe.run K [(103, (.bool (decide (x6876.2.2 < 0))))] ⟨gA 35 K K, trivial⟩ (.bool (decide (x6876.2.2 < 0))) (fun _ _ => K) rfl
             ·exact Owe.run K [(5, (pt g6885 0)), (104, (.bool false))] ⟨gS K K, gB 36 K (decide (x6876.2.2 < 0)) K hb7662, trivial⟩ (pt g6885 2) (fun _ _ => K) rfl
             ·refine Owe.light K [1] K (all_cons ?_ all_nil)
              ·rintro ρ' w' hs hah ⟨⟨q7716, -⟩, hs7715⟩
               have e105 := hah 37 105 K
               have e104 := hah 36 104 K
               have hkn : Known ρ' [(105, (pt g6885 2)), (104, (.bool false))] := ⟨e105, (Eq.trans e104 (congrArg Value.bool hb7662)), trivial⟩
               refine Step.known _ hkn ?_
               refine Step.load (t := 2) (x := (.tmp 105)) (g := g6885) (off := 2) (i := 1) (v := (.int .i64 x6876.2.2)) (d := (some 106)) (k := 38) K rfl K hs7715 rfl K ?_
               exact ⟨rfl, _, updO_known hkn, rfl⟩
             ·exact Owe.run K [(106, (.int .i64 x6876.2.2)), (104, (.bool false))] ⟨gA 38 K K, gB 36 K (decide (x6876.2.2 < 0)) K hb7662, trivial⟩ (.bool (decide (x6876.2.2 > 1099511627776))) (fun _ _ => K) rfl
             ·exact Owe.run K [(104, (.bool false)), (107, (.bool (decide (x6876.2.2 > 1099511627776))))] ⟨gB 36 K (decide (x6876.2.2 < 0)) K hb7662, gA 39 K K, trivial⟩ (.bool (decide (x6876.2.2 > 1099511627776))) (fun _ _ => K) rfl
             ·rintro ρ' w' hs hf ⟨⟨q7719, -⟩, hs7718⟩
              refine postKnown [(1, (pt g12 0)), (4, (.int .i64 v6027)), (108, (.bool (decide (x6876.2.2 > 1099511627776))))] ⟨(hs 1 K).trans K, (hs 4 K).trans K, hf 40 108 K, trivial⟩ ?_
              obtain ⟨w7721, hww7721⟩ : ∃ x, w' = x := ⟨_, rfl⟩
              rw [hww7721] at hs7718 ⊢
              exact ⟨(decide (x6876.2.2 > 1099511627776)), ⟨K, K, K, trivial⟩, SP.sel hs7718 [0] rfl rfl, H⟩
       ·rintro ρ w7306 ⟨v7305, hk, hs7307, H⟩
        unfold L_subwayref09_rightTenant_k14 at H
        first | refine At.known [(1, (pt g12 0)), (4, (.int .i64 v6027)), (108, (.bool v7305))] hk ?_ | rw [← known_updL (l := [(1, (pt g12 0)), (4, (.int .i64 v6027)), (108, (.bool v7305))]) hk]
        refine At.cd K (o := (.tmp 108)) K (b := v7305) K (fun hb7308 => ?_) (fun hb7308 => ?_)
        ·have H := ct H hb7308
         refine At.sq K ?_
         refine At.region K K ?_
         refine In.run' 1 (k' := 1) rfl [(2, (.bool false))] K ?_
         refine In.fin K ?_
         refine At.ret K ?_
         refine ⟨(.bool false), K, ?_⟩
         obtain rfl := some_elim H
         exact ⟨rfl, SP.sel hs7307 [] rfl rfl⟩
        ·have H := cf H hb7308
         refine At.skip K ?_
         refine At.region K K ?_
         refine In.run' 3 (k' := 3) rfl [(61, (.int .i64 v6027)), (62, (.int .i64 (IntKind.wrap .i64 (v6027 + 1)))), (4, (.int .i64 (IntKind.wrap .i64 (v6027 + 1))))] K ?_
         refine In.fin K ?_
         exact ⟨(IntKind.wrap .i64 (v6027 + 1)), ⟨K, K, trivial⟩, SP.sel hs7307 [0] rfl rfl, H⟩
      ·have H := cf H hb6875
       refine At.exit K (id := 2) K ?_
       refine At.sq K ?_
       refine At.region K K ?_
       refine In.run' 1 (k' := 1) rfl [(2, (.bool true))] K ?_
       refine In.fin K ?_
       refine At.ret K ?_
       refine ⟨(.bool true), K, ?_⟩
       obtain rfl := some_elim H
       exact ⟨rfl, SP.sel hs6026 [] rfl rfl⟩
     ·exact ⟨0, ⟨K, K, trivial⟩, SP.sel hs2596 [0] rfl rfl, H⟩
   ·exact ⟨0, ⟨K, K, trivial⟩, SP.sel hs30 [0] rfl rfl, H⟩
/-! L_subwayref09_time -/
def L_subwayref09_time_k1 (v3 : Bool) : Option (Bool) :=
  (some (v3))
def L_subwayref09_time (p1 : Int) : Option (Bool) :=
  (cond (decide (p1 ≥ 1)) (L_subwayref09_time_k1 (decide (p1 ≤ 1073741824))) (L_subwayref09_time_k1 false))
set_option maxRecDepth 100000 in
set_option maxHeartbeats 4000000 in
theorem L_subwayref09_time_walk  (p1 : Int) (w0 : World)  (r : (Bool)) (H : L_subwayref09_time p1 = some r) :
  Calls Tryd.prog 39 #[(.int .i64 p1)] w0 (fun e w' => e = .returned (.bool r) ∧ SP [] w0 w' []) := by
 unfold L_subwayref09_time at H
 refine calls_go (n := 9) Tryd.func39 K K K ?_
 have hs0 := SP.start [] w0
 refine At.sq K ?_
 refine At.region K K ?_
 refine In.run' 1 (k' := 1) rfl [(2, (.bool false))] K ?_
 refine In.fin K ?_
 refine At.sq K ?_
 refine At.join (fun ρ w => ∃ (v3 : Bool), Known ρ [(2, (.bool v3))] ∧ SP [] w0 w [] ∧ L_subwayref09_time_k1 v3 = some r) ?_ ?_
 ·refine At.region K K ?_
  refine In.run' 3 (k' := 3) rfl [(3, (.int .i64 p1)), (4, (.bool (decide (p1 ≥ 1)))), (5, (.bool (decide (p1 ≥ 1))))] K ?_
  refine In.guard (t := 5) (b := (decide (p1 ≥ 1))) K (fun hb6 => ?_) (fun hb6 => ?_)
  ·have H := ct H hb6
   refine In.run' 4 (k' := 7) rfl [(6, (.int .i64 p1)), (7, (.bool (decide (p1 ≤ 1073741824)))), (8, (.bool (decide (p1 ≤ 1073741824)))), (2, (.bool (decide (p1 ≤ 1073741824))))] K ?_
   refine In.fin K ?_
   exact ⟨(decide (p1 ≤ 1073741824)), ⟨K, trivial⟩, SP.sel hs0 [] rfl rfl, H⟩
  ·have H := cf H hb6
   refine In.run' 4 (k' := 7) rfl [(6, undef), (7, undef), (8, (.bool false)), (2, (.bool false))] K ?_
   refine In.fin K ?_
   exact ⟨false, ⟨K, trivial⟩, SP.sel hs0 [] rfl rfl, H⟩
 ·rintro ρ w4 ⟨v3, hk, hs5, H⟩
  unfold L_subwayref09_time_k1 at H
  first | refine At.known [(2, (.bool v3))] hk ?_ | rw [← known_updL (l := [(2, (.bool v3))]) hk]
  refine At.ret K ?_
  refine ⟨(.bool v3), K, ?_⟩
  obtain rfl := some_elim H
  exact ⟨rfl, SP.sel hs5 [] rfl rfl⟩
/-! L_subwayref09_Right -/
def L_subwayref09_Right_k6 (rec5 : Int → Option (Bool)) (v423 : Int) (v1002 : Bool) : Option (Bool) :=
  (cond v1002 (some (false)) (rec5 (IntKind.wrap .i64 (v423 + 1))))
def L_subwayref09_Right_k7 (rec5 : Int → Option (Bool)) (v1205 : Bool) : Option (Bool) :=
  (some (v1205))
def L_subwayref09_Right_b3 (rec5 : Int → Option (Bool)) (pWait1 : Int) (pGrace2 : Int) (pIdle3 : Int) (pLease4 : Int) (pTenants5 : (List TenantL)) (v423 : Int) : Option (Bool) :=
  (cond (decide (v423 < ((List.length pTenants5 : Nat) : Int))) ((idx pTenants5 v423).bind fun x1006 => ((L_subwayref09_rightTenant x1006.1 x1006.2.1 x1006.2.2.1 x1006.2.2.2.1 x1006.2.2.2.2).bind fun z1016 => (cond (!z1016) (L_subwayref09_Right_k6 rec5 v423 true) (cond (decide (v423 > 0)) ((idx pTenants5 (IntKind.wrap .i64 (v423 - 1))).bind fun x1052 => ((idx pTenants5 v423).bind fun x1062 => (L_subwayref09_Right_k6 rec5 v423 (!(Op.bytesLess x1052.1 x1062.1))))) (L_subwayref09_Right_k6 rec5 v423 false))))) ((L_subwayref09_time pWait1).bind fun z1208 => (cond z1208 ((L_subwayref09_time pGrace2).bind fun z1215 => (cond z1215 ((L_subwayref09_time pIdle3).bind fun z1222 => (cond z1222 ((L_subwayref09_time pLease4).bind fun z1229 => (cond z1229 (L_subwayref09_Right_k7 rec5 (decide (((List.length pTenants5 : Nat) : Int) ≤ 8))) (L_subwayref09_Right_k7 rec5 false))) (L_subwayref09_Right_k7 rec5 false))) (L_subwayref09_Right_k7 rec5 false))) (L_subwayref09_Right_k7 rec5 false))))
def L_subwayref09_Right_l3 (pWait1 : Int) (pGrace2 : Int) (pIdle3 : Int) (pLease4 : Int) (pTenants5 : (List TenantL)) : Nat → Int → Option (Bool)
  | 0, _ => none
  | f + 1, v423 => L_subwayref09_Right_b3  (L_subwayref09_Right_l3 pWait1 pGrace2 pIdle3 pLease4 pTenants5 f) pWait1 pGrace2 pIdle3 pLease4 pTenants5 v423
def L_subwayref09_Right (pWait1 : Int) (pGrace2 : Int) (pIdle3 : Int) (pLease4 : Int) (pTenants5 : (List TenantL)) : Option (Bool) :=
  (L_subwayref09_Right_l3 pWait1 pGrace2 pIdle3 pLease4 pTenants5 fuel 0)
set_option maxRecDepth 100000 in
set_option maxHeartbeats 4000000 in
theorem L_subwayref09_Right_walk (A6 : Option Addr) (c7 : Nat) (pWait1 : Int) (pGrace2 : Int) (pIdle3 : Int) (pLease4 : Int) (d9 : (List TenantD)) (w0 : World) (hr8 : (dDS eTen dTen).ok w0 (A6, c7, d9)) (r : (Bool)) (H : L_subwayref09_Right pWait1 pGrace2 pIdle3 pLease4 (List.map stT d9) = some r) :
  Calls Tryd.prog 24 #[(.agg #[(.int .i64 pWait1), (.int .i64 pGrace2), (.int .i64 pIdle3), (.int .i64 pLease4), (.slice A6 (List.length (List.map stT d9)) c7)])] w0 (fun e w' => e = .returned (.bool r) ∧ SP [] w0 w' []) := by
 unfold L_subwayref09_Right at H
 refine calls_go (n := 62) Tryd.func24 K K K ?_
 have hs0 := SP.start [] w0
 refine At.sq K ?_
 refine At.region K K ?_
 refine In.step (k' := 1) rfl K ?_
 refine Step.box (t := 24) (x := (.tmp 0)) (v := (.agg #[(.int .i64 pWait1), (.int .i64 pGrace2), (.int .i64 pIdle3), (.int .i64 pLease4), (.slice A6 (List.length (List.map stT d9)) c7)])) (d := (some 1)) (k := 0) K rfl K hs0 ?_
 intro g10 w11 (hs13 : SP [] w0 w11 [boxE g10 24 #[(.int .i64 pWait1), (.int .i64 pGrace2), (.int .i64 pIdle3), (.int .i64 pLease4), (.slice A6 (List.length (List.map stT d9)) c7)]])
 refine In.run' 1 (k' := 2) rfl [(2, (.bool false))] K ?_
 refine In.fin K ?_
 refine At.sq K ?_
 refine At.sq K ?_
 refine At.region K K ?_
 refine In.run' 1 (k' := 1) rfl [(3, (.int .i64 0))] K ?_
 refine In.fin K ?_
 refine At.bk K (id := 0) K ?_
 refine At.lp K (fun f5 ρ w => ∃ (v423 : Int), Known ρ [(1, (pt g10 0)), (3, (.int .i64 v423))] ∧ SP [] w0 w [boxE g10 24 #[(.int .i64 pWait1), (.int .i64 pGrace2), (.int .i64 pIdle3), (.int .i64 pLease4), (.slice A6 (List.length (List.map stT d9)) c7)]] ∧ L_subwayref09_Right_l3 pWait1 pGrace2 pIdle3 pLease4 (List.map stT d9) f5 v423 = some r) (by rintro ρ w ⟨v423, hk, hs, H⟩; cases H) ?_ fuel ?_
 ·rintro f5 ρ w421 ⟨v423, hk, hs422, H⟩
  refine At.known [(1, (pt g10 0)), (3, (.int .i64 v423))] hk ?_
  replace H := (show L_subwayref09_Right_b3 (L_subwayref09_Right_l3 pWait1 pGrace2 pIdle3 pLease4 (List.map stT d9) f5) pWait1 pGrace2 pIdle3 pLease4 (List.map stT d9) v423 = some r from H)
  unfold L_subwayref09_Right_b3 at H
  refine At.sq K ?_
  refine At.sq K ?_
  refine At.region K K ?_
  refine In.run' 2 (k' := 2) rfl [(4, (.int .i64 v423)), (5, (pt g10 4))] K ?_
  refine In.step (k' := 3) rfl K ?_
  refine Step.load (t := 22) (x := (.tmp 5)) (g := g10) (off := 4) (i := 0) (v := (.slice A6 (List.length (List.map stT d9)) c7)) (d := (some 6)) (k := 2) K rfl K hs422 rfl K ?_
  refine In.run' 2 (k' := 5) rfl [(7, (.int .i64 ((List.length (List.map stT d9) : Nat) : Int))), (8, (.bool (decide (v423 < ((List.length (List.map stT d9) : Nat) : Int)))))] K ?_
  refine In.fin K ?_
  refine At.cd K (o := (.tmp 8)) K (b := (decide (v423 < ((List.length (List.map stT d9) : Nat) : Int)))) K (fun hb830 => ?_) (fun hb830 => ?_)
  ·have H := ct H hb830
   refine At.skip K ?_
   refine At.sq K ?_
   refine At.bk K (id := 1) K ?_
   refine At.sq K ?_
   refine At.join (fun ρ w => ∃ (v1002 : Bool), Known ρ [(1, (pt g10 0)), (3, (.int .i64 v423)), (37, (.bool v1002))] ∧ SP [] w0 w [boxE g10 24 #[(.int .i64 pWait1), (.int .i64 pGrace2), (.int .i64 pIdle3), (.int .i64 pLease4), (.slice A6 (List.length (List.map stT d9)) c7)]] ∧ L_subwayref09_Right_k6 (L_subwayref09_Right_l3 pWait1 pGrace2 pIdle3 pLease4 (List.map stT d9) f5) v423 v1002 = some r) ?_ ?_
   ·obtain ⟨y1010, hp1007, hq1008, hx1009, H⟩ := idxm_elim H
    obtain ⟨z1016, hz1017, H⟩ := bind_elim H
    rcases Bool.eq_false_or_eq_true (!z1016) with hb1022 | hb1022
    ·have H := ct H hb1022
     refine At.stages K K K K K [GEq (pt g10 4), GEq (.slice A6 (List.length (List.map stT d9)) c7), GEq (.int .i64 v423), GElem0 A6 eTen.sz v423, GEq (.agg #[(.string ⟨List.toArray (stT y1010).1⟩), (.int .i64 (stT y1010).2.1), (.int .i64 (stT y1010).2.2.1), (.slice y1010.2.2.2.1.1 (List.length (stT y1010).2.2.2.1) y1010.2.2.2.1.2.1), (.slice y1010.2.2.2.2.1 (List.length (stT y1010).2.2.2.2) y1010.2.2.2.2.2.1)]), GEq (.bool z1016), GEq (.bool (!z1016)), GEq (.bool (!z1016)), GEq undef, GEq undef, GEq undef, GEq undef, GEq undef, GEq undef, GEq undef, GEq undef, GEq undef, GEq undef, GEq undef, GEq undef, GEq undef, GEq undef, GEq undef, GEq undef, GEq undef, GEq undef, GEq (.bool true)] [5] [([], fun vs w => VL vs [] ∧ SP [] w0 w [boxE g10 24 #[(.int .i64 pWait1), (.int .i64 pGrace2), (.int .i64 pIdle3), (.int .i64 pLease4), (.slice A6 (List.length (List.map stT d9)) c7)]]), ([5], fun vs w => VL vs [(.bool z1016)] ∧ SP [] w0 w [boxE g10 24 #[(.int .i64 pWait1), (.int .i64 pGrace2), (.int .i64 pIdle3), (.int .i64 pLease4), (.slice A6 (List.length (List.map stT d9)) c7)]])] (N := 27) K ⟨K, Nat.zero_lt_succ _⟩ (show VL [] [] ∧ SP [] w0 w421.drew [boxE g10 24 #[(.int .i64 pWait1), (.int .i64 pGrace2), (.int .i64 pIdle3), (.int .i64 pLease4), (.slice A6 (List.length (List.map stT d9)) c7)]] from ⟨trivial, SP.drew hs422⟩) ⟨⟨⟨⟨⟨⟨⟨⟨⟨⟨⟨⟨⟨⟨⟨⟨⟨⟨⟨⟨⟨⟨⟨⟨⟨⟨⟨trivial, ?_⟩, ?_⟩, ?_⟩, ?_⟩, ?_⟩, ?_⟩, ?_⟩, ?_⟩, ?_⟩, ?_⟩, ?_⟩, ?_⟩, ?_⟩, ?_⟩, ?_⟩, ?_⟩, ?_⟩, ?_⟩, ?_⟩, ?_⟩, ?_⟩, ?_⟩, ?_⟩, ?_⟩, ?_⟩, ?_⟩, ?_⟩ (last := 1) K ?_
     ·exact Owe.run K [(1, (pt g10 0))] ⟨gS K K, trivial⟩ (pt g10 4) (fun _ _ => K) rfl
     ·refine Owe.light K [0] K (all_cons ?_ all_nil)
      ·rintro ρ' w' hs hah ⟨hvl1028, hs1027⟩
       have hkn : Known ρ' [(11, (pt g10 4))] := ⟨hah 0 11 K, trivial⟩
       refine Step.known _ hkn ?_
       refine Step.load (t := 22) (x := (.tmp 11)) (g := g10) (off := 4) (i := 0) (v := (.slice A6 (List.length (List.map stT d9)) c7)) (d := (some 12)) (k := 1) K rfl K hs1027 rfl K ?_
       exact ⟨rfl, _, updO_known hkn, rfl⟩
     ·exact Owe.run K [(3, (.int .i64 v423))] ⟨gS K K, trivial⟩ (.int .i64 v423) (fun _ _ => K) rfl
     ·refine Owe.light K [0] K (all_cons ?_ all_nil)
      ·rintro ρ' w' hs hah ⟨hvl1030, hs1029⟩
       have hkn : Known ρ' [(12, (.slice A6 (List.length (List.map stT d9)) c7)), (13, (.int .i64 v423))] := ⟨hah 1 12 K, hah 2 13 K, trivial⟩
       refine Step.known _ hkn ?_
       refine Step.elemM stT (e := eTen) (l := d9) (A := A6) (c := c7) (T := 22) (E := 45) (x := (.tmp 12)) (ix := (.tmp 13)) (ki := .i64) (iz := v423) (d := (some 14)) (k := 3) K rfl K K K K (RdT.sp (ds_rd hr8) hs1029) hp1007 hq1008 ?_
       intro b1031 o1032 hA1034 hb1035 hc1033
       exact ⟨rfl, _, updO_known hkn, ⟨b1031, o1032, hA1034, rfl⟩⟩
     ·refine Owe.light K [0] K (all_cons ?_ all_nil)
      ·rintro ρ' w' hs hah ⟨hvl1037, hs1036⟩
       obtain ⟨b1038, o1039, hA1040, e14⟩ := hah 3 14 K
       have hkn : Known ρ' [(14, (.pointer (some ⟨b1038, (o1039 + Int.toNat v423 * eTen.sz), none⟩)))] := ⟨e14, trivial⟩
       refine Step.known _ hkn ?_
       refine Step.cells (t := 45) (x := (.tmp 14)) (b := b1038) (off := (o1039 + Int.toNat v423 * eTen.sz)) (xs := [(.string ⟨List.toArray (stT y1010).1⟩), (.int .i64 (stT y1010).2.1), (.int .i64 (stT y1010).2.2.1), (.slice y1010.2.2.2.1.1 (List.length (stT y1010).2.2.2.1) y1010.2.2.2.1.2.1), (.slice y1010.2.2.2.2.1 (List.length (stT y1010).2.2.2.2) y1010.2.2.2.2.2.1)]) (d := (some 15)) (k := 4) K rfl K K K (elem_cells0 (e := eTen) (rdt_cells (RdT.sp (ds_rd hr8) hs1036) hA1040 hp1007 hq1008) hx1009 rfl) ?_
       exact ⟨rfl, _, updO_known hkn, rfl⟩
     ·refine Owe.heavy K [(0, 1)] K (all_cons ⟨K, K, ?_⟩ all_nil)
      ·rintro ρ' w' hs hah ⟨hvl1042, hs1041⟩
       have hkn : Known ρ' [(15, (.agg #[(.string ⟨List.toArray (stT y1010).1⟩), (.int .i64 (stT y1010).2.1), (.int .i64 (stT y1010).2.2.1), (.slice y1010.2.2.2.1.1 (List.length (stT y1010).2.2.2.1) y1010.2.2.2.1.2.1), (.slice y1010.2.2.2.2.1 (List.length (stT y1010).2.2.2.2) y1010.2.2.2.2.2.1)]))] := ⟨hah 4 15 K, trivial⟩
       refine Step.known _ hkn ?_
       refine Step.callF (f := 38) (fo := (.func 38)) (xs := #[(.tmp 15)]) (tys := #[45]) (first := #[]) (captured := #[]) (d := (some 16)) (k := 5) K rfl K K Tryd.call38 (L_subwayref09_rightTenant_walk y1010.2.2.2.1.1 y1010.2.2.2.1.2.1 y1010.2.2.2.2.1 y1010.2.2.2.2.2.1 (stT y1010).1 (stT y1010).2.1 (stT y1010).2.2.1 (stT y1010).2.2.2.1 (stT y1010).2.2.2.2 w' (RdT.sp (ds_rd (dp1 (dp2 (dp2 (dp2 (ds_el hr8 hx1009)))))) hs1041) (RdT.sp (ds_rd (dp2 (dp2 (dp2 (dp2 (ds_el hr8 hx1009)))))) hs1041) z1016 hz1017) ?_
       rintro e w1043 ⟨rfl, hs1044⟩
       refine ⟨_, rfl, ?_⟩
       have hs1046 : SP [] w0 w1043 [boxE g10 24 #[(.int .i64 pWait1), (.int .i64 pGrace2), (.int .i64 pIdle3), (.int .i64 pLease4), (.slice A6 (List.length (List.map stT d9)) c7)]] := SP.call hs1041 hs1044
       clear hs1044
       refine ⟨_, updO_known hkn, rfl, ?_⟩
       exact (And.intro (And.intro rfl (trivial)) (hs1046))
     ·exact Owe.run K [(16, (.bool z1016))] ⟨gA 5 K K, trivial⟩ (.bool (!z1016)) (fun _ _ => K) rfl
     ·exact Owe.run K [(17, (.bool (!z1016)))] ⟨gA 6 K K, trivial⟩ (.bool (!z1016)) (fun _ _ => K) rfl
     ·exact Owe.skip K [(18, (.bool true))] ⟨gB 7 K (!z1016) K hb1022, trivial⟩ (some 19) (fun _ => K) K rfl
     ·exact Owe.skip K [(18, (.bool true))] ⟨gB 7 K (!z1016) K hb1022, trivial⟩ (some 20) (fun _ => K) K rfl
     ·exact Owe.skip K [(18, (.bool true))] ⟨gB 7 K (!z1016) K hb1022, trivial⟩ (some 21) (fun _ => K) K rfl
     ·exact Owe.skip K [(21, undef)] ⟨gA 10 K K, trivial⟩ (some 22) (fun _ => K) K rfl
     ·exact Owe.skip K [(21, undef)] ⟨gA 10 K K, trivial⟩ (some 23) (fun _ => K) K rfl
     ·exact Owe.skip K [(21, undef)] ⟨gA 10 K K, trivial⟩ (some 24) (fun _ => K) K rfl
     ·exact Owe.skip K [(21, undef)] ⟨gA 10 K K, trivial⟩ (some 25) (fun _ => K) K rfl
     ·exact Owe.skip K [(21, undef)] ⟨gA 10 K K, trivial⟩ (some 26) (fun _ => K) K rfl
     ·exact Owe.skip K [(21, undef)] ⟨gA 10 K K, trivial⟩ (some 27) (fun _ => K) K rfl
     ·exact Owe.skip K [(21, undef)] ⟨gA 10 K K, trivial⟩ (some 28) (fun _ => K) K rfl
     ·exact Owe.skip K [(21, undef)] ⟨gA 10 K K, trivial⟩ (some 29) (fun _ => K) K rfl
     ·exact Owe.skip K [(21, undef)] ⟨gA 10 K K, trivial⟩ (some 30) (fun _ => K) K rfl
     ·exact Owe.skip K [(21, undef)] ⟨gA 10 K K, trivial⟩ (some 31) (fun _ => K) K rfl
     ·exact Owe.skip K [(21, undef)] ⟨gA 10 K K, trivial⟩ (some 32) (fun _ => K) K rfl
     ·exact Owe.skip K [(21, undef)] ⟨gA 10 K K, trivial⟩ (some 33) (fun _ => K) K rfl
     ·exact Owe.skip K [(21, undef)] ⟨gA 10 K K, trivial⟩ (some 34) (fun _ => K) K rfl
     ·exact Owe.skip K [(21, undef)] ⟨gA 10 K K, trivial⟩ (some 35) (fun _ => K) K rfl
     ·exact Owe.skip K [(18, (.bool true))] ⟨gB 7 K (!z1016) K hb1022, trivial⟩ (some 36) (fun _ => K) K rfl
     ·exact Owe.run K [(18, (.bool true)), (36, undef)] ⟨gB 7 K (!z1016) K hb1022, gA 25 K K, trivial⟩ (.bool true) (fun _ _ => K) rfl
     ·rintro ρ' w' hs hf ⟨⟨q1048, -⟩, hs1047⟩
      refine postKnown [(1, (pt g10 0)), (3, (.int .i64 v423)), (37, (.bool true))] ⟨(hs 1 K).trans K, (hs 3 K).trans K, hf 26 37 K, trivial⟩ ?_
      obtain ⟨w1050, hww1050⟩ : ∃ x, w' = x := ⟨_, rfl⟩
      rw [hww1050] at hs1047 ⊢
      exact ⟨true, ⟨K, K, K, trivial⟩, SP.sel hs1047 [0] rfl rfl, H⟩
    ·have H := cf H hb1022
     rcases Bool.eq_false_or_eq_true (decide (v423 > 0)) with hb1051 | hb1051
     ·have H := ct H hb1051
      obtain ⟨y1056, hp1053, hq1054, hx1055, H⟩ := idxm_elim H
      obtain ⟨y1066, hp1063, hq1064, hx1065, H⟩ := idxm_elim H
      refine At.stages K K K K K [GEq (pt g10 4), GEq (.slice A6 (List.length (List.map stT d9)) c7), GEq (.int .i64 v423), GElem0 A6 eTen.sz v423, GEq (.agg #[(.string ⟨List.toArray (stT y1010).1⟩), (.int .i64 (stT y1010).2.1), (.int .i64 (stT y1010).2.2.1), (.slice y1010.2.2.2.1.1 (List.length (stT y1010).2.2.2.1) y1010.2.2.2.1.2.1), (.slice y1010.2.2.2.2.1 (List.length (stT y1010).2.2.2.2) y1010.2.2.2.2.2.1)]), GEq (.bool z1016), GEq (.bool (!z1016)), GEq (.bool (!z1016)), GEq (.int .i64 v423), GEq (.bool (decide (v423 > 0))), GEq (.bool (decide (v423 > 0))), GEq (pt g10 4), GEq (.slice A6 (List.length (List.map stT d9)) c7), GEq (.int .i64 v423), GEq (.int .i64 (IntKind.wrap .i64 (v423 - 1))), GElem0 A6 eTen.sz (IntKind.wrap .i64 (v423 - 1)), GElem0 A6 eTen.sz (IntKind.wrap .i64 (v423 - 1)), GEq (.string ⟨List.toArray (stT y1056).1⟩), GEq (pt g10 4), GEq (.slice A6 (List.length (List.map stT d9)) c7), GEq (.int .i64 v423), GElem0 A6 eTen.sz v423, GElem0 A6 eTen.sz v423, GEq (.string ⟨List.toArray (stT y1066).1⟩), GEq (.bool (!(Op.bytesLess (stT y1056).1 (stT y1066).1))), GEq (.bool (!(Op.bytesLess (stT y1056).1 (stT y1066).1))), GEq (.bool (!(Op.bytesLess (stT y1056).1 (stT y1066).1)))] [5] [([], fun vs w => VL vs [] ∧ SP [] w0 w [boxE g10 24 #[(.int .i64 pWait1), (.int .i64 pGrace2), (.int .i64 pIdle3), (.int .i64 pLease4), (.slice A6 (List.length (List.map stT d9)) c7)]]), ([5], fun vs w => VL vs [(.bool z1016)] ∧ SP [] w0 w [boxE g10 24 #[(.int .i64 pWait1), (.int .i64 pGrace2), (.int .i64 pIdle3), (.int .i64 pLease4), (.slice A6 (List.length (List.map stT d9)) c7)]])] (N := 27) K ⟨K, Nat.zero_lt_succ _⟩ (show VL [] [] ∧ SP [] w0 w421.drew [boxE g10 24 #[(.int .i64 pWait1), (.int .i64 pGrace2), (.int .i64 pIdle3), (.int .i64 pLease4), (.slice A6 (List.length (List.map stT d9)) c7)]] from ⟨trivial, SP.drew hs422⟩) ⟨⟨⟨⟨⟨⟨⟨⟨⟨⟨⟨⟨⟨⟨⟨⟨⟨⟨⟨⟨⟨⟨⟨⟨⟨⟨⟨trivial, ?_⟩, ?_⟩, ?_⟩, ?_⟩, ?_⟩, ?_⟩, ?_⟩, ?_⟩, ?_⟩, ?_⟩, ?_⟩, ?_⟩, ?_⟩, ?_⟩, ?_⟩, ?_⟩, ?_⟩, ?_⟩, ?_⟩, ?_⟩, ?_⟩, ?_⟩, ?_⟩, ?_⟩, ?_⟩, ?_⟩, ?_⟩ (last := 1) K ?_
      ·exact Owe.run K [(1, (pt g10 0))] ⟨gS K K, trivial⟩ (pt g10 4) (fun _ _ => K) rfl
      ·refine Owe.light K [0] K (all_cons ?_ all_nil)
       ·rintro ρ' w' hs hah ⟨hvl1077, hs1076⟩
        have hkn : Known ρ' [(11, (pt g10 4))] := ⟨hah 0 11 K, trivial⟩
        refine Step.known _ hkn ?_
        refine Step.load (t := 22) (x := (.tmp 11)) (g := g10) (off := 4) (i := 0) (v := (.slice A6 (List.length (List.map stT d9)) c7)) (d := (some 12)) (k := 1) K rfl K hs1076 rfl K ?_
        exact ⟨rfl, _, updO_known hkn, rfl⟩
      ·exact Owe.run K [(3, (.int .i64 v423))] ⟨gS K K, trivial⟩ (.int .i64 v423) (fun _ _ => K) rfl
      ·refine Owe.light K [0] K (all_cons ?_ all_nil)
       ·rintro ρ' w' hs hah ⟨hvl1079, hs1078⟩
        have hkn : Known ρ' [(12, (.slice A6 (List.length (List.map stT d9)) c7)), (13, (.int .i64 v423))] := ⟨hah 1 12 K, hah 2 13 K, trivial⟩
        refine Step.known _ hkn ?_
        refine Step.elemM stT (e := eTen) (l := d9) (A := A6) (c := c7) (T := 22) (E := 45) (x := (.tmp 12)) (ix := (.tmp 13)) (ki := .i64) (iz := v423) (d := (some 14)) (k := 3) K rfl K K K K (RdT.sp (ds_rd hr8) hs1078) hp1007 hq1008 ?_
        intro b1080 o1081 hA1083 hb1084 hc1082
        exact ⟨rfl, _, updO_known hkn, ⟨b1080, o1081, hA1083, rfl⟩⟩
      ·refine Owe.light K [0] K (all_cons ?_ all_nil)
       ·rintro ρ' w' hs hah ⟨hvl1086, hs1085⟩
        obtain ⟨b1087, o1088, hA1089, e14⟩ := hah 3 14 K
        have hkn : Known ρ' [(14, (.pointer (some ⟨b1087, (o1088 + Int.toNat v423 * eTen.sz), none⟩)))] := ⟨e14, trivial⟩
        refine Step.known _ hkn ?_
        refine Step.cells (t := 45) (x := (.tmp 14)) (b := b1087) (off := (o1088 + Int.toNat v423 * eTen.sz)) (xs := [(.string ⟨List.toArray (stT y1010).1⟩), (.int .i64 (stT y1010).2.1), (.int .i64 (stT y1010).2.2.1), (.slice y1010.2.2.2.1.1 (List.length (stT y1010).2.2.2.1) y1010.2.2.2.1.2.1), (.slice y1010.2.2.2.2.1 (List.length (stT y1010).2.2.2.2) y1010.2.2.2.2.2.1)]) (d := (some 15)) (k := 4) K rfl K K K (elem_cells0 (e := eTen) (rdt_cells (RdT.sp (ds_rd hr8) hs1085) hA1089 hp1007 hq1008) hx1009 rfl) ?_
        exact ⟨rfl, _, updO_known hkn, rfl⟩
      ·refine Owe.heavy K [(0, 1)] K (all_cons ⟨K, K, ?_⟩ all_nil)
       ·rintro ρ' w' hs hah ⟨hvl1091, hs1090⟩
        have hkn : Known ρ' [(15, (.agg #[(.string ⟨List.toArray (stT y1010).1⟩), (.int .i64 (stT y1010).2.1), (.int .i64 (stT y1010).2.2.1), (.slice y1010.2.2.2.1.1 (List.length (stT y1010).2.2.2.1) y1010.2.2.2.1.2.1), (.slice y1010.2.2.2.2.1 (List.length (stT y1010).2.2.2.2) y1010.2.2.2.2.2.1)]))] := ⟨hah 4 15 K, trivial⟩
        refine Step.known _ hkn ?_
        refine Step.callF (f := 38) (fo := (.func 38)) (xs := #[(.tmp 15)]) (tys := #[45]) (first := #[]) (captured := #[]) (d := (some 16)) (k := 5) K rfl K K Tryd.call38 (L_subwayref09_rightTenant_walk y1010.2.2.2.1.1 y1010.2.2.2.1.2.1 y1010.2.2.2.2.1 y1010.2.2.2.2.2.1 (stT y1010).1 (stT y1010).2.1 (stT y1010).2.2.1 (stT y1010).2.2.2.1 (stT y1010).2.2.2.2 w' (RdT.sp (ds_rd (dp1 (dp2 (dp2 (dp2 (ds_el hr8 hx1009)))))) hs1090) (RdT.sp (ds_rd (dp2 (dp2 (dp2 (dp2 (ds_el hr8 hx1009)))))) hs1090) z1016 hz1017) ?_
        rintro e w1092 ⟨rfl, hs1093⟩
        refine ⟨_, rfl, ?_⟩
        have hs1095 : SP [] w0 w1092 [boxE g10 24 #[(.int .i64 pWait1), (.int .i64 pGrace2), (.int .i64 pIdle3), (.int .i64 pLease4), (.slice A6 (List.length (List.map stT d9)) c7)]] := SP.call hs1090 hs1093
        clear hs1093
        refine ⟨_, updO_known hkn, rfl, ?_⟩
        exact (And.intro (And.intro rfl (trivial)) (hs1095))
      ·exact Owe.run K [(16, (.bool z1016))] ⟨gA 5 K K, trivial⟩ (.bool (!z1016)) (fun _ _ => K) rfl
      ·exact Owe.run K [(17, (.bool (!z1016)))] ⟨gA 6 K K, trivial⟩ (.bool (!z1016)) (fun _ _ => K) rfl
      ·exact Owe.run K [(3, (.int .i64 v423)), (18, (.bool false))] ⟨gS K K, gB 7 K (!z1016) K hb1022, trivial⟩ (.int .i64 v423) (fun _ _ => K) rfl
      ·exact Owe.run K [(19, (.int .i64 v423)), (18, (.bool false))] ⟨gA 8 K K, gB 7 K (!z1016) K hb1022, trivial⟩ (.bool (decide (v423 > 0))) (fun _ _ => K) rfl
      ·exact Owe.run K [(20, (.bool (decide (v423 > 0)))), (18, (.bool false))] ⟨gA 9 K K, gB 7 K (!z1016) K hb1022, trivial⟩ (.bool (decide (v423 > 0))) (fun _ _ => K) rfl
      ·exact Owe.run K [(1, (pt g10 0)), (21, (.bool true))] ⟨gS K K, gB 10 K (decide (v423 > 0)) K hb1051, trivial⟩ (pt g10 4) (fun _ _ => K) rfl
      ·refine Owe.light K [1] K (all_cons ?_ all_nil)
       ·rintro ρ' w' hs hah ⟨⟨q1097, -⟩, hs1096⟩
        have e22 := hah 11 22 K
        have e21 := hah 10 21 K
        have hkn : Known ρ' [(22, (pt g10 4)), (21, (.bool true))] := ⟨e22, (Eq.trans e21 (congrArg Value.bool hb1051)), trivial⟩
        refine Step.known _ hkn ?_
        refine Step.load (t := 22) (x := (.tmp 22)) (g := g10) (off := 4) (i := 0) (v := (.slice A6 (List.length (List.map stT d9)) c7)) (d := (some 23)) (k := 12) K rfl K hs1096 rfl K ?_
        exact ⟨rfl, _, updO_known hkn, rfl⟩
      ·exact Owe.run K [(3, (.int .i64 v423)), (21, (.bool true))] ⟨gS K K, gB 10 K (decide (v423 > 0)) K hb1051, trivial⟩ (.int .i64 v423) (fun _ _ => K) rfl
      ·exact Owe.run K [(24, (.int .i64 v423)), (21, (.bool true))] ⟨gA 13 K K, gB 10 K (decide (v423 > 0)) K hb1051, trivial⟩ (.int .i64 (IntKind.wrap .i64 (v423 - 1))) (fun _ _ => K) rfl
      ·refine Owe.light K [1] K (all_cons ?_ all_nil)
       ·rintro ρ' w' hs hah ⟨⟨q1100, -⟩, hs1099⟩
        have e23 := hah 12 23 K
        have e25 := hah 14 25 K
        have e21 := hah 10 21 K
        have hkn : Known ρ' [(23, (.slice A6 (List.length (List.map stT d9)) c7)), (25, (.int .i64 (IntKind.wrap .i64 (v423 - 1)))), (21, (.bool true))] := ⟨e23, e25, (Eq.trans e21 (congrArg Value.bool hb1051)), trivial⟩
        refine Step.known _ hkn ?_
        refine Step.elemM stT (e := eTen) (l := d9) (A := A6) (c := c7) (T := 22) (E := 45) (x := (.tmp 23)) (ix := (.tmp 25)) (ki := .i64) (iz := (IntKind.wrap .i64 (v423 - 1))) (d := (some 26)) (k := 15) K rfl K K K K (RdT.sp (ds_rd hr8) hs1099) hp1053 hq1054 ?_
        intro b1102 o1103 hA1105 hb1106 hc1104
        exact ⟨rfl, _, updO_known hkn, ⟨b1102, o1103, hA1105, rfl⟩⟩
      ·refine Owe.light K [1] K (all_cons ?_ all_nil)
       ·rintro ρ' w' hs hah ⟨⟨q1108, -⟩, hs1107⟩
        obtain ⟨b1110, o1111, hA1112, e26⟩ := hah 15 26 K
        have e21 := hah 10 21 K
        have hkn : Known ρ' [(26, (.pointer (some ⟨b1110, (o1111 + Int.toNat (IntKind.wrap .i64 (v423 - 1)) * eTen.sz), none⟩))), (21, (.bool true))] := ⟨e26, (Eq.trans e21 (congrArg Value.bool hb1051)), trivial⟩
        refine Step.known _ hkn ?_
        refine Step.run (k := 16) (v := (.pointer (some ⟨b1110, (o1111 + Int.toNat (IntKind.wrap .i64 (v423 - 1)) * eTen.sz), none⟩))) K ?_
        exact ⟨rfl, _, updO_known hkn, ⟨b1110, o1111, hA1112, rfl⟩⟩
      ·refine Owe.light K [1] K (all_cons ?_ all_nil)
       ·rintro ρ' w' hs hah ⟨⟨q1114, -⟩, hs1113⟩
        obtain ⟨b1116, o1117, hA1118, e27⟩ := hah 16 27 K
        have e21 := hah 10 21 K
        have hkn : Known ρ' [(27, (.pointer (some ⟨b1116, (o1117 + Int.toNat (IntKind.wrap .i64 (v423 - 1)) * eTen.sz), none⟩))), (21, (.bool true))] := ⟨e27, (Eq.trans e21 (congrArg Value.bool hb1051)), trivial⟩
        refine Step.known _ hkn ?_
        refine Step.cell (t := 9) (x := (.tmp 27)) (b := b1116) (off := (o1117 + Int.toNat (IntKind.wrap .i64 (v423 - 1)) * eTen.sz)) (v := (.string ⟨List.toArray (stT y1056).1⟩)) (d := (some 28)) (k := 17) K rfl K K (elem_cell (e := eTen) (rdt_cells (RdT.sp (ds_rd hr8) hs1113) hA1118 hp1053 hq1054) hx1055 (j := 0) rfl) ?_
        exact ⟨rfl, _, updO_known hkn, rfl⟩
      ·exact Owe.run K [(1, (pt g10 0)), (21, (.bool true))] ⟨gS K K, gB 10 K (decide (v423 > 0)) K hb1051, trivial⟩ (pt g10 4) (fun _ _ => K) rfl
      ·refine Owe.light K [1] K (all_cons ?_ all_nil)
       ·rintro ρ' w' hs hah ⟨⟨q1120, -⟩, hs1119⟩
        have e29 := hah 18 29 K
        have e21 := hah 10 21 K
        have hkn : Known ρ' [(29, (pt g10 4)), (21, (.bool true))] := ⟨e29, (Eq.trans e21 (congrArg Value.bool hb1051)), trivial⟩
        refine Step.known _ hkn ?_
        refine Step.load (t := 22) (x := (.tmp 29)) (g := g10) (off := 4) (i := 0) (v := (.slice A6 (List.length (List.map stT d9)) c7)) (d := (some 30)) (k := 19) K rfl K hs1119 rfl K ?_
        exact ⟨rfl, _, updO_known hkn, rfl⟩
      ·exact Owe.run K [(3, (.int .i64 v423)), (21, (.bool true))] ⟨gS K K, gB 10 K (decide (v423 > 0)) K hb1051, trivial⟩ (.int .i64 v423) (fun _ _ => K) rfl
      ·refine Owe.light K [1] K (all_cons ?_ all_nil)
       ·rintro ρ' w' hs hah ⟨⟨q1123, -⟩, hs1122⟩
        have e30 := hah 19 30 K
        have e31 := hah 20 31 K
        have e21 := hah 10 21 K
        have hkn : Known ρ' [(30, (.slice A6 (List.length (List.map stT d9)) c7)), (31, (.int .i64 v423)), (21, (.bool true))] := ⟨e30, e31, (Eq.trans e21 (congrArg Value.bool hb1051)), trivial⟩
        refine Step.known _ hkn ?_
        refine Step.elemM stT (e := eTen) (l := d9) (A := A6) (c := c7) (T := 22) (E := 45) (x := (.tmp 30)) (ix := (.tmp 31)) (ki := .i64) (iz := v423) (d := (some 32)) (k := 21) K rfl K K K K (RdT.sp (ds_rd hr8) hs1122) hp1063 hq1064 ?_
        intro b1125 o1126 hA1128 hb1129 hc1127
        exact ⟨rfl, _, updO_known hkn, ⟨b1125, o1126, hA1128, rfl⟩⟩
      ·refine Owe.light K [1] K (all_cons ?_ all_nil)
       ·rintro ρ' w' hs hah ⟨⟨q1131, -⟩, hs1130⟩
        obtain ⟨b1133, o1134, hA1135, e32⟩ := hah 21 32 K
        have e21 := hah 10 21 K
        have hkn : Known ρ' [(32, (.pointer (some ⟨b1133, (o1134 + Int.toNat v423 * eTen.sz), none⟩))), (21, (.bool true))] := ⟨e32, (Eq.trans e21 (congrArg Value.bool hb1051)), trivial⟩
        refine Step.known _ hkn ?_
        refine Step.run (k := 22) (v := (.pointer (some ⟨b1133, (o1134 + Int.toNat v423 * eTen.sz), none⟩))) K ?_
        exact ⟨rfl, _, updO_known hkn, ⟨b1133, o1134, hA1135, rfl⟩⟩
      ·refine Owe.light K [1] K (all_cons ?_ all_nil)
       ·rintro ρ' w' hs hah ⟨⟨q1137, -⟩, hs1136⟩
        obtain ⟨b1139, o1140, hA1141, e33⟩ := hah 22 33 K
        have e21 := hah 10 21 K
        have hkn : Known ρ' [(33, (.pointer (some ⟨b1139, (o1140 + Int.toNat v423 * eTen.sz), none⟩))), (21, (.bool true))] := ⟨e33, (Eq.trans e21 (congrArg Value.bool hb1051)), trivial⟩
        refine Step.known _ hkn ?_
        refine Step.cell (t := 9) (x := (.tmp 33)) (b := b1139) (off := (o1140 + Int.toNat v423 * eTen.sz)) (v := (.string ⟨List.toArray (stT y1066).1⟩)) (d := (some 34)) (k := 23) K rfl K K (elem_cell (e := eTen) (rdt_cells (RdT.sp (ds_rd hr8) hs1136) hA1141 hp1063 hq1064) hx1065 (j := 0) rfl) ?_
        exact ⟨rfl, _, updO_known hkn, rfl⟩
      ·refine Owe.light K [1] K (all_cons ?_ all_nil)
       ·rintro ρ' w' hs hah ⟨⟨q1143, -⟩, hs1142⟩
        have e28 := hah 17 28 K
        have e34 := hah 23 34 K
        have e21 := hah 10 21 K
        have hkn : Known ρ' [(28, (.string ⟨List.toArray (stT y1056).1⟩)), (34, (.string ⟨List.toArray (stT y1066).1⟩)), (21, (.bool true))] := ⟨e28, e34, (Eq.trans e21 (congrArg Value.bool hb1051)), trivial⟩
        refine Step.known _ hkn ?_
        refine Step.strOp (op := .geq) (T := 9) (T' := 9) (x := (.tmp 28)) (y := (.tmp 34)) (a := (stT y1056).1) (b := (stT y1066).1) (r := (.bool (!(Op.bytesLess (stT y1056).1 (stT y1066).1)))) (d := (some 35)) (k := 24) K rfl K K rfl ?_
        exact ⟨rfl, _, updO_known hkn, rfl⟩
      ·exact Owe.run K [(21, (.bool true)), (35, (.bool (!(Op.bytesLess (stT y1056).1 (stT y1066).1)))), (18, (.bool false))] ⟨gB 10 K (decide (v423 > 0)) K hb1051, gA 24 K K, gB 7 K (!z1016) K hb1022, trivial⟩ (.bool (!(Op.bytesLess (stT y1056).1 (stT y1066).1))) (fun _ _ => K) rfl
      ·exact Owe.run K [(18, (.bool false)), (36, (.bool (!(Op.bytesLess (stT y1056).1 (stT y1066).1))))] ⟨gB 7 K (!z1016) K hb1022, gA 25 K K, trivial⟩ (.bool (!(Op.bytesLess (stT y1056).1 (stT y1066).1))) (fun _ _ => K) rfl
      ·rintro ρ' w' hs hf ⟨⟨q1146, -⟩, hs1145⟩
       refine postKnown [(1, (pt g10 0)), (3, (.int .i64 v423)), (37, (.bool (!(Op.bytesLess (stT y1056).1 (stT y1066).1))))] ⟨(hs 1 K).trans K, (hs 3 K).trans K, hf 26 37 K, trivial⟩ ?_
       obtain ⟨w1148, hww1148⟩ : ∃ x, w' = x := ⟨_, rfl⟩
       rw [hww1148] at hs1145 ⊢
       exact ⟨(!(Op.bytesLess (stT y1056).1 (stT y1066).1)), ⟨K, K, K, trivial⟩, SP.sel hs1145 [0] rfl rfl, H⟩
     ·have H := cf H hb1051
      refine At.stages K K K K K [GEq (pt g10 4), GEq (.slice A6 (List.length (List.map stT d9)) c7), GEq (.int .i64 v423), GElem0 A6 eTen.sz v423, GEq (.agg #[(.string ⟨List.toArray (stT y1010).1⟩), (.int .i64 (stT y1010).2.1), (.int .i64 (stT y1010).2.2.1), (.slice y1010.2.2.2.1.1 (List.length (stT y1010).2.2.2.1) y1010.2.2.2.1.2.1), (.slice y1010.2.2.2.2.1 (List.length (stT y1010).2.2.2.2) y1010.2.2.2.2.2.1)]), GEq (.bool z1016), GEq (.bool (!z1016)), GEq (.bool (!z1016)), GEq (.int .i64 v423), GEq (.bool (decide (v423 > 0))), GEq (.bool (decide (v423 > 0))), GEq undef, GEq undef, GEq undef, GEq undef, GEq undef, GEq undef, GEq undef, GEq undef, GEq undef, GEq undef, GEq undef, GEq undef, GEq undef, GEq undef, GEq (.bool false), GEq (.bool false)] [5] [([], fun vs w => VL vs [] ∧ SP [] w0 w [boxE g10 24 #[(.int .i64 pWait1), (.int .i64 pGrace2), (.int .i64 pIdle3), (.int .i64 pLease4), (.slice A6 (List.length (List.map stT d9)) c7)]]), ([5], fun vs w => VL vs [(.bool z1016)] ∧ SP [] w0 w [boxE g10 24 #[(.int .i64 pWait1), (.int .i64 pGrace2), (.int .i64 pIdle3), (.int .i64 pLease4), (.slice A6 (List.length (List.map stT d9)) c7)]])] (N := 27) K ⟨K, Nat.zero_lt_succ _⟩ (show VL [] [] ∧ SP [] w0 w421.drew [boxE g10 24 #[(.int .i64 pWait1), (.int .i64 pGrace2), (.int .i64 pIdle3), (.int .i64 pLease4), (.slice A6 (List.length (List.map stT d9)) c7)]] from ⟨trivial, SP.drew hs422⟩) ⟨⟨⟨⟨⟨⟨⟨⟨⟨⟨⟨⟨⟨⟨⟨⟨⟨⟨⟨⟨⟨⟨⟨⟨⟨⟨⟨trivial, ?_⟩, ?_⟩, ?_⟩, ?_⟩, ?_⟩, ?_⟩, ?_⟩, ?_⟩, ?_⟩, ?_⟩, ?_⟩, ?_⟩, ?_⟩, ?_⟩, ?_⟩, ?_⟩, ?_⟩, ?_⟩, ?_⟩, ?_⟩, ?_⟩, ?_⟩, ?_⟩, ?_⟩, ?_⟩, ?_⟩, ?_⟩ (last := 1) K ?_
      ·exact Owe.run K [(1, (pt g10 0))] ⟨gS K K, trivial⟩ (pt g10 4) (fun _ _ => K) rfl
      ·refine Owe.light K [0] K (all_cons ?_ all_nil)
       ·rintro ρ' w' hs hah ⟨hvl1154, hs1153⟩
        have hkn : Known ρ' [(11, (pt g10 4))] := ⟨hah 0 11 K, trivial⟩
        refine Step.known _ hkn ?_
        refine Step.load (t := 22) (x := (.tmp 11)) (g := g10) (off := 4) (i := 0) (v := (.slice A6 (List.length (List.map stT d9)) c7)) (d := (some 12)) (k := 1) K rfl K hs1153 rfl K ?_
        exact ⟨rfl, _, updO_known hkn, rfl⟩
      ·exact Owe.run K [(3, (.int .i64 v423))] ⟨gS K K, trivial⟩ (.int .i64 v423) (fun _ _ => K) rfl
      ·refine Owe.light K [0] K (all_cons ?_ all_nil)
       ·rintro ρ' w' hs hah ⟨hvl1156, hs1155⟩
        have hkn : Known ρ' [(12, (.slice A6 (List.length (List.map stT d9)) c7)), (13, (.int .i64 v423))] := ⟨hah 1 12 K, hah 2 13 K, trivial⟩
        refine Step.known _ hkn ?_
        refine Step.elemM stT (e := eTen) (l := d9) (A := A6) (c := c7) (T := 22) (E := 45) (x := (.tmp 12)) (ix := (.tmp 13)) (ki := .i64) (iz := v423) (d := (some 14)) (k := 3) K rfl K K K K (RdT.sp (ds_rd hr8) hs1155) hp1007 hq1008 ?_
        intro b1157 o1158 hA1160 hb1161 hc1159
        exact ⟨rfl, _, updO_known hkn, ⟨b1157, o1158, hA1160, rfl⟩⟩
      ·refine Owe.light K [0] K (all_cons ?_ all_nil)
       ·rintro ρ' w' hs hah ⟨hvl1163, hs1162⟩
        obtain ⟨b1164, o1165, hA1166, e14⟩ := hah 3 14 K
        have hkn : Known ρ' [(14, (.pointer (some ⟨b1164, (o1165 + Int.toNat v423 * eTen.sz), none⟩)))] := ⟨e14, trivial⟩
        refine Step.known _ hkn ?_
        refine Step.cells (t := 45) (x := (.tmp 14)) (b := b1164) (off := (o1165 + Int.toNat v423 * eTen.sz)) (xs := [(.string ⟨List.toArray (stT y1010).1⟩), (.int .i64 (stT y1010).2.1), (.int .i64 (stT y1010).2.2.1), (.slice y1010.2.2.2.1.1 (List.length (stT y1010).2.2.2.1) y1010.2.2.2.1.2.1), (.slice y1010.2.2.2.2.1 (List.length (stT y1010).2.2.2.2) y1010.2.2.2.2.2.1)]) (d := (some 15)) (k := 4) K rfl K K K (elem_cells0 (e := eTen) (rdt_cells (RdT.sp (ds_rd hr8) hs1162) hA1166 hp1007 hq1008) hx1009 rfl) ?_
        exact ⟨rfl, _, updO_known hkn, rfl⟩
      ·refine Owe.heavy K [(0, 1)] K (all_cons ⟨K, K, ?_⟩ all_nil)
       ·rintro ρ' w' hs hah ⟨hvl1168, hs1167⟩
        have hkn : Known ρ' [(15, (.agg #[(.string ⟨List.toArray (stT y1010).1⟩), (.int .i64 (stT y1010).2.1), (.int .i64 (stT y1010).2.2.1), (.slice y1010.2.2.2.1.1 (List.length (stT y1010).2.2.2.1) y1010.2.2.2.1.2.1), (.slice y1010.2.2.2.2.1 (List.length (stT y1010).2.2.2.2) y1010.2.2.2.2.2.1)]))] := ⟨hah 4 15 K, trivial⟩
        refine Step.known _ hkn ?_
        refine Step.callF (f := 38) (fo := (.func 38)) (xs := #[(.tmp 15)]) (tys := #[45]) (first := #[]) (captured := #[]) (d := (some 16)) (k := 5) K rfl K K Tryd.call38 (L_subwayref09_rightTenant_walk y1010.2.2.2.1.1 y1010.2.2.2.1.2.1 y1010.2.2.2.2.1 y1010.2.2.2.2.2.1 (stT y1010).1 (stT y1010).2.1 (stT y1010).2.2.1 (stT y1010).2.2.2.1 (stT y1010).2.2.2.2 w' (RdT.sp (ds_rd (dp1 (dp2 (dp2 (dp2 (ds_el hr8 hx1009)))))) hs1167) (RdT.sp (ds_rd (dp2 (dp2 (dp2 (dp2 (ds_el hr8 hx1009)))))) hs1167) z1016 hz1017) ?_
        rintro e w1169 ⟨rfl, hs1170⟩
        refine ⟨_, rfl, ?_⟩
        have hs1172 : SP [] w0 w1169 [boxE g10 24 #[(.int .i64 pWait1), (.int .i64 pGrace2), (.int .i64 pIdle3), (.int .i64 pLease4), (.slice A6 (List.length (List.map stT d9)) c7)]] := SP.call hs1167 hs1170
        clear hs1170
        refine ⟨_, updO_known hkn, rfl, ?_⟩
        exact (And.intro (And.intro rfl (trivial)) (hs1172))
      ·exact Owe.run K [(16, (.bool z1016))] ⟨gA 5 K K, trivial⟩ (.bool (!z1016)) (fun _ _ => K) rfl
      ·exact Owe.run K [(17, (.bool (!z1016)))] ⟨gA 6 K K, trivial⟩ (.bool (!z1016)) (fun _ _ => K) rfl
      ·exact Owe.run K [(3, (.int .i64 v423)), (18, (.bool false))] ⟨gS K K, gB 7 K (!z1016) K hb1022, trivial⟩ (.int .i64 v423) (fun _ _ => K) rfl
      ·exact Owe.run K [(19, (.int .i64 v423)), (18, (.bool false))] ⟨gA 8 K K, gB 7 K (!z1016) K hb1022, trivial⟩ (.bool (decide (v423 > 0))) (fun _ _ => K) rfl
      ·exact Owe.run K [(20, (.bool (decide (v423 > 0)))), (18, (.bool false))] ⟨gA 9 K K, gB 7 K (!z1016) K hb1022, trivial⟩ (.bool (decide (v423 > 0))) (fun _ _ => K) rfl
      ·exact Owe.skip K [(21, (.bool false))] ⟨gB 10 K (decide (v423 > 0)) K hb1051, trivial⟩ (some 22) (fun _ => K) K rfl
      ·exact Owe.skip K [(21, (.bool false))] ⟨gB 10 K (decide (v423 > 0)) K hb1051, trivial⟩ (some 23) (fun _ => K) K rfl
      ·exact Owe.skip K [(21, (.bool false))] ⟨gB 10 K (decide (v423 > 0)) K hb1051, trivial⟩ (some 24) (fun _ => K) K rfl
      ·exact Owe.skip K [(21, (.bool false))] ⟨gB 10 K (decide (v423 > 0)) K hb1051, trivial⟩ (some 25) (fun _ => K) K rfl
      ·exact Owe.skip K [(21, (.bool false))] ⟨gB 10 K (decide (v423 > 0)) K hb1051, trivial⟩ (some 26) (fun _ => K) K rfl
      ·exact Owe.skip K [(21, (.bool false))] ⟨gB 10 K (decide (v423 > 0)) K hb1051, trivial⟩ (some 27) (fun _ => K) K rfl
      ·exact Owe.skip K [(21, (.bool false))] ⟨gB 10 K (decide (v423 > 0)) K hb1051, trivial⟩ (some 28) (fun _ => K) K rfl
      ·exact Owe.skip K [(21, (.bool false))] ⟨gB 10 K (decide (v423 > 0)) K hb1051, trivial⟩ (some 29) (fun _ => K) K rfl
      ·exact Owe.skip K [(21, (.bool false))] ⟨gB 10 K (decide (v423 > 0)) K hb1051, trivial⟩ (some 30) (fun _ => K) K rfl
      ·exact Owe.skip K [(21, (.bool false))] ⟨gB 10 K (decide (v423 > 0)) K hb1051, trivial⟩ (some 31) (fun _ => K) K rfl
      ·exact Owe.skip K [(21, (.bool false))] ⟨gB 10 K (decide (v423 > 0)) K hb1051, trivial⟩ (some 32) (fun _ => K) K rfl
      ·exact Owe.skip K [(21, (.bool false))] ⟨gB 10 K (decide (v423 > 0)) K hb1051, trivial⟩ (some 33) (fun _ => K) K rfl
      ·exact Owe.skip K [(21, (.bool false))] ⟨gB 10 K (decide (v423 > 0)) K hb1051, trivial⟩ (some 34) (fun _ => K) K rfl
      ·exact Owe.skip K [(21, (.bool false))] ⟨gB 10 K (decide (v423 > 0)) K hb1051, trivial⟩ (some 35) (fun _ => K) K rfl
      ·exact Owe.run K [(21, (.bool false)), (35, undef), (18, (.bool false))] ⟨gB 10 K (decide (v423 > 0)) K hb1051, gA 24 K K, gB 7 K (!z1016) K hb1022, trivial⟩ (.bool false) (fun _ _ => K) rfl
      ·exact Owe.run K [(18, (.bool false)), (36, (.bool false))] ⟨gB 7 K (!z1016) K hb1022, gA 25 K K, trivial⟩ (.bool false) (fun _ _ => K) rfl
      ·rintro ρ' w' hs hf ⟨⟨q1174, -⟩, hs1173⟩
       refine postKnown [(1, (pt g10 0)), (3, (.int .i64 v423)), (37, (.bool false))] ⟨(hs 1 K).trans K, (hs 3 K).trans K, hf 26 37 K, trivial⟩ ?_
       obtain ⟨w1176, hww1176⟩ : ∃ x, w' = x := ⟨_, rfl⟩
       rw [hww1176] at hs1173 ⊢
       exact ⟨false, ⟨K, K, K, trivial⟩, SP.sel hs1173 [0] rfl rfl, H⟩
   ·rintro ρ w1003 ⟨v1002, hk, hs1004, H⟩
    unfold L_subwayref09_Right_k6 at H
    first | refine At.known [(1, (pt g10 0)), (3, (.int .i64 v423)), (37, (.bool v1002))] hk ?_ | rw [← known_updL (l := [(1, (pt g10 0)), (3, (.int .i64 v423)), (37, (.bool v1002))]) hk]
    refine At.cd K (o := (.tmp 37)) K (b := v1002) K (fun hb1005 => ?_) (fun hb1005 => ?_)
    ·have H := ct H hb1005
     refine At.sq K ?_
     refine At.region K K ?_
     refine In.run' 1 (k' := 1) rfl [(2, (.bool false))] K ?_
     refine In.fin K ?_
     refine At.ret K ?_
     refine ⟨(.bool false), K, ?_⟩
     obtain rfl := some_elim H
     exact ⟨rfl, SP.sel hs1004 [] rfl rfl⟩
    ·have H := cf H hb1005
     refine At.skip K ?_
     refine At.region K K ?_
     refine In.run' 3 (k' := 3) rfl [(9, (.int .i64 v423)), (10, (.int .i64 (IntKind.wrap .i64 (v423 + 1)))), (3, (.int .i64 (IntKind.wrap .i64 (v423 + 1))))] K ?_
     refine In.fin K ?_
     exact ⟨(IntKind.wrap .i64 (v423 + 1)), ⟨K, K, trivial⟩, SP.sel hs1004 [0] rfl rfl, H⟩
  ·have H := cf H hb830
   refine At.exit K (id := 0) K ?_
   refine At.sq K ?_
   refine At.join (fun ρ w => ∃ (v1205 : Bool), Known ρ [(2, (.bool v1205))] ∧ SP [] w0 w [] ∧ L_subwayref09_Right_k7 (L_subwayref09_Right_l3 pWait1 pGrace2 pIdle3 pLease4 (List.map stT d9) f5) v1205 = some r) ?_ ?_
   ·refine At.region K K ?_
    refine In.run' 1 (k' := 1) rfl [(38, (pt g10 0))] K ?_
    refine In.step (k' := 2) rfl K ?_
    refine Step.load (t := 2) (x := (.tmp 38)) (g := g10) (off := 0) (i := 0) (v := (.int .i64 pWait1)) (d := (some 39)) (k := 1) K rfl K hs422 rfl K ?_
    obtain ⟨z1208, hz1209, H⟩ := bind_elim H
    refine In.step (k' := 3) rfl K ?_
    refine Step.callF (f := 39) (fo := (.func 39)) (xs := #[(.tmp 39)]) (tys := #[2]) (first := #[]) (captured := #[]) (d := (some 40)) (k := 2) K rfl K K Tryd.call39 (L_subwayref09_time_walk  pWait1 w421  z1208 hz1209) ?_
    rintro e w1210 ⟨rfl, hs1211⟩
    refine ⟨_, rfl, ?_⟩
    have hs1213 : SP [] w0 w1210 [boxE g10 24 #[(.int .i64 pWait1), (.int .i64 pGrace2), (.int .i64 pIdle3), (.int .i64 pLease4), (.slice A6 (List.length (List.map stT d9)) c7)]] := SP.call hs422 hs1211
    clear hs1211
    refine In.run' 1 (k' := 4) rfl [(41, (.bool z1208))] K ?_
    refine In.guard (t := 41) (b := z1208) K (fun hb1214 => ?_) (fun hb1214 => ?_)
    ·have H := ct H hb1214
     refine In.run' 1 (k' := 5) rfl [(42, (pt g10 1))] K ?_
     refine In.step (k' := 6) rfl K ?_
     refine Step.load (t := 2) (x := (.tmp 42)) (g := g10) (off := 1) (i := 0) (v := (.int .i64 pGrace2)) (d := (some 43)) (k := 5) K rfl K hs1213 rfl K ?_
     obtain ⟨z1215, hz1216, H⟩ := bind_elim H
     refine In.step (k' := 7) rfl K ?_
     refine Step.callF (f := 39) (fo := (.func 39)) (xs := #[(.tmp 43)]) (tys := #[2]) (first := #[]) (captured := #[]) (d := (some 44)) (k := 6) K rfl K K Tryd.call39 (L_subwayref09_time_walk  pGrace2 w1210  z1215 hz1216) ?_
     rintro e w1217 ⟨rfl, hs1218⟩
     refine ⟨_, rfl, ?_⟩
     have hs1220 : SP [] w0 w1217 [boxE g10 24 #[(.int .i64 pWait1), (.int .i64 pGrace2), (.int .i64 pIdle3), (.int .i64 pLease4), (.slice A6 (List.length (List.map stT d9)) c7)]] := SP.call hs1213 hs1218
     clear hs1218
     refine In.run' 2 (k' := 9) rfl [(45, (.bool z1215)), (46, (.bool z1215))] K ?_
     refine In.guard (t := 46) (b := z1215) K (fun hb1221 => ?_) (fun hb1221 => ?_)
     ·have H := ct H hb1221
      refine In.run' 1 (k' := 10) rfl [(47, (pt g10 2))] K ?_
      refine In.step (k' := 11) rfl K ?_
      refine Step.load (t := 2) (x := (.tmp 47)) (g := g10) (off := 2) (i := 0) (v := (.int .i64 pIdle3)) (d := (some 48)) (k := 10) K rfl K hs1220 rfl K ?_
      obtain ⟨z1222, hz1223, H⟩ := bind_elim H
      refine In.step (k' := 12) rfl K ?_
      refine Step.callF (f := 39) (fo := (.func 39)) (xs := #[(.tmp 48)]) (tys := #[2]) (first := #[]) (captured := #[]) (d := (some 49)) (k := 11) K rfl K K Tryd.call39 (L_subwayref09_time_walk  pIdle3 w1217  z1222 hz1223) ?_
      rintro e w1224 ⟨rfl, hs1225⟩
      refine ⟨_, rfl, ?_⟩
      have hs1227 : SP [] w0 w1224 [boxE g10 24 #[(.int .i64 pWait1), (.int .i64 pGrace2), (.int .i64 pIdle3), (.int .i64 pLease4), (.slice A6 (List.length (List.map stT d9)) c7)]] := SP.call hs1220 hs1225
      clear hs1225
      refine In.run' 2 (k' := 14) rfl [(50, (.bool z1222)), (51, (.bool z1222))] K ?_
      refine In.guard (t := 51) (b := z1222) K (fun hb1228 => ?_) (fun hb1228 => ?_)
      ·have H := ct H hb1228
       refine In.run' 1 (k' := 15) rfl [(52, (pt g10 3))] K ?_
       refine In.step (k' := 16) rfl K ?_
       refine Step.load (t := 2) (x := (.tmp 52)) (g := g10) (off := 3) (i := 0) (v := (.int .i64 pLease4)) (d := (some 53)) (k := 15) K rfl K hs1227 rfl K ?_
       obtain ⟨z1229, hz1230, H⟩ := bind_elim H
       refine In.step (k' := 17) rfl K ?_
       refine Step.callF (f := 39) (fo := (.func 39)) (xs := #[(.tmp 53)]) (tys := #[2]) (first := #[]) (captured := #[]) (d := (some 54)) (k := 16) K rfl K K Tryd.call39 (L_subwayref09_time_walk  pLease4 w1224  z1229 hz1230) ?_
       rintro e w1231 ⟨rfl, hs1232⟩
       refine ⟨_, rfl, ?_⟩
       have hs1234 : SP [] w0 w1231 [boxE g10 24 #[(.int .i64 pWait1), (.int .i64 pGrace2), (.int .i64 pIdle3), (.int .i64 pLease4), (.slice A6 (List.length (List.map stT d9)) c7)]] := SP.call hs1227 hs1232
       clear hs1232
       refine In.run' 2 (k' := 19) rfl [(55, (.bool z1229)), (56, (.bool z1229))] K ?_
       refine In.guard (t := 56) (b := z1229) K (fun hb1235 => ?_) (fun hb1235 => ?_)
       ·have H := ct H hb1235
        refine In.run' 1 (k' := 20) rfl [(57, (pt g10 4))] K ?_
        refine In.step (k' := 21) rfl K ?_
        refine Step.load (t := 22) (x := (.tmp 57)) (g := g10) (off := 4) (i := 0) (v := (.slice A6 (List.length (List.map stT d9)) c7)) (d := (some 58)) (k := 20) K rfl K hs1234 rfl K ?_
        refine In.run' 4 (k' := 25) rfl [(59, (.int .i64 ((List.length (List.map stT d9) : Nat) : Int))), (60, (.bool (decide (((List.length (List.map stT d9) : Nat) : Int) ≤ 8)))), (61, (.bool (decide (((List.length (List.map stT d9) : Nat) : Int) ≤ 8)))), (2, (.bool (decide (((List.length (List.map stT d9) : Nat) : Int) ≤ 8))))] K ?_
        refine In.fin K ?_
        exact ⟨(decide (((List.length (List.map stT d9) : Nat) : Int) ≤ 8)), ⟨K, trivial⟩, SP.sel hs1234 [] rfl rfl, H⟩
       ·have H := cf H hb1235
        refine In.run' 6 (k' := 25) rfl [(57, undef), (58, undef), (59, undef), (60, undef), (61, (.bool false)), (2, (.bool false))] K ?_
        refine In.fin K ?_
        exact ⟨false, ⟨K, trivial⟩, SP.sel hs1234 [] rfl rfl, H⟩
      ·have H := cf H hb1228
       refine In.run' 11 (k' := 25) rfl [(52, undef), (53, undef), (54, undef), (55, (.bool false)), (56, (.bool false)), (57, undef), (58, undef), (59, undef), (60, undef), (61, (.bool false)), (2, (.bool false))] K ?_
       refine In.fin K ?_
       exact ⟨false, ⟨K, trivial⟩, SP.sel hs1227 [] rfl rfl, H⟩
     ·have H := cf H hb1221
      refine In.run' 16 (k' := 25) rfl [(47, undef), (48, undef), (49, undef), (50, (.bool false)), (51, (.bool false)), (52, undef), (53, undef), (54, undef), (55, (.bool false)), (56, (.bool false)), (57, undef), (58, undef), (59, undef), (60, undef), (61, (.bool false)), (2, (.bool false))] K ?_
      refine In.fin K ?_
      exact ⟨false, ⟨K, trivial⟩, SP.sel hs1220 [] rfl rfl, H⟩
    ·have H := cf H hb1214
     refine In.run' 21 (k' := 25) rfl [(42, undef), (43, undef), (44, undef), (45, (.bool false)), (46, (.bool false)), (47, undef), (48, undef), (49, undef), (50, (.bool false)), (51, (.bool false)), (52, undef), (53, undef), (54, undef), (55, (.bool false)), (56, (.bool false)), (57, undef), (58, undef), (59, undef), (60, undef), (61, (.bool false)), (2, (.bool false))] K ?_
     refine In.fin K ?_
     exact ⟨false, ⟨K, trivial⟩, SP.sel hs1213 [] rfl rfl, H⟩
   ·rintro ρ w1206 ⟨v1205, hk, hs1207, H⟩
    unfold L_subwayref09_Right_k7 at H
    first | refine At.known [(2, (.bool v1205))] hk ?_ | rw [← known_updL (l := [(2, (.bool v1205))]) hk]
    refine At.ret K ?_
    refine ⟨(.bool v1205), K, ?_⟩
    obtain rfl := some_elim H
    exact ⟨rfl, SP.sel hs1207 [] rfl rfl⟩
 ·exact ⟨0, ⟨K, K, trivial⟩, SP.sel hs13 [0] rfl rfl, H⟩
/-! L_subwayref09_Find -/
def L_subwayref09_Find_b1 (rec1 : Int → Option ((List UInt8) × Int × Int × (List (Int × Int)) × (List ((List UInt8) × (List UInt8) × Int)) × Bool)) (pTenants5 : (List TenantL)) (p10 : (List UInt8)) (v56 : Int) : Option ((List UInt8) × Int × Int × (List (Int × Int)) × (List ((List UInt8) × (List UInt8) × Int)) × Bool) :=
  (cond (decide (v56 < ((List.length pTenants5 : Nat) : Int))) ((idx pTenants5 v56).bind fun x86 => (cond (x86.1 == p10) ((idx pTenants5 v56).bind fun x97 => (some (x97.1, x97.2.1, x97.2.2.1, x97.2.2.2.1, x97.2.2.2.2, true))) (rec1 (IntKind.wrap .i64 (v56 + 1))))) (some (([] : List UInt8), 0, 0, ([] : List (Int × Int)), ([] : List ((List UInt8) × (List UInt8) × Int)), false)))
def L_subwayref09_Find_l1 (pTenants5 : (List TenantL)) (p10 : (List UInt8)) : Nat → Int → Option ((List UInt8) × Int × Int × (List (Int × Int)) × (List ((List UInt8) × (List UInt8) × Int)) × Bool)
  | 0, _ => none
  | f + 1, v56 => L_subwayref09_Find_b1  (L_subwayref09_Find_l1 pTenants5 p10 f) pTenants5 p10 v56
def L_subwayref09_Find (pWait1 : Int) (pGrace2 : Int) (pIdle3 : Int) (pLease4 : Int) (pTenants5 : (List TenantL)) (p10 : (List UInt8)) : Option ((List UInt8) × Int × Int × (List (Int × Int)) × (List ((List UInt8) × (List UInt8) × Int)) × Bool) :=
  (L_subwayref09_Find_l1 pTenants5 p10 fuel 0)
set_option maxRecDepth 100000 in
set_option maxHeartbeats 4000000 in
theorem L_subwayref09_Find_walk {R : World → Prop} (A6 : Option Addr) (c7 : Nat) (pWait1 : Int) (pGrace2 : Int) (pIdle3 : Int) (pLease4 : Int) (d9 : (List TenantD)) (p10 : (List UInt8)) (w0 : World) (hR : ∀ w, Below w0.heap.size w0 w → R w) (hr8 : ∀ w, R w → (dDS eTen dTen).ok w (A6, c7, d9)) (r : ((List UInt8) × Int × Int × (List (Int × Int)) × (List ((List UInt8) × (List UInt8) × Int)) × Bool)) (H : L_subwayref09_Find pWait1 pGrace2 pIdle3 pLease4 (List.map stT d9) p10 = some r) :
  Calls Tryd.prog 22 #[(.agg #[(.int .i64 pWait1), (.int .i64 pGrace2), (.int .i64 pIdle3), (.int .i64 pLease4), (.slice A6 (List.length (List.map stT d9)) c7)]), (.string ⟨List.toArray p10⟩)] w0 (fun e w' => ∃ (A11 : Option Addr) (c12 : Nat) (A14 : Option Addr) (c15 : Nat), e = .returned (.tuple #[(.agg #[(.string ⟨List.toArray r.1⟩), (.int .i64 r.2.1), (.int .i64 r.2.2.1), (.slice A11 (List.length r.2.2.2.1) c12), (.slice A14 (List.length r.2.2.2.2.1) c15)]), (.bool r.2.2.2.2.2)]) ∧ (∀ w, R w → RdT (ePair (eInt .u32) (eInt .i64)) w A11 c12 r.2.2.2.1) ∧ (∀ w, R w → RdT (ePair eStr (ePair eStr (eInt .i64))) w A14 c15 r.2.2.2.2.1) ∧ SP [] w0 w' []) := by
 unfold L_subwayref09_Find at H
 refine calls_go (n := 28) Tryd.func22 K K K ?_
 have hs0 := SP.start [] w0
 refine At.sq K ?_
 refine At.region K K ?_
 refine In.step (k' := 1) rfl K ?_
 refine Step.box (t := 24) (x := (.tmp 0)) (v := (.agg #[(.int .i64 pWait1), (.int .i64 pGrace2), (.int .i64 pIdle3), (.int .i64 pLease4), (.slice A6 (List.length (List.map stT d9)) c7)])) (d := (some 2)) (k := 0) K rfl K hs0 ?_
 intro g17 w18 (hs20 : SP [] w0 w18 [boxE g17 24 #[(.int .i64 pWait1), (.int .i64 pGrace2), (.int .i64 pIdle3), (.int .i64 pLease4), (.slice A6 (List.length (List.map stT d9)) c7)]])
 refine In.step (k' := 2) rfl K ?_
 refine Step.alloc (t := 45) (z := (.agg #[(.string ⟨List.toArray ([] : List UInt8)⟩), (.int .i64 0), (.int .i64 0), (.slice none (List.length ([] : List (Int × Int))) 0), (.slice none (List.length ([] : List ((List UInt8) × (List UInt8) × Int))) 0)])) (d := (some 4)) (k := 1) K rfl K hs20 ?_
 intro g21 w22 (hs24 : SP [] w0 w22 [boxE g17 24 #[(.int .i64 pWait1), (.int .i64 pGrace2), (.int .i64 pIdle3), (.int .i64 pLease4), (.slice A6 (List.length (List.map stT d9)) c7)], boxE g21 45 #[(.string ⟨List.toArray ([] : List UInt8)⟩), (.int .i64 0), (.int .i64 0), (.slice none (List.length ([] : List (Int × Int))) 0), (.slice none (List.length ([] : List ((List UInt8) × (List UInt8) × Int))) 0)]])
 refine In.run' 1 (k' := 3) rfl [(5, (.bool false))] K ?_
 refine In.fin K ?_
 refine At.sq K ?_
 refine At.sq K ?_
 refine At.region K K ?_
 refine In.run' 1 (k' := 1) rfl [(6, (.int .i64 0))] K ?_
 refine In.fin K ?_
 refine At.bk K (id := 0) K ?_
 refine At.lp K (fun f1 ρ w => ∃ (v56 : Int), Known ρ [(1, (.string ⟨List.toArray p10⟩)), (2, (pt g17 0)), (4, (pt g21 0)), (6, (.int .i64 v56))] ∧ SP [] w0 w [boxE g17 24 #[(.int .i64 pWait1), (.int .i64 pGrace2), (.int .i64 pIdle3), (.int .i64 pLease4), (.slice A6 (List.length (List.map stT d9)) c7)], boxE g21 45 #[(.string ⟨List.toArray ([] : List UInt8)⟩), (.int .i64 0), (.int .i64 0), (.slice none (List.length ([] : List (Int × Int))) 0), (.slice none (List.length ([] : List ((List UInt8) × (List UInt8) × Int))) 0)]] ∧ L_subwayref09_Find_l1 (List.map stT d9) p10 f1 v56 = some r) (by rintro ρ w ⟨v56, hk, hs, H⟩; cases H) ?_ fuel ?_
 ·rintro f1 ρ w54 ⟨v56, hk, hs55, H⟩
  refine At.known [(1, (.string ⟨List.toArray p10⟩)), (2, (pt g17 0)), (4, (pt g21 0)), (6, (.int .i64 v56))] hk ?_
  replace H := (show L_subwayref09_Find_b1 (L_subwayref09_Find_l1 (List.map stT d9) p10 f1) (List.map stT d9) p10 v56 = some r from H)
  unfold L_subwayref09_Find_b1 at H
  refine At.sq K ?_
  refine At.sq K ?_
  refine At.region K K ?_
  refine In.run' 2 (k' := 2) rfl [(7, (.int .i64 v56)), (8, (pt g17 4))] K ?_
  refine In.step (k' := 3) rfl K ?_
  refine Step.load (t := 22) (x := (.tmp 8)) (g := g17) (off := 4) (i := 0) (v := (.slice A6 (List.length (List.map stT d9)) c7)) (d := (some 9)) (k := 2) K rfl K hs55 rfl K ?_
  refine In.run' 2 (k' := 5) rfl [(10, (.int .i64 ((List.length (List.map stT d9) : Nat) : Int))), (11, (.bool (decide (v56 < ((List.length (List.map stT d9) : Nat) : Int)))))] K ?_
  refine In.fin K ?_
  refine At.cd K (o := (.tmp 11)) K (b := (decide (v56 < ((List.length (List.map stT d9) : Nat) : Int)))) K (fun hb85 => ?_) (fun hb85 => ?_)
  ·have H := ct H hb85
   refine At.skip K ?_
   refine At.sq K ?_
   refine At.bk K (id := 1) K ?_
   refine At.sq K ?_
   refine At.region K K ?_
   refine In.run' 1 (k' := 1) rfl [(14, (pt g17 4))] K ?_
   refine In.step (k' := 2) rfl K ?_
   refine Step.load (t := 22) (x := (.tmp 14)) (g := g17) (off := 4) (i := 0) (v := (.slice A6 (List.length (List.map stT d9)) c7)) (d := (some 15)) (k := 1) K rfl K hs55 rfl K ?_
   refine In.run' 1 (k' := 3) rfl [(16, (.int .i64 v56))] K ?_
   obtain ⟨y90, hp87, hq88, hx89, H⟩ := idxm_elim H
   refine In.step (k' := 4) rfl K ?_
   refine Step.elemM stT (e := eTen) (l := d9) (A := A6) (c := c7) (T := 22) (E := 45) (x := (.tmp 15)) (ix := (.tmp 16)) (ki := .i64) (iz := v56) (d := (some 17)) (k := 3) K rfl K K K K ((fun w hm => (ds_rd (hr8 w hm))) w54 (hR _ (SP.keeps hs55))) hp87 hq88 ?_
   intro b91 o92 hA94 hb95 hc93
   refine In.run' 1 (k' := 5) rfl [(18, (.pointer (some ⟨b91, (o92 + Int.toNat v56 * eTen.sz), none⟩)))] K ?_
   refine In.step (k' := 6) rfl K ?_
   refine Step.cell (t := 9) (x := (.tmp 18)) (b := b91) (off := (o92 + Int.toNat v56 * eTen.sz)) (v := (.string ⟨List.toArray (stT y90).1⟩)) (d := (some 19)) (k := 5) K rfl K K (elem_cell (e := eTen) (rdt_cells ((fun w hm => (ds_rd (hr8 w hm))) w54 (hR _ (SP.keeps hs55))) hA94 hp87 hq88) hx89 (j := 0) rfl) ?_
   refine In.run' 1 (k' := 7) rfl [(20, (.string ⟨List.toArray p10⟩))] K ?_
   refine In.step (k' := 8) rfl K ?_
   refine Step.strOp (op := .eql) (T := 9) (T' := 9) (x := (.tmp 19)) (y := (.tmp 20)) (a := (stT y90).1) (b := p10) (r := (.bool ((stT y90).1 == p10))) (d := (some 21)) (k := 7) K rfl K K rfl ?_
   refine In.fin K ?_
   refine At.cd K (o := (.tmp 21)) K (b := ((stT y90).1 == p10)) K (fun hb96 => ?_) (fun hb96 => ?_)
   ·have H := ct H hb96
    refine At.sq K ?_
    refine At.region K K ?_
    refine In.run' 1 (k' := 1) rfl [(22, (pt g17 4))] K ?_
    refine In.step (k' := 2) rfl K ?_
    refine Step.load (t := 22) (x := (.tmp 22)) (g := g17) (off := 4) (i := 0) (v := (.slice A6 (List.length (List.map stT d9)) c7)) (d := (some 23)) (k := 1) K rfl K hs55 rfl K ?_
    refine In.run' 1 (k' := 3) rfl [(24, (.int .i64 v56))] K ?_
    obtain ⟨y101, hp98, hq99, hx100, H⟩ := idxm_elim H
    refine In.step (k' := 4) rfl K ?_
    refine Step.elemM stT (e := eTen) (l := d9) (A := A6) (c := c7) (T := 22) (E := 45) (x := (.tmp 23)) (ix := (.tmp 24)) (ki := .i64) (iz := v56) (d := (some 25)) (k := 3) K rfl K K K K ((fun w hm => (ds_rd (hr8 w hm))) w54 (hR _ (SP.keeps hs55))) hp98 hq99 ?_
    intro b102 o103 hA105 hb106 hc104
    refine In.step (k' := 5) rfl K ?_
    refine Step.cells (t := 45) (x := (.tmp 25)) (b := b102) (off := (o103 + Int.toNat v56 * eTen.sz)) (xs := [(.string ⟨List.toArray (stT y101).1⟩), (.int .i64 (stT y101).2.1), (.int .i64 (stT y101).2.2.1), (.slice y101.2.2.2.1.1 (List.length (stT y101).2.2.2.1) y101.2.2.2.1.2.1), (.slice y101.2.2.2.2.1 (List.length (stT y101).2.2.2.2) y101.2.2.2.2.2.1)]) (d := (some 26)) (k := 4) K rfl K K K (elem_cells0 (e := eTen) (rdt_cells ((fun w hm => (ds_rd (hr8 w hm))) w54 (hR _ (SP.keeps hs55))) hA105 hp98 hq99) hx100 rfl) ?_
    refine In.step (k' := 6) rfl K ?_
    refine Step.store (t := 45) (x := (.tmp 4)) (y := (.tmp 26)) (g := g21) (off := 0) (i := 1) (v := (.agg #[(.string ⟨List.toArray (stT y101).1⟩), (.int .i64 (stT y101).2.1), (.int .i64 (stT y101).2.2.1), (.slice y101.2.2.2.1.1 (List.length (stT y101).2.2.2.1) y101.2.2.2.1.2.1), (.slice y101.2.2.2.2.1 (List.length (stT y101).2.2.2.2) y101.2.2.2.2.2.1)])) (cs' := #[(.string ⟨List.toArray (stT y101).1⟩), (.int .i64 (stT y101).2.1), (.int .i64 (stT y101).2.2.1), (.slice y101.2.2.2.1.1 (List.length (stT y101).2.2.2.1) y101.2.2.2.1.2.1), (.slice y101.2.2.2.2.1 (List.length (stT y101).2.2.2.2) y101.2.2.2.2.2.1)]) (d := none) (k := 5) K rfl K K hs55 rfl K ?_
    intro w107 (hs109 : SP [] w0 w107 [boxE g17 24 #[(.int .i64 pWait1), (.int .i64 pGrace2), (.int .i64 pIdle3), (.int .i64 pLease4), (.slice A6 (List.length (List.map stT d9)) c7)], boxE g21 45 #[(.string ⟨List.toArray (stT y101).1⟩), (.int .i64 (stT y101).2.1), (.int .i64 (stT y101).2.2.1), (.slice y101.2.2.2.1.1 (List.length (stT y101).2.2.2.1) y101.2.2.2.1.2.1), (.slice y101.2.2.2.2.1 (List.length (stT y101).2.2.2.2) y101.2.2.2.2.2.1)]])
    refine In.run' 1 (k' := 7) rfl [(5, (.bool true))] K ?_
    refine In.fin K ?_
    refine At.ret K ?_
    refine ⟨(.tuple #[(.agg #[(.string ⟨List.toArray (stT y101).1⟩), (.int .i64 (stT y101).2.1), (.int .i64 (stT y101).2.2.1), (.slice y101.2.2.2.1.1 (List.length (stT y101).2.2.2.1) y101.2.2.2.1.2.1), (.slice y101.2.2.2.2.1 (List.length (stT y101).2.2.2.2) y101.2.2.2.2.2.1)]), (.bool true)]), res_2 K (rv_cell (a := 4) (t := 45) (g := g21) (off := 0) K (SP.get hs109 (i := 1) rfl) K) (rv_tmp (t := 5) K), ?_⟩
    obtain rfl := some_elim H
    exact ⟨y101.2.2.2.1.1, y101.2.2.2.1.2.1, y101.2.2.2.2.1, y101.2.2.2.2.2.1, rfl, (fun w hm => (ds_rd ((fun w hm => (dp1 (dp2 (dp2 (dp2 (ds_el (hr8 w hm) hx100)))))) w hm))), (fun w hm => (ds_rd ((fun w hm => (dp2 (dp2 (dp2 (dp2 (ds_el (hr8 w hm) hx100)))))) w hm))), SP.sel hs109 [] rfl rfl⟩
   ·have H := cf H hb96
    refine At.skip K ?_
    refine At.region K K ?_
    refine In.run' 3 (k' := 3) rfl [(12, (.int .i64 v56)), (13, (.int .i64 (IntKind.wrap .i64 (v56 + 1)))), (6, (.int .i64 (IntKind.wrap .i64 (v56 + 1))))] K ?_
    refine In.fin K ?_
    exact ⟨(IntKind.wrap .i64 (v56 + 1)), ⟨K, K, K, K, trivial⟩, SP.sel hs55 [0, 1] rfl rfl, H⟩
  ·have H := cf H hb85
   refine At.exit K (id := 0) K ?_
   refine At.sq K ?_
   refine At.region K K ?_
   refine In.run' 1 (k' := 1) rfl [(27, (.agg #[(.string ⟨List.toArray ([] : List UInt8)⟩), (.int .i64 0), (.int .i64 0), (.slice none (List.length ([] : List (Int × Int))) 0), (.slice none (List.length ([] : List ((List UInt8) × (List UInt8) × Int))) 0)]))] K ?_
   refine In.step (k' := 2) rfl K ?_
   refine Step.store (t := 45) (x := (.tmp 4)) (y := (.tmp 27)) (g := g21) (off := 0) (i := 1) (v := (.agg #[(.string ⟨List.toArray ([] : List UInt8)⟩), (.int .i64 0), (.int .i64 0), (.slice none (List.length ([] : List (Int × Int))) 0), (.slice none (List.length ([] : List ((List UInt8) × (List UInt8) × Int))) 0)])) (cs' := #[(.string ⟨List.toArray ([] : List UInt8)⟩), (.int .i64 0), (.int .i64 0), (.slice none (List.length ([] : List (Int × Int))) 0), (.slice none (List.length ([] : List ((List UInt8) × (List UInt8) × Int))) 0)]) (d := none) (k := 1) K rfl K K hs55 rfl K ?_
   intro w110 (hs112 : SP [] w0 w110 [boxE g17 24 #[(.int .i64 pWait1), (.int .i64 pGrace2), (.int .i64 pIdle3), (.int .i64 pLease4), (.slice A6 (List.length (List.map stT d9)) c7)], boxE g21 45 #[(.string ⟨List.toArray ([] : List UInt8)⟩), (.int .i64 0), (.int .i64 0), (.slice none (List.length ([] : List (Int × Int))) 0), (.slice none (List.length ([] : List ((List UInt8) × (List UInt8) × Int))) 0)]])
   refine In.run' 1 (k' := 3) rfl [(5, (.bool false))] K ?_
   refine In.fin K ?_
   refine At.ret K ?_
   refine ⟨(.tuple #[(.agg #[(.string ⟨List.toArray ([] : List UInt8)⟩), (.int .i64 0), (.int .i64 0), (.slice none (List.length ([] : List (Int × Int))) 0), (.slice none (List.length ([] : List ((List UInt8) × (List UInt8) × Int))) 0)]), (.bool false)]), res_2 K (rv_cell (a := 4) (t := 45) (g := g21) (off := 0) K (SP.get hs112 (i := 1) rfl) K) (rv_tmp (t := 5) K), ?_⟩
   obtain rfl := some_elim H
   exact ⟨none, 0, none, 0, rfl, (fun w _ => RdT.nil (ePair (eInt .u32) (eInt .i64)) w), (fun w _ => RdT.nil (ePair eStr (ePair eStr (eInt .i64))) w), SP.sel hs112 [] rfl rfl⟩
 ·exact ⟨0, ⟨K, K, K, K, trivial⟩, SP.sel hs24 [0, 1] rfl rfl, H⟩
/-! L_subwaylaw09_Great -/
def L_subwaylaw09_Great_k16 (rec11 : Int → Int → Option (Bool)) (rec15 : Int → Int → Option (Bool)) (v243 : Int) (x473 : TenantL) (v559 : Int) (v560 : Int) (v627 : Bool) : Option (Bool) :=
  (cond v627 ((idx x473.2.2.2.2 v560).bind fun x631 => ((idx x473.2.2.2.2 v560).bind fun x640 => (rec15 (IntKind.wrap .i64 ((IntKind.wrap .i64 (v559 + (if 3000 < ((List.length x631.1 : Nat) : Int) then 3000 else ((List.length x631.1 : Nat) : Int)))) + (if 3000 < ((List.length x640.2.1 : Nat) : Int) then 3000 else ((List.length x640.2.1 : Nat) : Int)))) (IntKind.wrap .i64 (v560 + 1))))) (rec11 v559 (IntKind.wrap .i64 (v243 + 1))))
def L_subwaylaw09_Great_b14 (rec11 : Int → Int → Option (Bool)) (rec15 : Int → Int → Option (Bool)) (v243 : Int) (x473 : TenantL) (v559 : Int) (v560 : Int) : Option (Bool) :=
  (cond (decide (v560 < ((List.length x473.2.2.2.2 : Nat) : Int))) (L_subwaylaw09_Great_k16 rec11 rec15 v243 x473 v559 v560 (decide (v559 < 3000))) (L_subwaylaw09_Great_k16 rec11 rec15 v243 x473 v559 v560 false))
def L_subwaylaw09_Great_l14 (rec11 : Int → Int → Option (Bool)) (v243 : Int) (x473 : TenantL) : Nat → Int → Int → Option (Bool)
  | 0, _, _ => none
  | f + 1, v559, v560 => L_subwaylaw09_Great_b14 rec11 (L_subwaylaw09_Great_l14 rec11 v243 x473 f) v243 x473 v559 v560
def L_subwaylaw09_Great_k12 (rec11 : Int → Int → Option (Bool)) (pTenants5 : (List TenantL)) (v242 : Int) (v243 : Int) (v469 : Bool) : Option (Bool) :=
  (cond v469 ((idx pTenants5 v243).bind fun x473 => (L_subwaylaw09_Great_l14 rec11 v243 x473 fuel (IntKind.wrap .i64 ((IntKind.wrap .i64 ((IntKind.wrap .i64 (v242 + (if 3000 < ((List.length x473.1 : Nat) : Int) then 3000 else ((List.length x473.1 : Nat) : Int)))) + ((List.length x473.2.2.2.1 : Nat) : Int))) + ((List.length x473.2.2.2.2 : Nat) : Int))) 0)) (some ((decide (v242 ≥ 3000)))))
def L_subwaylaw09_Great_b6 (rec11 : Int → Int → Option (Bool)) (pTenants5 : (List TenantL)) (v242 : Int) (v243 : Int) : Option (Bool) :=
  (cond (decide (v243 < ((List.length pTenants5 : Nat) : Int))) (L_subwaylaw09_Great_k12 rec11 pTenants5 v242 v243 (decide (v242 < 3000))) (L_subwaylaw09_Great_k12 rec11 pTenants5 v242 v243 false))
def L_subwaylaw09_Great_l6 (pTenants5 : (List TenantL)) : Nat → Int → Int → Option (Bool)
  | 0, _, _ => none
  | f + 1, v242, v243 => L_subwaylaw09_Great_b6  (L_subwaylaw09_Great_l6 pTenants5 f) pTenants5 v242 v243
def L_subwaylaw09_Great (pWait1 : Int) (pGrace2 : Int) (pIdle3 : Int) (pLease4 : Int) (pTenants5 : (List TenantL)) : Option (Bool) :=
  (L_subwaylaw09_Great_l6 pTenants5 fuel ((List.length pTenants5 : Nat) : Int) 0)
set_option maxRecDepth 100000 in
set_option maxHeartbeats 4000000 in
theorem L_subwaylaw09_Great_walk (A6 : Option Addr) (c7 : Nat) (pWait1 : Int) (pGrace2 : Int) (pIdle3 : Int) (pLease4 : Int) (d9 : (List TenantD)) (w0 : World) (hr8 : (dDS eTen dTen).ok w0 (A6, c7, d9)) (r : (Bool)) (H : L_subwaylaw09_Great pWait1 pGrace2 pIdle3 pLease4 (List.map stT d9) = some r) :
  Calls Tryd.prog 10 #[(.agg #[(.int .i64 pWait1), (.int .i64 pGrace2), (.int .i64 pIdle3), (.int .i64 pLease4), (.slice A6 (List.length (List.map stT d9)) c7)])] w0 (fun e w' => e = .returned (.bool r) ∧ SP [] w0 w' []) := by
 unfold L_subwaylaw09_Great at H
 refine calls_go (n := 72) Tryd.func10 K K K ?_
 have hs0 := SP.start [] w0
 refine At.sq K ?_
 refine At.region K K ?_
 refine In.step (k' := 1) rfl K ?_
 refine Step.box (t := 24) (x := (.tmp 0)) (v := (.agg #[(.int .i64 pWait1), (.int .i64 pGrace2), (.int .i64 pIdle3), (.int .i64 pLease4), (.slice A6 (List.length (List.map stT d9)) c7)])) (d := (some 1)) (k := 0) K rfl K hs0 ?_
 intro g10 w11 (hs13 : SP [] w0 w11 [boxE g10 24 #[(.int .i64 pWait1), (.int .i64 pGrace2), (.int .i64 pIdle3), (.int .i64 pLease4), (.slice A6 (List.length (List.map stT d9)) c7)]])
 refine In.run' 1 (k' := 2) rfl [(2, (.bool false))] K ?_
 refine In.fin K ?_
 refine At.sq K ?_
 refine At.region K K ?_
 refine In.run' 1 (k' := 1) rfl [(7, (pt g10 4))] K ?_
 refine In.step (k' := 2) rfl K ?_
 refine Step.load (t := 22) (x := (.tmp 7)) (g := g10) (off := 4) (i := 0) (v := (.slice A6 (List.length (List.map stT d9)) c7)) (d := (some 8)) (k := 1) K rfl K hs13 rfl K ?_
 refine In.run' 2 (k' := 4) rfl [(9, (.int .i64 ((List.length (List.map stT d9) : Nat) : Int))), (3, (.int .i64 ((List.length (List.map stT d9) : Nat) : Int)))] K ?_
 refine In.fin K ?_
 refine At.sq K ?_
 refine At.sq K ?_
 refine At.region K K ?_
 refine In.run' 1 (k' := 1) rfl [(4, (.int .i64 0))] K ?_
 refine In.fin K ?_
 refine At.bk K (id := 0) K ?_
 refine At.lp K (fun f11 ρ w => ∃ (v242 : Int) (v243 : Int), Known ρ [(1, (pt g10 0)), (3, (.int .i64 v242)), (4, (.int .i64 v243))] ∧ SP [] w0 w [boxE g10 24 #[(.int .i64 pWait1), (.int .i64 pGrace2), (.int .i64 pIdle3), (.int .i64 pLease4), (.slice A6 (List.length (List.map stT d9)) c7)]] ∧ L_subwaylaw09_Great_l6 (List.map stT d9) f11 v242 v243 = some r) (by rintro ρ w ⟨v242, v243, hk, hs, H⟩; cases H) ?_ fuel ?_
 ·rintro f11 ρ w240 ⟨v242, v243, hk, hs241, H⟩
  refine At.known [(1, (pt g10 0)), (3, (.int .i64 v242)), (4, (.int .i64 v243))] hk ?_
  replace H := (show L_subwaylaw09_Great_b6 (L_subwaylaw09_Great_l6 (List.map stT d9) f11) (List.map stT d9) v242 v243 = some r from H)
  unfold L_subwaylaw09_Great_b6 at H
  refine At.sq K ?_
  refine At.sq K ?_
  refine At.join (fun ρ w => ∃ (v469 : Bool), Known ρ [(1, (pt g10 0)), (3, (.int .i64 v242)), (4, (.int .i64 v243)), (18, (.bool v469))] ∧ SP [] w0 w [boxE g10 24 #[(.int .i64 pWait1), (.int .i64 pGrace2), (.int .i64 pIdle3), (.int .i64 pLease4), (.slice A6 (List.length (List.map stT d9)) c7)]] ∧ L_subwaylaw09_Great_k12 (L_subwaylaw09_Great_l6 (List.map stT d9) f11) (List.map stT d9) v242 v243 v469 = some r) ?_ ?_
  ·refine At.region K K ?_
   refine In.run' 2 (k' := 2) rfl [(10, (.int .i64 v243)), (11, (pt g10 4))] K ?_
   refine In.step (k' := 3) rfl K ?_
   refine Step.load (t := 22) (x := (.tmp 11)) (g := g10) (off := 4) (i := 0) (v := (.slice A6 (List.length (List.map stT d9)) c7)) (d := (some 12)) (k := 2) K rfl K hs241 rfl K ?_
   refine In.run' 3 (k' := 6) rfl [(13, (.int .i64 ((List.length (List.map stT d9) : Nat) : Int))), (14, (.bool (decide (v243 < ((List.length (List.map stT d9) : Nat) : Int))))), (15, (.bool (decide (v243 < ((List.length (List.map stT d9) : Nat) : Int)))))] K ?_
   refine In.guard (t := 15) (b := (decide (v243 < ((List.length (List.map stT d9) : Nat) : Int)))) K (fun hb691 => ?_) (fun hb691 => ?_)
   ·have H := ct H hb691
    refine In.run' 3 (k' := 9) rfl [(16, (.int .i64 v242)), (17, (.bool (decide (v242 < 3000)))), (18, (.bool (decide (v242 < 3000))))] K ?_
    refine In.fin K ?_
    exact ⟨(decide (v242 < 3000)), ⟨K, K, K, K, trivial⟩, SP.sel hs241 [0] rfl rfl, H⟩
   ·have H := cf H hb691
    refine In.run' 3 (k' := 9) rfl [(16, undef), (17, undef), (18, (.bool false))] K ?_
    refine In.fin K ?_
    exact ⟨false, ⟨K, K, K, K, trivial⟩, SP.sel hs241 [0] rfl rfl, H⟩
  ·rintro ρ w470 ⟨v469, hk, hs471, H⟩
   unfold L_subwaylaw09_Great_k12 at H
   first | refine At.known [(1, (pt g10 0)), (3, (.int .i64 v242)), (4, (.int .i64 v243)), (18, (.bool v469))] hk ?_ | rw [← known_updL (l := [(1, (pt g10 0)), (3, (.int .i64 v242)), (4, (.int .i64 v243)), (18, (.bool v469))]) hk]
   refine At.cd K (o := (.tmp 18)) K (b := v469) K (fun hb472 => ?_) (fun hb472 => ?_)
   ·have H := ct H hb472
    refine At.skip K ?_
    refine At.sq K ?_
    refine At.bk K (id := 1) K ?_
    refine At.sq K ?_
    refine At.region K K ?_
    refine In.run' 1 (k' := 1) rfl [(21, (pt g10 4))] K ?_
    refine In.step (k' := 2) rfl K ?_
    refine Step.load (t := 22) (x := (.tmp 21)) (g := g10) (off := 4) (i := 0) (v := (.slice A6 (List.length (List.map stT d9)) c7)) (d := (some 22)) (k := 1) K rfl K hs471 rfl K ?_
    refine In.run' 1 (k' := 3) rfl [(23, (.int .i64 v243))] K ?_
    obtain ⟨y477, hp474, hq475, hx476, H⟩ := idxm_elim H
    refine In.step (k' := 4) rfl K ?_
    refine Step.elemM stT (e := eTen) (l := d9) (A := A6) (c := c7) (T := 22) (E := 45) (x := (.tmp 22)) (ix := (.tmp 23)) (ki := .i64) (iz := v243) (d := (some 24)) (k := 3) K rfl K K K K (RdT.sp (ds_rd hr8) hs471) hp474 hq475 ?_
    intro b478 o479 hA481 hb482 hc480
    refine In.step (k' := 5) rfl K ?_
    refine Step.cells (t := 45) (x := (.tmp 24)) (b := b478) (off := (o479 + Int.toNat v243 * eTen.sz)) (xs := [(.string ⟨List.toArray (stT y477).1⟩), (.int .i64 (stT y477).2.1), (.int .i64 (stT y477).2.2.1), (.slice y477.2.2.2.1.1 (List.length (stT y477).2.2.2.1) y477.2.2.2.1.2.1), (.slice y477.2.2.2.2.1 (List.length (stT y477).2.2.2.2) y477.2.2.2.2.2.1)]) (d := (some 25)) (k := 4) K rfl K K K (elem_cells0 (e := eTen) (rdt_cells (RdT.sp (ds_rd hr8) hs471) hA481 hp474 hq475) hx476 rfl) ?_
    refine In.step (k' := 6) rfl K ?_
    refine Step.alloc (t := 45) (z := (.agg #[(.string ⟨List.toArray ([] : List UInt8)⟩), (.int .i64 0), (.int .i64 0), (.slice none (List.length ([] : List (Int × Int))) 0), (.slice none (List.length ([] : List ((List UInt8) × (List UInt8) × Int))) 0)])) (d := (some 5)) (k := 5) K rfl K hs471 ?_
    intro g483 w484 (hs486 : SP [] w0 w484 [boxE g10 24 #[(.int .i64 pWait1), (.int .i64 pGrace2), (.int .i64 pIdle3), (.int .i64 pLease4), (.slice A6 (List.length (List.map stT d9)) c7)], boxE g483 45 #[(.string ⟨List.toArray ([] : List UInt8)⟩), (.int .i64 0), (.int .i64 0), (.slice none (List.length ([] : List (Int × Int))) 0), (.slice none (List.length ([] : List ((List UInt8) × (List UInt8) × Int))) 0)]])
    refine In.step (k' := 7) rfl K ?_
    refine Step.store (t := 45) (x := (.tmp 5)) (y := (.tmp 25)) (g := g483) (off := 0) (i := 1) (v := (.agg #[(.string ⟨List.toArray (stT y477).1⟩), (.int .i64 (stT y477).2.1), (.int .i64 (stT y477).2.2.1), (.slice y477.2.2.2.1.1 (List.length (stT y477).2.2.2.1) y477.2.2.2.1.2.1), (.slice y477.2.2.2.2.1 (List.length (stT y477).2.2.2.2) y477.2.2.2.2.2.1)])) (cs' := #[(.string ⟨List.toArray (stT y477).1⟩), (.int .i64 (stT y477).2.1), (.int .i64 (stT y477).2.2.1), (.slice y477.2.2.2.1.1 (List.length (stT y477).2.2.2.1) y477.2.2.2.1.2.1), (.slice y477.2.2.2.2.1 (List.length (stT y477).2.2.2.2) y477.2.2.2.2.2.1)]) (d := none) (k := 6) K rfl K K hs486 rfl K ?_
    intro w487 (hs489 : SP [] w0 w487 [boxE g10 24 #[(.int .i64 pWait1), (.int .i64 pGrace2), (.int .i64 pIdle3), (.int .i64 pLease4), (.slice A6 (List.length (List.map stT d9)) c7)], boxE g483 45 #[(.string ⟨List.toArray (stT y477).1⟩), (.int .i64 (stT y477).2.1), (.int .i64 (stT y477).2.2.1), (.slice y477.2.2.2.1.1 (List.length (stT y477).2.2.2.1) y477.2.2.2.1.2.1), (.slice y477.2.2.2.2.1 (List.length (stT y477).2.2.2.2) y477.2.2.2.2.2.1)]])
    refine In.fin K ?_
    refine At.sq K ?_
    refine At.region K K ?_
    refine In.run' 2 (k' := 2) rfl [(26, (.int .i64 v242)), (27, (pt g483 0))] K ?_
    refine In.step (k' := 3) rfl K ?_
    refine Step.load (t := 9) (x := (.tmp 27)) (g := g483) (off := 0) (i := 1) (v := (.string ⟨List.toArray (stT y477).1⟩)) (d := (some 28)) (k := 2) K rfl K hs489 rfl K ?_
    refine In.run' 4 (k' := 7) rfl [(29, (.int .i64 ((List.length (stT y477).1 : Nat) : Int))), (30, (.int .i64 (if 3000 < ((List.length (stT y477).1 : Nat) : Int) then 3000 else ((List.length (stT y477).1 : Nat) : Int)))), (31, (.int .i64 (IntKind.wrap .i64 (v242 + (if 3000 < ((List.length (stT y477).1 : Nat) : Int) then 3000 else ((List.length (stT y477).1 : Nat) : Int)))))), (32, (pt g483 3))] K ?_
    refine In.step (k' := 8) rfl K ?_
    refine Step.load (t := 42) (x := (.tmp 32)) (g := g483) (off := 3) (i := 1) (v := (.slice y477.2.2.2.1.1 (List.length (stT y477).2.2.2.1) y477.2.2.2.1.2.1)) (d := (some 33)) (k := 7) K rfl K hs489 rfl K ?_
    refine In.run' 3 (k' := 11) rfl [(34, (.int .i64 ((List.length (stT y477).2.2.2.1 : Nat) : Int))), (35, (.int .i64 (IntKind.wrap .i64 ((IntKind.wrap .i64 (v242 + (if 3000 < ((List.length (stT y477).1 : Nat) : Int) then 3000 else ((List.length (stT y477).1 : Nat) : Int)))) + ((List.length (stT y477).2.2.2.1 : Nat) : Int))))), (36, (pt g483 4))] K ?_
    refine In.step (k' := 12) rfl K ?_
    refine Step.load (t := 43) (x := (.tmp 36)) (g := g483) (off := 4) (i := 1) (v := (.slice y477.2.2.2.2.1 (List.length (stT y477).2.2.2.2) y477.2.2.2.2.2.1)) (d := (some 37)) (k := 11) K rfl K hs489 rfl K ?_
    refine In.run' 3 (k' := 15) rfl [(38, (.int .i64 ((List.length (stT y477).2.2.2.2 : Nat) : Int))), (39, (.int .i64 (IntKind.wrap .i64 ((IntKind.wrap .i64 ((IntKind.wrap .i64 (v242 + (if 3000 < ((List.length (stT y477).1 : Nat) : Int) then 3000 else ((List.length (stT y477).1 : Nat) : Int)))) + ((List.length (stT y477).2.2.2.1 : Nat) : Int))) + ((List.length (stT y477).2.2.2.2 : Nat) : Int))))), (3, (.int .i64 (IntKind.wrap .i64 ((IntKind.wrap .i64 ((IntKind.wrap .i64 (v242 + (if 3000 < ((List.length (stT y477).1 : Nat) : Int) then 3000 else ((List.length (stT y477).1 : Nat) : Int)))) + ((List.length (stT y477).2.2.2.1 : Nat) : Int))) + ((List.length (stT y477).2.2.2.2 : Nat) : Int)))))] K ?_
    refine In.fin K ?_
    refine At.sq K ?_
    refine At.region K K ?_
    refine In.run' 1 (k' := 1) rfl [(6, (.int .i64 0))] K ?_
    refine In.fin K ?_
    refine At.bk K (id := 2) K ?_
    refine At.lp K (fun f15 ρ w => ∃ (v559 : Int) (v560 : Int), Known ρ [(1, (pt g10 0)), (3, (.int .i64 v559)), (4, (.int .i64 v243)), (5, (pt g483 0)), (6, (.int .i64 v560))] ∧ SP [] w0 w [boxE g10 24 #[(.int .i64 pWait1), (.int .i64 pGrace2), (.int .i64 pIdle3), (.int .i64 pLease4), (.slice A6 (List.length (List.map stT d9)) c7)], boxE g483 45 #[(.string ⟨List.toArray (stT y477).1⟩), (.int .i64 (stT y477).2.1), (.int .i64 (stT y477).2.2.1), (.slice y477.2.2.2.1.1 (List.length (stT y477).2.2.2.1) y477.2.2.2.1.2.1), (.slice y477.2.2.2.2.1 (List.length (stT y477).2.2.2.2) y477.2.2.2.2.2.1)]] ∧ L_subwaylaw09_Great_l14 (L_subwaylaw09_Great_l6 (List.map stT d9) f11) v243 (stT y477) f15 v559 v560 = some r) (by rintro ρ w ⟨v559, v560, hk, hs, H⟩; cases H) ?_ fuel ?_
    ·rintro f15 ρ w557 ⟨v559, v560, hk, hs558, H⟩
     refine At.known [(1, (pt g10 0)), (3, (.int .i64 v559)), (4, (.int .i64 v243)), (5, (pt g483 0)), (6, (.int .i64 v560))] hk ?_
     replace H := (show L_subwaylaw09_Great_b14 (L_subwaylaw09_Great_l6 (List.map stT d9) f11) (L_subwaylaw09_Great_l14 (L_subwaylaw09_Great_l6 (List.map stT d9) f11) v243 (stT y477) f15) v243 (stT y477) v559 v560 = some r from H)
     unfold L_subwaylaw09_Great_b14 at H
     refine At.sq K ?_
     refine At.sq K ?_
     refine At.join (fun ρ w => ∃ (v627 : Bool), Known ρ [(1, (pt g10 0)), (3, (.int .i64 v559)), (4, (.int .i64 v243)), (5, (pt g483 0)), (6, (.int .i64 v560)), (48, (.bool v627))] ∧ SP [] w0 w [boxE g10 24 #[(.int .i64 pWait1), (.int .i64 pGrace2), (.int .i64 pIdle3), (.int .i64 pLease4), (.slice A6 (List.length (List.map stT d9)) c7)], boxE g483 45 #[(.string ⟨List.toArray (stT y477).1⟩), (.int .i64 (stT y477).2.1), (.int .i64 (stT y477).2.2.1), (.slice y477.2.2.2.1.1 (List.length (stT y477).2.2.2.1) y477.2.2.2.1.2.1), (.slice y477.2.2.2.2.1 (List.length (stT y477).2.2.2.2) y477.2.2.2.2.2.1)]] ∧ L_subwaylaw09_Great_k16 (L_subwaylaw09_Great_l6 (List.map stT d9) f11) (L_subwaylaw09_Great_l14 (L_subwaylaw09_Great_l6 (List.map stT d9) f11) v243 (stT y477) f15) v243 (stT y477) v559 v560 v627 = some r) ?_ ?_
     ·refine At.region K K ?_
      refine In.run' 2 (k' := 2) rfl [(40, (.int .i64 v560)), (41, (pt g483 4))] K ?_
      refine In.step (k' := 3) rfl K ?_
      refine Step.load (t := 43) (x := (.tmp 41)) (g := g483) (off := 4) (i := 1) (v := (.slice y477.2.2.2.2.1 (List.length (stT y477).2.2.2.2) y477.2.2.2.2.2.1)) (d := (some 42)) (k := 2) K rfl K hs558 rfl K ?_
      refine In.run' 3 (k' := 6) rfl [(43, (.int .i64 ((List.length (stT y477).2.2.2.2 : Nat) : Int))), (44, (.bool (decide (v560 < ((List.length (stT y477).2.2.2.2 : Nat) : Int))))), (45, (.bool (decide (v560 < ((List.length (stT y477).2.2.2.2 : Nat) : Int)))))] K ?_
      refine In.guard (t := 45) (b := (decide (v560 < ((List.length (stT y477).2.2.2.2 : Nat) : Int)))) K (fun hb690 => ?_) (fun hb690 => ?_)
      ·have H := ct H hb690
       refine In.run' 3 (k' := 9) rfl [(46, (.int .i64 v559)), (47, (.bool (decide (v559 < 3000)))), (48, (.bool (decide (v559 < 3000))))] K ?_
       refine In.fin K ?_
       exact ⟨(decide (v559 < 3000)), ⟨K, K, K, K, K, K, trivial⟩, SP.sel hs558 [0, 1] rfl rfl, H⟩
      ·have H := cf H hb690
       refine In.run' 3 (k' := 9) rfl [(46, undef), (47, undef), (48, (.bool false))] K ?_
       refine In.fin K ?_
       exact ⟨false, ⟨K, K, K, K, K, K, trivial⟩, SP.sel hs558 [0, 1] rfl rfl, H⟩
     ·rintro ρ w628 ⟨v627, hk, hs629, H⟩
      unfold L_subwaylaw09_Great_k16 at H
      first | refine At.known [(1, (pt g10 0)), (3, (.int .i64 v559)), (4, (.int .i64 v243)), (5, (pt g483 0)), (6, (.int .i64 v560)), (48, (.bool v627))] hk ?_ | rw [← known_updL (l := [(1, (pt g10 0)), (3, (.int .i64 v559)), (4, (.int .i64 v243)), (5, (pt g483 0)), (6, (.int .i64 v560)), (48, (.bool v627))]) hk]
      refine At.cd K (o := (.tmp 48)) K (b := v627) K (fun hb630 => ?_) (fun hb630 => ?_)
      ·have H := ct H hb630
       refine At.skip K ?_
       refine At.sq K ?_
       refine At.bk K (id := 3) K ?_
       obtain ⟨x631, hp632, hq633, hx634, H⟩ := idx_elim H
       obtain ⟨x640, hp641, hq642, hx643, H⟩ := idx_elim H
       refine At.stages K K K K K [GEq (.int .i64 v559), GEq (pt g483 4), GEq (.slice y477.2.2.2.2.1 (List.length (stT y477).2.2.2.2) y477.2.2.2.2.2.1), GEq (.int .i64 v560), GElem0 y477.2.2.2.2.1 (ePair eStr (ePair eStr (eInt .i64))).sz v560, GElem0 y477.2.2.2.2.1 (ePair eStr (ePair eStr (eInt .i64))).sz v560, GEq (.string ⟨List.toArray x631.1⟩), GEq (.int .i64 ((List.length x631.1 : Nat) : Int)), GEq (.int .i64 (if 3000 < ((List.length x631.1 : Nat) : Int) then 3000 else ((List.length x631.1 : Nat) : Int))), GEq (.int .i64 (IntKind.wrap .i64 (v559 + (if 3000 < ((List.length x631.1 : Nat) : Int) then 3000 else ((List.length x631.1 : Nat) : Int))))), GEq (pt g483 4), GEq (.slice y477.2.2.2.2.1 (List.length (stT y477).2.2.2.2) y477.2.2.2.2.2.1), GEq (.int .i64 v560), GElem0 y477.2.2.2.2.1 (ePair eStr (ePair eStr (eInt .i64))).sz v560, GElem y477.2.2.2.2.1 (ePair eStr (ePair eStr (eInt .i64))).sz v560 1, GEq (.string ⟨List.toArray x640.2.1⟩), GEq (.int .i64 ((List.length x640.2.1 : Nat) : Int)), GEq (.int .i64 (if 3000 < ((List.length x640.2.1 : Nat) : Int) then 3000 else ((List.length x640.2.1 : Nat) : Int))), GEq (.int .i64 (IntKind.wrap .i64 ((IntKind.wrap .i64 (v559 + (if 3000 < ((List.length x631.1 : Nat) : Int) then 3000 else ((List.length x631.1 : Nat) : Int)))) + (if 3000 < ((List.length x640.2.1 : Nat) : Int) then 3000 else ((List.length x640.2.1 : Nat) : Int))))), GEq (.int .i64 (IntKind.wrap .i64 ((IntKind.wrap .i64 (v559 + (if 3000 < ((List.length x631.1 : Nat) : Int) then 3000 else ((List.length x631.1 : Nat) : Int)))) + (if 3000 < ((List.length x640.2.1 : Nat) : Int) then 3000 else ((List.length x640.2.1 : Nat) : Int)))))] [] [([], fun vs w => VL vs [] ∧ SP [] w0 w [boxE g10 24 #[(.int .i64 pWait1), (.int .i64 pGrace2), (.int .i64 pIdle3), (.int .i64 pLease4), (.slice A6 (List.length (List.map stT d9)) c7)], boxE g483 45 #[(.string ⟨List.toArray (stT y477).1⟩), (.int .i64 (stT y477).2.1), (.int .i64 (stT y477).2.2.1), (.slice y477.2.2.2.1.1 (List.length (stT y477).2.2.2.1) y477.2.2.2.1.2.1), (.slice y477.2.2.2.2.1 (List.length (stT y477).2.2.2.2) y477.2.2.2.2.2.1)]])] (N := 20) K ⟨K, Nat.zero_lt_succ _⟩ (show VL [] [] ∧ SP [] w0 w628.drew [boxE g10 24 #[(.int .i64 pWait1), (.int .i64 pGrace2), (.int .i64 pIdle3), (.int .i64 pLease4), (.slice A6 (List.length (List.map stT d9)) c7)], boxE g483 45 #[(.string ⟨List.toArray (stT y477).1⟩), (.int .i64 (stT y477).2.1), (.int .i64 (stT y477).2.2.1), (.slice y477.2.2.2.1.1 (List.length (stT y477).2.2.2.1) y477.2.2.2.1.2.1), (.slice y477.2.2.2.2.1 (List.length (stT y477).2.2.2.2) y477.2.2.2.2.2.1)]] from ⟨trivial, SP.drew hs629⟩) ⟨⟨⟨⟨⟨⟨⟨⟨⟨⟨⟨⟨⟨⟨⟨⟨⟨⟨⟨⟨trivial, ?_⟩, ?_⟩, ?_⟩, ?_⟩, ?_⟩, ?_⟩, ?_⟩, ?_⟩, ?_⟩, ?_⟩, ?_⟩, ?_⟩, ?_⟩, ?_⟩, ?_⟩, ?_⟩, ?_⟩, ?_⟩, ?_⟩, ?_⟩ (last := 0) K ?_
       ·exact Owe.run K [(3, (.int .i64 v559))] ⟨gS K K, trivial⟩ (.int .i64 v559) (fun _ _ => K) rfl
       ·exact Owe.run K [(5, (pt g483 0))] ⟨gS K K, trivial⟩ (pt g483 4) (fun _ _ => K) rfl
       ·refine Owe.light K [0] K (all_cons ?_ all_nil)
        ·rintro ρ' w' hs hah ⟨hvl650, hs649⟩
         have hkn : Known ρ' [(52, (pt g483 4))] := ⟨hah 1 52 K, trivial⟩
         refine Step.known _ hkn ?_
         refine Step.load (t := 43) (x := (.tmp 52)) (g := g483) (off := 4) (i := 1) (v := (.slice y477.2.2.2.2.1 (List.length (stT y477).2.2.2.2) y477.2.2.2.2.2.1)) (d := (some 53)) (k := 2) K rfl K hs649 rfl K ?_
         exact ⟨rfl, _, updO_known hkn, rfl⟩
       ·exact Owe.run K [(6, (.int .i64 v560))] ⟨gS K K, trivial⟩ (.int .i64 v560) (fun _ _ => K) rfl
       ·refine Owe.light K [0] K (all_cons ?_ all_nil)
        ·rintro ρ' w' hs hah ⟨hvl652, hs651⟩
         have hkn : Known ρ' [(53, (.slice y477.2.2.2.2.1 (List.length (stT y477).2.2.2.2) y477.2.2.2.2.2.1)), (54, (.int .i64 v560))] := ⟨hah 2 53 K, hah 3 54 K, trivial⟩
         refine Step.known _ hkn ?_
         refine Step.elem (e := (ePair eStr (ePair eStr (eInt .i64)))) (l := (stT y477).2.2.2.2) (A := y477.2.2.2.2.1) (c := y477.2.2.2.2.2.1) (T := 43) (E := 56) (x := (.tmp 53)) (ix := (.tmp 54)) (ki := .i64) (iz := v560) (d := (some 55)) (k := 4) K rfl K K K K (RdT.sp (ds_rd (dp2 (dp2 (dp2 (dp2 (ds_el hr8 hx476)))))) hs651) hp632 hq633 ?_
         intro b653 o654 hA656 hb657 hc655
         exact ⟨rfl, _, updO_known hkn, ⟨b653, o654, hA656, rfl⟩⟩
       ·refine Owe.light K [0] K (all_cons ?_ all_nil)
        ·rintro ρ' w' hs hah ⟨hvl659, hs658⟩
         obtain ⟨b660, o661, hA662, e55⟩ := hah 4 55 K
         have hkn : Known ρ' [(55, (.pointer (some ⟨b660, (o661 + Int.toNat v560 * (ePair eStr (ePair eStr (eInt .i64))).sz), none⟩)))] := ⟨e55, trivial⟩
         refine Step.known _ hkn ?_
         refine Step.run (k := 5) (v := (.pointer (some ⟨b660, (o661 + Int.toNat v560 * (ePair eStr (ePair eStr (eInt .i64))).sz), none⟩))) K ?_
         exact ⟨rfl, _, updO_known hkn, ⟨b660, o661, hA662, rfl⟩⟩
       ·refine Owe.light K [0] K (all_cons ?_ all_nil)
        ·rintro ρ' w' hs hah ⟨hvl664, hs663⟩
         obtain ⟨b665, o666, hA667, e56⟩ := hah 5 56 K
         have hkn : Known ρ' [(56, (.pointer (some ⟨b665, (o666 + Int.toNat v560 * (ePair eStr (ePair eStr (eInt .i64))).sz), none⟩)))] := ⟨e56, trivial⟩
         refine Step.known _ hkn ?_
         refine Step.cell (t := 9) (x := (.tmp 56)) (b := b665) (off := (o666 + Int.toNat v560 * (ePair eStr (ePair eStr (eInt .i64))).sz)) (v := (.string ⟨List.toArray x631.1⟩)) (d := (some 57)) (k := 6) K rfl K K (elem_cell (e := (ePair eStr (ePair eStr (eInt .i64)))) (rdt_cells (RdT.sp (ds_rd (dp2 (dp2 (dp2 (dp2 (ds_el hr8 hx476)))))) hs663) hA667 hp632 hq633) hx634 (j := 0) rfl) ?_
         exact ⟨rfl, _, updO_known hkn, rfl⟩
       ·exact Owe.run K [(57, (.string ⟨List.toArray x631.1⟩))] ⟨gA 6 K K, trivial⟩ (.int .i64 ((List.length x631.1 : Nat) : Int)) (fun _ _ => K) rfl
       ·exact Owe.run K [(58, (.int .i64 ((List.length x631.1 : Nat) : Int)))] ⟨gA 7 K K, trivial⟩ (.int .i64 (if 3000 < ((List.length x631.1 : Nat) : Int) then 3000 else ((List.length x631.1 : Nat) : Int))) (fun _ _ => K) rfl
       ·exact Owe.run K [(51, (.int .i64 v559)), (59, (.int .i64 (if 3000 < ((List.length x631.1 : Nat) : Int) then 3000 else ((List.length x631.1 : Nat) : Int))))] ⟨gA 0 K K, gA 8 K K, trivial⟩ (.int .i64 (IntKind.wrap .i64 (v559 + (if 3000 < ((List.length x631.1 : Nat) : Int) then 3000 else ((List.length x631.1 : Nat) : Int))))) (fun _ _ => K) rfl
       ·exact Owe.run K [(5, (pt g483 0))] ⟨gS K K, trivial⟩ (pt g483 4) (fun _ _ => K) rfl
       ·refine Owe.light K [0] K (all_cons ?_ all_nil)
        ·rintro ρ' w' hs hah ⟨hvl669, hs668⟩
         have hkn : Known ρ' [(61, (pt g483 4))] := ⟨hah 10 61 K, trivial⟩
         refine Step.known _ hkn ?_
         refine Step.load (t := 43) (x := (.tmp 61)) (g := g483) (off := 4) (i := 1) (v := (.slice y477.2.2.2.2.1 (List.length (stT y477).2.2.2.2) y477.2.2.2.2.2.1)) (d := (some 62)) (k := 11) K rfl K hs668 rfl K ?_
         exact ⟨rfl, _, updO_known hkn, rfl⟩
       ·exact Owe.run K [(6, (.int .i64 v560))] ⟨gS K K, trivial⟩ (.int .i64 v560) (fun _ _ => K) rfl
       ·refine Owe.light K [0] K (all_cons ?_ all_nil)
        ·rintro ρ' w' hs hah ⟨hvl671, hs670⟩
         have hkn : Known ρ' [(62, (.slice y477.2.2.2.2.1 (List.length (stT y477).2.2.2.2) y477.2.2.2.2.2.1)), (63, (.int .i64 v560))] := ⟨hah 11 62 K, hah 12 63 K, trivial⟩
         refine Step.known _ hkn ?_
         refine Step.elem (e := (ePair eStr (ePair eStr (eInt .i64)))) (l := (stT y477).2.2.2.2) (A := y477.2.2.2.2.1) (c := y477.2.2.2.2.2.1) (T := 43) (E := 56) (x := (.tmp 62)) (ix := (.tmp 63)) (ki := .i64) (iz := v560) (d := (some 64)) (k := 13) K rfl K K K K (RdT.sp (ds_rd (dp2 (dp2 (dp2 (dp2 (ds_el hr8 hx476)))))) hs670) hp641 hq642 ?_
         intro b672 o673 hA675 hb676 hc674
         exact ⟨rfl, _, updO_known hkn, ⟨b672, o673, hA675, rfl⟩⟩
       ·refine Owe.light K [0] K (all_cons ?_ all_nil)
        ·rintro ρ' w' hs hah ⟨hvl678, hs677⟩
         obtain ⟨b679, o680, hA681, e64⟩ := hah 13 64 K
         have hkn : Known ρ' [(64, (.pointer (some ⟨b679, (o680 + Int.toNat v560 * (ePair eStr (ePair eStr (eInt .i64))).sz), none⟩)))] := ⟨e64, trivial⟩
         refine Step.known _ hkn ?_
         refine Step.run (k := 14) (v := (.pointer (some ⟨b679, (o680 + Int.toNat v560 * (ePair eStr (ePair eStr (eInt .i64))).sz + 1), none⟩))) K ?_
         exact ⟨rfl, _, updO_known hkn, ⟨b679, o680, hA681, rfl⟩⟩
       ·refine Owe.light K [0] K (all_cons ?_ all_nil)
        ·rintro ρ' w' hs hah ⟨hvl683, hs682⟩
         obtain ⟨b684, o685, hA686, e65⟩ := hah 14 65 K
         have hkn : Known ρ' [(65, (.pointer (some ⟨b684, (o685 + Int.toNat v560 * (ePair eStr (ePair eStr (eInt .i64))).sz + 1), none⟩)))] := ⟨e65, trivial⟩
         refine Step.known _ hkn ?_
         refine Step.cell (t := 9) (x := (.tmp 65)) (b := b684) (off := (o685 + Int.toNat v560 * (ePair eStr (ePair eStr (eInt .i64))).sz + 1)) (v := (.string ⟨List.toArray x640.2.1⟩)) (d := (some 66)) (k := 15) K rfl K K (elem_cell (e := (ePair eStr (ePair eStr (eInt .i64)))) (rdt_cells (RdT.sp (ds_rd (dp2 (dp2 (dp2 (dp2 (ds_el hr8 hx476)))))) hs682) hA686 hp641 hq642) hx643 (j := 1) rfl) ?_
         exact ⟨rfl, _, updO_known hkn, rfl⟩
       ·exact Owe.run K [(66, (.string ⟨List.toArray x640.2.1⟩))] ⟨gA 15 K K, trivial⟩ (.int .i64 ((List.length x640.2.1 : Nat) : Int)) (fun _ _ => K) rfl
       ·exact Owe.run K [(67, (.int .i64 ((List.length x640.2.1 : Nat) : Int)))] ⟨gA 16 K K, trivial⟩ (.int .i64 (if 3000 < ((List.length x640.2.1 : Nat) : Int) then 3000 else ((List.length x640.2.1 : Nat) : Int))) (fun _ _ => K) rfl
       ·exact Owe.run K [(60, (.int .i64 (IntKind.wrap .i64 (v559 + (if 3000 < ((List.length x631.1 : Nat) : Int) then 3000 else ((List.length x631.1 : Nat) : Int)))))), (68, (.int .i64 (if 3000 < ((List.length x640.2.1 : Nat) : Int) then 3000 else ((List.length x640.2.1 : Nat) : Int))))] ⟨gA 9 K K, gA 17 K K, trivial⟩ (.int .i64 (IntKind.wrap .i64 ((IntKind.wrap .i64 (v559 + (if 3000 < ((List.length x631.1 : Nat) : Int) then 3000 else ((List.length x631.1 : Nat) : Int)))) + (if 3000 < ((List.length x640.2.1 : Nat) : Int) then 3000 else ((List.length x640.2.1 : Nat) : Int))))) (fun _ _ => K) rfl
       ·exact Owe.run K [(69, (.int .i64 (IntKind.wrap .i64 ((IntKind.wrap .i64 (v559 + (if 3000 < ((List.length x631.1 : Nat) : Int) then 3000 else ((List.length x631.1 : Nat) : Int)))) + (if 3000 < ((List.length x640.2.1 : Nat) : Int) then 3000 else ((List.length x640.2.1 : Nat) : Int))))))] ⟨gA 18 K K, trivial⟩ (.int .i64 (IntKind.wrap .i64 ((IntKind.wrap .i64 (v559 + (if 3000 < ((List.length x631.1 : Nat) : Int) then 3000 else ((List.length x631.1 : Nat) : Int)))) + (if 3000 < ((List.length x640.2.1 : Nat) : Int) then 3000 else ((List.length x640.2.1 : Nat) : Int))))) (fun _ _ => K) rfl
       ·rintro ρ' w' hs hf ⟨hvl688, hs687⟩
        refine postKnown [(1, (pt g10 0)), (3, (.int .i64 (IntKind.wrap .i64 ((IntKind.wrap .i64 (v559 + (if 3000 < ((List.length x631.1 : Nat) : Int) then 3000 else ((List.length x631.1 : Nat) : Int)))) + (if 3000 < ((List.length x640.2.1 : Nat) : Int) then 3000 else ((List.length x640.2.1 : Nat) : Int)))))), (4, (.int .i64 v243)), (5, (pt g483 0)), (6, (.int .i64 v560))] ⟨(hs 1 K).trans K, hf 19 3 K, (hs 4 K).trans K, (hs 5 K).trans K, (hs 6 K).trans K, trivial⟩ ?_
        obtain ⟨w689, hww689⟩ : ∃ x, w' = x := ⟨_, rfl⟩
        rw [hww689] at hs687 ⊢
        refine At.region K K ?_
        refine In.run' 3 (k' := 3) rfl [(49, (.int .i64 v560)), (50, (.int .i64 (IntKind.wrap .i64 (v560 + 1)))), (6, (.int .i64 (IntKind.wrap .i64 (v560 + 1))))] K ?_
        refine In.fin K ?_
        exact ⟨(IntKind.wrap .i64 ((IntKind.wrap .i64 (v559 + (if 3000 < ((List.length x631.1 : Nat) : Int) then 3000 else ((List.length x631.1 : Nat) : Int)))) + (if 3000 < ((List.length x640.2.1 : Nat) : Int) then 3000 else ((List.length x640.2.1 : Nat) : Int)))), (IntKind.wrap .i64 (v560 + 1)), ⟨K, K, K, K, K, trivial⟩, SP.sel hs687 [0, 1] rfl rfl, H⟩
      ·have H := cf H hb630
       refine At.exit K (id := 2) K ?_
       refine At.region K K ?_
       refine In.run' 3 (k' := 3) rfl [(19, (.int .i64 v243)), (20, (.int .i64 (IntKind.wrap .i64 (v243 + 1)))), (4, (.int .i64 (IntKind.wrap .i64 (v243 + 1))))] K ?_
       refine In.fin K ?_
       exact ⟨v559, (IntKind.wrap .i64 (v243 + 1)), ⟨K, K, K, trivial⟩, SP.sel hs629 [0] rfl rfl, H⟩
    ·exact ⟨(IntKind.wrap .i64 ((IntKind.wrap .i64 ((IntKind.wrap .i64 (v242 + (if 3000 < ((List.length (stT y477).1 : Nat) : Int) then 3000 else ((List.length (stT y477).1 : Nat) : Int)))) + ((List.length (stT y477).2.2.2.1 : Nat) : Int))) + ((List.length (stT y477).2.2.2.2 : Nat) : Int))), 0, ⟨K, K, K, K, K, trivial⟩, SP.sel hs489 [0, 1] rfl rfl, H⟩
   ·have H := cf H hb472
    refine At.exit K (id := 0) K ?_
    refine At.sq K ?_
    refine At.region K K ?_
    refine In.run' 3 (k' := 3) rfl [(70, (.int .i64 v242)), (71, (.bool (decide (v242 ≥ 3000)))), (2, (.bool (decide (v242 ≥ 3000))))] K ?_
    refine In.fin K ?_
    refine At.ret K ?_
    refine ⟨(.bool (decide (v242 ≥ 3000))), K, ?_⟩
    obtain rfl := some_elim H
    exact ⟨rfl, SP.sel hs471 [] rfl rfl⟩
 ·exact ⟨((List.length (List.map stT d9) : Nat) : Int), 0, ⟨K, K, K, trivial⟩, SP.sel hs13 [0] rfl rfl, H⟩
end Go.Proofs.YtfffjaijflbeaaaDoor
