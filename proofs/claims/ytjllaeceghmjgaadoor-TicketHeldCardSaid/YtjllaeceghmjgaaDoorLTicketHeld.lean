/- LIFTED BY PROGRAM (tools/lift.py): what functions compute, and that they do. -/
import Derived.Test.YtjllaeceghmjgaaDoorLTB
namespace Go.Proofs.YtjllaeceghmjgaaDoor
set_option linter.unusedSimpArgs false
set_option linter.unusedVariables false
open Go.RowKit

/-! L_subwaylaw15_TicketHeld -/
def L_subwaylaw15_TicketHeld_k3 (v80 : Bool) : Option (Bool) :=
  (some (v80))
def L_subwaylaw15_TicketHeld_k4 (v146 : Bool) : Option (Bool) :=
  (some (v146))
def L_subwaylaw15_TicketHeld_k2 (pVisitor2 : Int) (pName3 : (List UInt8)) (pTenant4 : (List UInt8)) (pEpoch5 : Int) (z13 : (Bool)) (z31 : ((List UInt8) × Int × (List UInt8) × Int × (List (Int × (List UInt8) × (List UInt8) × Int × (List UInt8))))) (z46 : (Int × (List UInt8) × (List UInt8) × Int × Int × (List UInt8) × Int × (List (Int × (List UInt8) × (List UInt8) × Int × (List UInt8))))) (v64 : Bool) : Option (Bool) :=
  (cond v64 (cond z13 (cond (z46.2.2.2.2.1 == 0) ((L_ticket_Book_Many z46.2.2.2.2.2.1 z46.2.2.2.2.2.2.1 z46.2.2.2.2.2.2.2).bind fun z85 => (L_subwaylaw15_TicketHeld_k3 (z85 == 0))) (L_subwaylaw15_TicketHeld_k3 false)) (L_subwaylaw15_TicketHeld_k3 false)) ((app pTenant4 ([120] : List UInt8)).bind fun l95 => ((L_ticket_Book_Redeem z46.2.2.2.2.2.1 z46.2.2.2.2.2.2.1 z46.2.2.2.2.2.2.2 z31.1 l95).bind fun z97 => ((L_ticket_Book_Redeem z97.2.2.2.2.2.1 z97.2.2.2.2.2.2.1 z97.2.2.2.2.2.2.2 z31.1 pTenant4).bind fun z114 => (cond z13 (cond (z46.2.2.2.2.1 != 0) (cond (z97.2.2.2.2.1 == 131) (cond ((z114.1 == pVisitor2) && ((z114.2.1 == pName3) && ((z114.2.2.1 == pTenant4) && (z114.2.2.2.1 == pEpoch5)))) (cond (z114.2.2.2.2.1 == 0) ((L_ticket_Book_Many z114.2.2.2.2.2.1 z114.2.2.2.2.2.2.1 z114.2.2.2.2.2.2.2).bind fun z154 => (L_subwaylaw15_TicketHeld_k4 (z154 == 0))) (L_subwaylaw15_TicketHeld_k4 false)) (L_subwaylaw15_TicketHeld_k4 false)) (L_subwaylaw15_TicketHeld_k4 false)) (L_subwaylaw15_TicketHeld_k4 false)) (L_subwaylaw15_TicketHeld_k4 false))))))
def L_subwaylaw15_TicketHeld_k1 (pVisitor2 : Int) (pName3 : (List UInt8)) (pTenant4 : (List UInt8)) (pEpoch5 : Int) (p7 : (List UInt8)) (p8 : (List UInt8)) (z13 : (Bool)) (z31 : ((List UInt8) × Int × (List UInt8) × Int × (List (Int × (List UInt8) × (List UInt8) × Int × (List UInt8))))) (v42 : Bool) : Option (Bool) :=
  (cond v42 (some (false)) ((L_ticket_Book_Redeem z31.2.2.1 z31.2.2.2.1 z31.2.2.2.2 p8 p7).bind fun z46 => (cond (p8 == z31.1) (L_subwaylaw15_TicketHeld_k2 pVisitor2 pName3 pTenant4 pEpoch5 z13 z31 z46 (p7 == pTenant4)) (L_subwaylaw15_TicketHeld_k2 pVisitor2 pName3 pTenant4 pEpoch5 z13 z31 z46 false))))
def L_subwaylaw15_TicketHeld (p1 : (List UInt8)) (pVisitor2 : Int) (pName3 : (List UInt8)) (pTenant4 : (List UInt8)) (pEpoch5 : Int) (p6 : (List UInt8)) (p7 : (List UInt8)) (p8 : (List UInt8)) : Option (Bool) :=
  ((L_subwaylaw15_head ).bind fun z13 => ((L_ticket_New p1).bind fun z19 => (cond (decide ((IntKind.wrap .i64 ((IntKind.wrap .i64 ((IntKind.wrap .i64 ((IntKind.wrap .i64 (((List.length p1 : Nat) : Int) + ((List.length p6 : Nat) : Int))) + ((List.length p7 : Nat) : Int))) + ((List.length p8 : Nat) : Int))) + ((List.length pTenant4 : Nat) : Int))) > 3000)) (some (z13)) ((L_ticket_Book_Issue z19.1 z19.2.1 z19.2.2 pVisitor2 pName3 pTenant4 pEpoch5 p6).bind fun z31 => (cond (z31.2.1 != 0) (L_subwaylaw15_TicketHeld_k1 pVisitor2 pName3 pTenant4 pEpoch5 p7 p8 z13 z31 true) (L_subwaylaw15_TicketHeld_k1 pVisitor2 pName3 pTenant4 pEpoch5 p7 p8 z13 z31 (((List.length z31.1 : Nat) : Int) != 32)))))))
set_option maxRecDepth 100000 in
set_option maxHeartbeats 4000000 in
theorem L_subwaylaw15_TicketHeld_walk  (p1 : (List UInt8)) (pVisitor2 : Int) (pName3 : (List UInt8)) (pTenant4 : (List UInt8)) (pEpoch5 : Int) (p6 : (List UInt8)) (p7 : (List UInt8)) (p8 : (List UInt8)) (w0 : World) (hL : LaidW w0)  (r : (Bool)) (H : L_subwaylaw15_TicketHeld p1 pVisitor2 pName3 pTenant4 pEpoch5 p6 p7 p8 = some r) :
  Calls Tryd.prog 5 #[(.string ⟨List.toArray p1⟩), (.agg #[(.int .i64 pVisitor2), (.string ⟨List.toArray pName3⟩), (.string ⟨List.toArray pTenant4⟩), (.int .i64 pEpoch5)]), (.string ⟨List.toArray p6⟩), (.string ⟨List.toArray p7⟩), (.string ⟨List.toArray p8⟩)] w0 (fun e w' => e = .returned (.bool r) ∧ SP [] w0 w' []) := by
 unfold L_subwaylaw15_TicketHeld at H
 refine calls_go (n := 129) Tryd.func5 K K K ?_
 have hs0 := SP.start [] w0
 refine At.sq K ?_
 refine At.region K K ?_
 refine In.step (k' := 1) rfl K ?_
 refine Step.box (t := 31) (x := (.tmp 1)) (v := (.agg #[(.int .i64 pVisitor2), (.string ⟨List.toArray pName3⟩), (.string ⟨List.toArray pTenant4⟩), (.int .i64 pEpoch5)])) (d := (some 6)) (k := 0) K rfl K hs0 ?_
 intro g9 w10 (hs12 : SP [] w0 w10 [boxE g9 31 #[(.int .i64 pVisitor2), (.string ⟨List.toArray pName3⟩), (.string ⟨List.toArray pTenant4⟩), (.int .i64 pEpoch5)]])
 refine In.run' 1 (k' := 2) rfl [(10, (.bool false))] K ?_
 refine In.fin K ?_
 refine At.sq K ?_
 refine At.region K K ?_
 obtain ⟨z13, hz14, H⟩ := bind_elim H
 refine In.step (k' := 1) rfl K ?_
 refine Step.callF (f := 9) (fo := (.func 9)) (xs := #[]) (tys := #[]) (first := #[]) (captured := #[]) (d := (some 21)) (k := 0) K rfl K K Tryd.call9 (L_subwaylaw15_head_walk   w10 (laid_below hL (SP.keeps hs12)) z13 hz14) ?_
 rintro e w15 ⟨rfl, hs16⟩
 refine ⟨_, rfl, ?_⟩
 have hs18 : SP [] w0 w15 [boxE g9 31 #[(.int .i64 pVisitor2), (.string ⟨List.toArray pName3⟩), (.string ⟨List.toArray pTenant4⟩), (.int .i64 pEpoch5)]] := SP.call hs12 hs16
 clear hs16
 refine In.run' 1 (k' := 2) rfl [(11, (.bool z13))] K ?_
 refine In.fin K ?_
 refine At.sq K ?_
 refine At.region K K ?_
 refine In.run' 1 (k' := 1) rfl [(22, (.string ⟨List.toArray p1⟩))] K ?_
 obtain ⟨z19, hz20, H⟩ := bind_elim H
 refine In.step (k' := 2) rfl K ?_
 refine Step.callF (f := 10) (fo := (.func 10)) (xs := #[(.tmp 22)]) (tys := #[9]) (first := #[]) (captured := #[]) (d := (some 23)) (k := 1) K rfl K K Tryd.call10 (L_ticket_New_walk  p1 w15  z19 hz20) ?_
 rintro e w21 ⟨g23, A24, c25, A26, c27, rfl, hs22⟩
 refine ⟨_, rfl, ?_⟩
 have hs29 : SP [] w0 w21 [boxE g9 31 #[(.int .i64 pVisitor2), (.string ⟨List.toArray pName3⟩), (.string ⟨List.toArray pTenant4⟩), (.int .i64 pEpoch5)], boxE g23 56 #[(.slice A24 (List.length z19.1) c25), (.int .i64 z19.2.1), (.slice A26 (List.length z19.2.2) c27)], rdE eU8 A24 c25 z19.1, rowT 59 (ePair (eInt .i64) (ePair eStr (ePair eStr (ePair (eInt .i64) eStr)))) A26 c27 z19.2.2] := SP.call hs18 hs22
 clear hs22
 refine In.run' 1 (k' := 3) rfl [(12, (pt g23 0))] K ?_
 refine In.fin K ?_
 refine At.sq K ?_
 refine At.sq K ?_
 refine At.region K K ?_
 refine In.run' 15 (k' := 15) rfl [(24, (pt g23 0)), (25, (.bool false)), (26, (.bool false)), (27, (.string ⟨List.toArray p1⟩)), (28, (.int .i64 ((List.length p1 : Nat) : Int))), (29, (.string ⟨List.toArray p6⟩)), (30, (.int .i64 ((List.length p6 : Nat) : Int))), (31, (.int .i64 (IntKind.wrap .i64 (((List.length p1 : Nat) : Int) + ((List.length p6 : Nat) : Int))))), (32, (.string ⟨List.toArray p7⟩)), (33, (.int .i64 ((List.length p7 : Nat) : Int))), (34, (.int .i64 (IntKind.wrap .i64 ((IntKind.wrap .i64 (((List.length p1 : Nat) : Int) + ((List.length p6 : Nat) : Int))) + ((List.length p7 : Nat) : Int))))), (35, (.string ⟨List.toArray p8⟩)), (36, (.int .i64 ((List.length p8 : Nat) : Int))), (37, (.int .i64 (IntKind.wrap .i64 ((IntKind.wrap .i64 ((IntKind.wrap .i64 (((List.length p1 : Nat) : Int) + ((List.length p6 : Nat) : Int))) + ((List.length p7 : Nat) : Int))) + ((List.length p8 : Nat) : Int))))), (38, (pt g9 2))] K ?_
 refine In.step (k' := 16) rfl K ?_
 refine Step.load (t := 9) (x := (.tmp 38)) (g := g9) (off := 2) (i := 0) (v := (.string ⟨List.toArray pTenant4⟩)) (d := (some 39)) (k := 15) K rfl K hs29 rfl K ?_
 refine In.run' 4 (k' := 20) rfl [(40, (.int .i64 ((List.length pTenant4 : Nat) : Int))), (41, (.int .i64 (IntKind.wrap .i64 ((IntKind.wrap .i64 ((IntKind.wrap .i64 ((IntKind.wrap .i64 (((List.length p1 : Nat) : Int) + ((List.length p6 : Nat) : Int))) + ((List.length p7 : Nat) : Int))) + ((List.length p8 : Nat) : Int))) + ((List.length pTenant4 : Nat) : Int))))), (42, (.bool (decide ((IntKind.wrap .i64 ((IntKind.wrap .i64 ((IntKind.wrap .i64 ((IntKind.wrap .i64 (((List.length p1 : Nat) : Int) + ((List.length p6 : Nat) : Int))) + ((List.length p7 : Nat) : Int))) + ((List.length p8 : Nat) : Int))) + ((List.length pTenant4 : Nat) : Int))) > 3000)))), (43, (.bool (decide ((IntKind.wrap .i64 ((IntKind.wrap .i64 ((IntKind.wrap .i64 ((IntKind.wrap .i64 (((List.length p1 : Nat) : Int) + ((List.length p6 : Nat) : Int))) + ((List.length p7 : Nat) : Int))) + ((List.length p8 : Nat) : Int))) + ((List.length pTenant4 : Nat) : Int))) > 3000))))] K ?_
 refine In.fin K ?_
 refine At.cd K (o := (.tmp 43)) K (b := (decide ((IntKind.wrap .i64 ((IntKind.wrap .i64 ((IntKind.wrap .i64 ((IntKind.wrap .i64 (((List.length p1 : Nat) : Int) + ((List.length p6 : Nat) : Int))) + ((List.length p7 : Nat) : Int))) + ((List.length p8 : Nat) : Int))) + ((List.length pTenant4 : Nat) : Int))) > 3000))) K (fun hb30 => ?_) (fun hb30 => ?_)
 ·have H := ct H hb30
  refine At.sq K ?_
  refine At.region K K ?_
  refine In.run' 6 (k' := 6) rfl [(44, (pt g23 0)), (45, (.bool true)), (46, (.bool true)), (47, (.bool z13)), (48, (.bool z13)), (10, (.bool z13))] K ?_
  refine In.fin K ?_
  refine At.ret K ?_
  refine ⟨(.bool z13), K, ?_⟩
  obtain rfl := some_elim H
  exact ⟨rfl, SP.sel hs29 [] rfl rfl⟩
 ·have H := cf H hb30
  refine At.skip K ?_
  refine At.sq K ?_
  refine At.region K K ?_
  refine In.run' 1 (k' := 1) rfl [(50, (pt g23 0))] K ?_
  refine In.step (k' := 2) rfl K ?_
  refine Step.load (t := 31) (x := (.tmp 6)) (g := g9) (off := 0) (i := 0) (v := (.agg #[(.int .i64 pVisitor2), (.string ⟨List.toArray pName3⟩), (.string ⟨List.toArray pTenant4⟩), (.int .i64 pEpoch5)])) (d := (some 51)) (k := 1) K rfl K hs29 rfl K ?_
  refine In.run' 1 (k' := 3) rfl [(52, (.string ⟨List.toArray p6⟩))] K ?_
  obtain ⟨z31, hz32, H⟩ := bind_elim H
  refine In.step (k' := 4) rfl K ?_
  refine Step.callF (f := 18) (fo := (.func 18)) (xs := #[(.tmp 50), (.tmp 51), (.tmp 52)]) (tys := #[24, 31, 9]) (first := #[]) (captured := #[]) (d := (some 53)) (k := 3) K rfl K K Tryd.call18 (L_ticket_Book_Issue_walk g23 A24 c25 A26 c27 z19.1 z19.2.1 z19.2.2 pVisitor2 pName3 pTenant4 pEpoch5 p6 w21 (fun w hm => laid_below hL (SP.below_of hs29 (l := [1, 2, 3]) rfl hm)) (SP.sub hs29 [1, 2, 3] rfl rfl) z31 hz32) ?_
  rintro e w33 ⟨A35, c36, A37, c38, rfl, hs34⟩
  refine ⟨_, rfl, ?_⟩
  have hs40 : SP [] w0 w33 [boxE g9 31 #[(.int .i64 pVisitor2), (.string ⟨List.toArray pName3⟩), (.string ⟨List.toArray pTenant4⟩), (.int .i64 pEpoch5)], boxE g23 56 #[(.slice A35 (List.length z31.2.2.1) c36), (.int .i64 z31.2.2.2.1), (.slice A37 (List.length z31.2.2.2.2) c38)], rdE eU8 A35 c36 z31.2.2.1, rowT 59 (ePair (eInt .i64) (ePair eStr (ePair eStr (ePair (eInt .i64) eStr)))) A37 c38 z31.2.2.2.2] := SP.callS hs29 [1, 2, 3] [0] rfl rfl hs34 rfl
  clear hs34
  refine In.run' 5 (k' := 9) rfl [(49, (.tuple #[(.string ⟨List.toArray z31.1⟩), (.int .i64 z31.2.1)])), (54, (.string ⟨List.toArray z31.1⟩)), (55, (.int .i64 z31.2.1)), (13, (.string ⟨List.toArray z31.1⟩)), (14, (.int .i64 z31.2.1))] K ?_
  refine In.fin K ?_
  refine At.sq K ?_
  refine At.sq K ?_
  refine At.join (fun ρ w => ∃ (v42 : Bool), Known ρ [(3, (.string ⟨List.toArray p7⟩)), (4, (.string ⟨List.toArray p8⟩)), (6, (pt g9 0)), (11, (.bool z13)), (12, (pt g23 0)), (13, (.string ⟨List.toArray z31.1⟩)), (62, (.bool v42))] ∧ SP [] w0 w [boxE g9 31 #[(.int .i64 pVisitor2), (.string ⟨List.toArray pName3⟩), (.string ⟨List.toArray pTenant4⟩), (.int .i64 pEpoch5)], rdE eU8 A35 c36 z31.2.2.1, rowT 59 (ePair (eInt .i64) (ePair eStr (ePair eStr (ePair (eInt .i64) eStr)))) A37 c38 z31.2.2.2.2, boxE g23 56 #[(.slice A35 (List.length z31.2.2.1) c36), (.int .i64 z31.2.2.2.1), (.slice A37 (List.length z31.2.2.2.2) c38)]] ∧ L_subwaylaw15_TicketHeld_k1 pVisitor2 pName3 pTenant4 pEpoch5 p7 p8 z13 z31 v42 = some r) ?_ ?_
  ·refine At.region K K ?_
   refine In.run' 3 (k' := 3) rfl [(56, (.int .i64 z31.2.1)), (57, (.bool (z31.2.1 != 0))), (58, (.bool (z31.2.1 != 0)))] K ?_
   refine In.guard (t := 58) (b := (z31.2.1 != 0)) K (fun hb165 => ?_) (fun hb165 => ?_)
   ·have H := ct H hb165
    refine In.run' 4 (k' := 7) rfl [(59, undef), (60, undef), (61, undef), (62, (.bool true))] K ?_
    refine In.fin K ?_
    exact ⟨true, ⟨K, K, K, K, K, K, K, trivial⟩, SP.sel hs40 [0, 2, 3, 1] rfl rfl, H⟩
   ·have H := cf H hb165
    refine In.run' 4 (k' := 7) rfl [(59, (.string ⟨List.toArray z31.1⟩)), (60, (.int .i64 ((List.length z31.1 : Nat) : Int))), (61, (.bool (((List.length z31.1 : Nat) : Int) != 32))), (62, (.bool (((List.length z31.1 : Nat) : Int) != 32)))] K ?_
    refine In.fin K ?_
    exact ⟨(((List.length z31.1 : Nat) : Int) != 32), ⟨K, K, K, K, K, K, K, trivial⟩, SP.sel hs40 [0, 2, 3, 1] rfl rfl, H⟩
  ·rintro ρ w43 ⟨v42, hk, hs44, H⟩
   unfold L_subwaylaw15_TicketHeld_k1 at H
   first | refine At.known [(3, (.string ⟨List.toArray p7⟩)), (4, (.string ⟨List.toArray p8⟩)), (6, (pt g9 0)), (11, (.bool z13)), (12, (pt g23 0)), (13, (.string ⟨List.toArray z31.1⟩)), (62, (.bool v42))] hk ?_ | rw [← known_updL (l := [(3, (.string ⟨List.toArray p7⟩)), (4, (.string ⟨List.toArray p8⟩)), (6, (pt g9 0)), (11, (.bool z13)), (12, (pt g23 0)), (13, (.string ⟨List.toArray z31.1⟩)), (62, (.bool v42))]) hk]
   refine At.cd K (o := (.tmp 62)) K (b := v42) K (fun hb45 => ?_) (fun hb45 => ?_)
   ·have H := ct H hb45
    refine At.sq K ?_
    refine At.region K K ?_
    refine In.run' 1 (k' := 1) rfl [(10, (.bool false))] K ?_
    refine In.fin K ?_
    refine At.ret K ?_
    refine ⟨(.bool false), K, ?_⟩
    obtain rfl := some_elim H
    exact ⟨rfl, SP.sel hs44 [] rfl rfl⟩
   ·have H := cf H hb45
    refine At.skip K ?_
    refine At.sq K ?_
    refine At.region K K ?_
    refine In.run' 3 (k' := 3) rfl [(64, (pt g23 0)), (65, (.string ⟨List.toArray p8⟩)), (66, (.string ⟨List.toArray p7⟩))] K ?_
    obtain ⟨z46, hz47, H⟩ := bind_elim H
    refine In.step (k' := 4) rfl K ?_
    refine Step.callF (f := 13) (fo := (.func 13)) (xs := #[(.tmp 64), (.tmp 65), (.tmp 66)]) (tys := #[24, 9, 9]) (first := #[]) (captured := #[]) (d := (some 67)) (k := 3) K rfl K K Tryd.call13 (L_ticket_Book_Redeem_walk g23 A35 c36 A37 c38 z31.2.2.1 z31.2.2.2.1 z31.2.2.2.2 p8 p7 w43 (SP.sub hs44 [3, 1, 2] rfl rfl) z46 hz47) ?_
    rintro e w48 ⟨A50, c51, A52, c53, rfl, hs49⟩
    refine ⟨_, rfl, ?_⟩
    have hs55 : SP [] w0 w48 [boxE g9 31 #[(.int .i64 pVisitor2), (.string ⟨List.toArray pName3⟩), (.string ⟨List.toArray pTenant4⟩), (.int .i64 pEpoch5)], boxE g23 56 #[(.slice A50 (List.length z46.2.2.2.2.2.1) c51), (.int .i64 z46.2.2.2.2.2.2.1), (.slice A52 (List.length z46.2.2.2.2.2.2.2) c53)], rdE eU8 A50 c51 z46.2.2.2.2.2.1, rowT 59 (ePair (eInt .i64) (ePair eStr (ePair eStr (ePair (eInt .i64) eStr)))) A52 c53 z46.2.2.2.2.2.2.2] := SP.callS hs44 [3, 1, 2] [0] rfl rfl hs49 rfl
    clear hs49
    refine In.run' 3 (k' := 7) rfl [(63, (.tuple #[(.agg #[(.int .i64 z46.1), (.string ⟨List.toArray z46.2.1⟩), (.string ⟨List.toArray z46.2.2.1⟩), (.int .i64 z46.2.2.2.1)]), (.int .i64 z46.2.2.2.2.1)])), (68, (.agg #[(.int .i64 z46.1), (.string ⟨List.toArray z46.2.1⟩), (.string ⟨List.toArray z46.2.2.1⟩), (.int .i64 z46.2.2.2.1)])), (69, (.int .i64 z46.2.2.2.2.1))] K ?_
    refine In.step (k' := 8) rfl K ?_
    refine Step.alloc (t := 31) (z := (.agg #[(.int .i64 0), (.string ⟨List.toArray ([] : List UInt8)⟩), (.string ⟨List.toArray ([] : List UInt8)⟩), (.int .i64 0)])) (d := (some 15)) (k := 7) K rfl K hs55 ?_
    intro g56 w57 (hs59 : SP [] w0 w57 [boxE g9 31 #[(.int .i64 pVisitor2), (.string ⟨List.toArray pName3⟩), (.string ⟨List.toArray pTenant4⟩), (.int .i64 pEpoch5)], boxE g23 56 #[(.slice A50 (List.length z46.2.2.2.2.2.1) c51), (.int .i64 z46.2.2.2.2.2.2.1), (.slice A52 (List.length z46.2.2.2.2.2.2.2) c53)], rdE eU8 A50 c51 z46.2.2.2.2.2.1, rowT 59 (ePair (eInt .i64) (ePair eStr (ePair eStr (ePair (eInt .i64) eStr)))) A52 c53 z46.2.2.2.2.2.2.2, boxE g56 31 #[(.int .i64 0), (.string ⟨List.toArray ([] : List UInt8)⟩), (.string ⟨List.toArray ([] : List UInt8)⟩), (.int .i64 0)]])
    refine In.step (k' := 9) rfl K ?_
    refine Step.store (t := 31) (x := (.tmp 15)) (y := (.tmp 68)) (g := g56) (off := 0) (i := 4) (v := (.agg #[(.int .i64 z46.1), (.string ⟨List.toArray z46.2.1⟩), (.string ⟨List.toArray z46.2.2.1⟩), (.int .i64 z46.2.2.2.1)])) (cs' := #[(.int .i64 z46.1), (.string ⟨List.toArray z46.2.1⟩), (.string ⟨List.toArray z46.2.2.1⟩), (.int .i64 z46.2.2.2.1)]) (d := none) (k := 8) K rfl K K hs59 rfl K ?_
    intro w60 (hs62 : SP [] w0 w60 [boxE g9 31 #[(.int .i64 pVisitor2), (.string ⟨List.toArray pName3⟩), (.string ⟨List.toArray pTenant4⟩), (.int .i64 pEpoch5)], boxE g23 56 #[(.slice A50 (List.length z46.2.2.2.2.2.1) c51), (.int .i64 z46.2.2.2.2.2.2.1), (.slice A52 (List.length z46.2.2.2.2.2.2.2) c53)], rdE eU8 A50 c51 z46.2.2.2.2.2.1, rowT 59 (ePair (eInt .i64) (ePair eStr (ePair eStr (ePair (eInt .i64) eStr)))) A52 c53 z46.2.2.2.2.2.2.2, boxE g56 31 #[(.int .i64 z46.1), (.string ⟨List.toArray z46.2.1⟩), (.string ⟨List.toArray z46.2.2.1⟩), (.int .i64 z46.2.2.2.1)]])
    refine In.run' 1 (k' := 10) rfl [(16, (.int .i64 z46.2.2.2.2.1))] K ?_
    refine In.fin K ?_
    refine At.sq K ?_
    refine At.sq K ?_
    refine At.join (fun ρ w => ∃ (v64 : Bool), Known ρ [(6, (pt g9 0)), (11, (.bool z13)), (12, (pt g23 0)), (13, (.string ⟨List.toArray z31.1⟩)), (16, (.int .i64 z46.2.2.2.2.1)), (78, (.bool v64))] ∧ SP [] w0 w [boxE g9 31 #[(.int .i64 pVisitor2), (.string ⟨List.toArray pName3⟩), (.string ⟨List.toArray pTenant4⟩), (.int .i64 pEpoch5)], rdE eU8 A50 c51 z46.2.2.2.2.2.1, rowT 59 (ePair (eInt .i64) (ePair eStr (ePair eStr (ePair (eInt .i64) eStr)))) A52 c53 z46.2.2.2.2.2.2.2, boxE g23 56 #[(.slice A50 (List.length z46.2.2.2.2.2.1) c51), (.int .i64 z46.2.2.2.2.2.2.1), (.slice A52 (List.length z46.2.2.2.2.2.2.2) c53)]] ∧ L_subwaylaw15_TicketHeld_k2 pVisitor2 pName3 pTenant4 pEpoch5 z13 z31 z46 v64 = some r) ?_ ?_
    ·refine At.region K K ?_
     refine In.run' 2 (k' := 2) rfl [(70, (.string ⟨List.toArray p8⟩)), (71, (.string ⟨List.toArray z31.1⟩))] K ?_
     refine In.step (k' := 3) rfl K ?_
     refine Step.strOp (op := .eql) (T := 9) (T' := 9) (x := (.tmp 70)) (y := (.tmp 71)) (a := p8) (b := z31.1) (r := (.bool (p8 == z31.1))) (d := (some 72)) (k := 2) K rfl K K rfl ?_
     refine In.run' 1 (k' := 4) rfl [(73, (.bool (p8 == z31.1)))] K ?_
     refine In.guard (t := 73) (b := (p8 == z31.1)) K (fun hb164 => ?_) (fun hb164 => ?_)
     ·have H := ct H hb164
      refine In.run' 2 (k' := 6) rfl [(74, (.string ⟨List.toArray p7⟩)), (75, (pt g9 2))] K ?_
      refine In.step (k' := 7) rfl K ?_
      refine Step.load (t := 9) (x := (.tmp 75)) (g := g9) (off := 2) (i := 0) (v := (.string ⟨List.toArray pTenant4⟩)) (d := (some 76)) (k := 6) K rfl K hs62 rfl K ?_
      refine In.step (k' := 8) rfl K ?_
      refine Step.strOp (op := .eql) (T := 9) (T' := 9) (x := (.tmp 74)) (y := (.tmp 76)) (a := p7) (b := pTenant4) (r := (.bool (p7 == pTenant4))) (d := (some 77)) (k := 7) K rfl K K rfl ?_
      refine In.run' 1 (k' := 9) rfl [(78, (.bool (p7 == pTenant4)))] K ?_
      refine In.fin K ?_
      exact ⟨(p7 == pTenant4), ⟨K, K, K, K, K, K, trivial⟩, SP.sel hs62 [0, 2, 3, 1] rfl rfl, H⟩
     ·have H := cf H hb164
      refine In.run' 5 (k' := 9) rfl [(74, undef), (75, undef), (76, undef), (77, undef), (78, (.bool false))] K ?_
      refine In.fin K ?_
      exact ⟨false, ⟨K, K, K, K, K, K, trivial⟩, SP.sel hs62 [0, 2, 3, 1] rfl rfl, H⟩
    ·rintro ρ w65 ⟨v64, hk, hs66, H⟩
     unfold L_subwaylaw15_TicketHeld_k2 at H
     first | refine At.known [(6, (pt g9 0)), (11, (.bool z13)), (12, (pt g23 0)), (13, (.string ⟨List.toArray z31.1⟩)), (16, (.int .i64 z46.2.2.2.2.1)), (78, (.bool v64))] hk ?_ | rw [← known_updL (l := [(6, (pt g9 0)), (11, (.bool z13)), (12, (pt g23 0)), (13, (.string ⟨List.toArray z31.1⟩)), (16, (.int .i64 z46.2.2.2.2.1)), (78, (.bool v64))]) hk]
     refine At.cd K (o := (.tmp 78)) K (b := v64) K (fun hb67 => ?_) (fun hb67 => ?_)
     ·have H := ct H hb67
      refine At.sq K ?_
      refine At.join (fun ρ w => ∃ (v80 : Bool), Known ρ [(10, (.bool v80))] ∧ SP [] w0 w [] ∧ L_subwaylaw15_TicketHeld_k3 v80 = some r) ?_ ?_
      ·refine At.region K K ?_
       refine In.run' 2 (k' := 2) rfl [(79, (.bool z13)), (80, (.bool z13))] K ?_
       refine In.guard (t := 80) (b := z13) K (fun hb83 => ?_) (fun hb83 => ?_)
       ·have H := ct H hb83
        refine In.run' 4 (k' := 6) rfl [(81, (.int .i64 z46.2.2.2.2.1)), (82, (.bool (z46.2.2.2.2.1 == 0))), (83, (.bool (z46.2.2.2.2.1 == 0))), (84, (.bool (z46.2.2.2.2.1 == 0)))] K ?_
        refine In.guard (t := 84) (b := (z46.2.2.2.2.1 == 0)) K (fun hb84 => ?_) (fun hb84 => ?_)
        ·have H := ct H hb84
         refine In.run' 1 (k' := 7) rfl [(85, (pt g23 0))] K ?_
         obtain ⟨z85, hz86, H⟩ := bind_elim H
         refine In.step (k' := 8) rfl K ?_
         refine Step.callF (f := 20) (fo := (.func 20)) (xs := #[(.tmp 85)]) (tys := #[24]) (first := #[]) (captured := #[]) (d := (some 86)) (k := 7) K rfl K K Tryd.call20 (L_ticket_Book_Many_walk g23 A50 c51 A52 c53 z46.2.2.2.2.2.1 z46.2.2.2.2.2.2.1 z46.2.2.2.2.2.2.2 w65 (SP.sub hs66 [3, 1, 2] rfl rfl) z85 hz86) ?_
         rintro e w87 ⟨A89, c90, A91, c92, rfl, hs88⟩
         refine ⟨_, rfl, ?_⟩
         have hs94 : SP [] w0 w87 [boxE g9 31 #[(.int .i64 pVisitor2), (.string ⟨List.toArray pName3⟩), (.string ⟨List.toArray pTenant4⟩), (.int .i64 pEpoch5)], boxE g23 56 #[(.slice A89 (List.length z46.2.2.2.2.2.1) c90), (.int .i64 z46.2.2.2.2.2.2.1), (.slice A91 (List.length z46.2.2.2.2.2.2.2) c92)], rdE eU8 A89 c90 z46.2.2.2.2.2.1, rowT 59 (ePair (eInt .i64) (ePair eStr (ePair eStr (ePair (eInt .i64) eStr)))) A91 c92 z46.2.2.2.2.2.2.2] := SP.callS hs66 [3, 1, 2] [0] rfl rfl hs88 rfl
         clear hs88
         refine In.run' 3 (k' := 11) rfl [(87, (.bool (z85 == 0))), (88, (.bool (z85 == 0))), (10, (.bool (z85 == 0)))] K ?_
         refine In.fin K ?_
         exact ⟨(z85 == 0), ⟨K, trivial⟩, SP.sel hs94 [] rfl rfl, H⟩
        ·have H := cf H hb84
         refine In.run' 5 (k' := 11) rfl [(85, undef), (86, undef), (87, undef), (88, (.bool false)), (10, (.bool false))] K ?_
         refine In.fin K ?_
         exact ⟨false, ⟨K, trivial⟩, SP.sel hs66 [] rfl rfl, H⟩
       ·have H := cf H hb83
        refine In.run' 9 (k' := 11) rfl [(81, undef), (82, undef), (83, (.bool false)), (84, (.bool false)), (85, undef), (86, undef), (87, undef), (88, (.bool false)), (10, (.bool false))] K ?_
        refine In.fin K ?_
        exact ⟨false, ⟨K, trivial⟩, SP.sel hs66 [] rfl rfl, H⟩
      ·rintro ρ w81 ⟨v80, hk, hs82, H⟩
       unfold L_subwaylaw15_TicketHeld_k3 at H
       first | refine At.known [(10, (.bool v80))] hk ?_ | rw [← known_updL (l := [(10, (.bool v80))]) hk]
       refine At.ret K ?_
       refine ⟨(.bool v80), K, ?_⟩
       obtain rfl := some_elim H
       exact ⟨rfl, SP.sel hs82 [] rfl rfl⟩
     ·have H := cf H hb67
      refine At.skip K ?_
      refine At.sq K ?_
      refine At.region K K ?_
      refine In.run' 3 (k' := 3) rfl [(90, (pt g23 0)), (91, (.string ⟨List.toArray z31.1⟩)), (92, (pt g9 2))] K ?_
      refine In.step (k' := 4) rfl K ?_
      refine Step.load (t := 9) (x := (.tmp 92)) (g := g9) (off := 2) (i := 0) (v := (.string ⟨List.toArray pTenant4⟩)) (d := (some 93)) (k := 3) K rfl K hs66 rfl K ?_
      obtain ⟨hl96, H⟩ := app_elim H
      obtain ⟨l95, hyl95⟩ : ∃ y, pTenant4 ++ ([120] : List UInt8) = y := ⟨_, rfl⟩
      rw [hyl95] at H
      refine In.step (k' := 5) rfl K ?_
      refine Step.strCat (T := 9) (T' := 9) (x := (.tmp 93)) (y := (.const (.string ⟨List.toArray ([120] : List UInt8)⟩))) (a := pTenant4) (b := ([120] : List UInt8)) (d := (some 94)) (k := 4) K rfl K K hl96 ?_
      rw [hyl95]
      obtain ⟨z97, hz98, H⟩ := bind_elim H
      refine In.step (k' := 6) rfl K ?_
      refine Step.callF (f := 13) (fo := (.func 13)) (xs := #[(.tmp 90), (.tmp 91), (.tmp 94)]) (tys := #[24, 9, 9]) (first := #[]) (captured := #[]) (d := (some 95)) (k := 5) K rfl K K Tryd.call13 (L_ticket_Book_Redeem_walk g23 A50 c51 A52 c53 z46.2.2.2.2.2.1 z46.2.2.2.2.2.2.1 z46.2.2.2.2.2.2.2 z31.1 l95 w65 (SP.sub hs66 [3, 1, 2] rfl rfl) z97 hz98) ?_
      rintro e w99 ⟨A101, c102, A103, c104, rfl, hs100⟩
      refine ⟨_, rfl, ?_⟩
      have hs106 : SP [] w0 w99 [boxE g9 31 #[(.int .i64 pVisitor2), (.string ⟨List.toArray pName3⟩), (.string ⟨List.toArray pTenant4⟩), (.int .i64 pEpoch5)], boxE g23 56 #[(.slice A101 (List.length z97.2.2.2.2.2.1) c102), (.int .i64 z97.2.2.2.2.2.2.1), (.slice A103 (List.length z97.2.2.2.2.2.2.2) c104)], rdE eU8 A101 c102 z97.2.2.2.2.2.1, rowT 59 (ePair (eInt .i64) (ePair eStr (ePair eStr (ePair (eInt .i64) eStr)))) A103 c104 z97.2.2.2.2.2.2.2] := SP.callS hs66 [3, 1, 2] [0] rfl rfl hs100 rfl
      clear hs100
      refine In.run' 3 (k' := 9) rfl [(89, (.tuple #[(.agg #[(.int .i64 z97.1), (.string ⟨List.toArray z97.2.1⟩), (.string ⟨List.toArray z97.2.2.1⟩), (.int .i64 z97.2.2.2.1)]), (.int .i64 z97.2.2.2.2.1)])), (96, (.agg #[(.int .i64 z97.1), (.string ⟨List.toArray z97.2.1⟩), (.string ⟨List.toArray z97.2.2.1⟩), (.int .i64 z97.2.2.2.1)])), (97, (.int .i64 z97.2.2.2.2.1))] K ?_
      refine In.step (k' := 10) rfl K ?_
      refine Step.alloc (t := 31) (z := (.agg #[(.int .i64 0), (.string ⟨List.toArray ([] : List UInt8)⟩), (.string ⟨List.toArray ([] : List UInt8)⟩), (.int .i64 0)])) (d := (some 17)) (k := 9) K rfl K hs106 ?_
      intro g107 w108 (hs110 : SP [] w0 w108 [boxE g9 31 #[(.int .i64 pVisitor2), (.string ⟨List.toArray pName3⟩), (.string ⟨List.toArray pTenant4⟩), (.int .i64 pEpoch5)], boxE g23 56 #[(.slice A101 (List.length z97.2.2.2.2.2.1) c102), (.int .i64 z97.2.2.2.2.2.2.1), (.slice A103 (List.length z97.2.2.2.2.2.2.2) c104)], rdE eU8 A101 c102 z97.2.2.2.2.2.1, rowT 59 (ePair (eInt .i64) (ePair eStr (ePair eStr (ePair (eInt .i64) eStr)))) A103 c104 z97.2.2.2.2.2.2.2, boxE g107 31 #[(.int .i64 0), (.string ⟨List.toArray ([] : List UInt8)⟩), (.string ⟨List.toArray ([] : List UInt8)⟩), (.int .i64 0)]])
      refine In.step (k' := 11) rfl K ?_
      refine Step.store (t := 31) (x := (.tmp 17)) (y := (.tmp 96)) (g := g107) (off := 0) (i := 4) (v := (.agg #[(.int .i64 z97.1), (.string ⟨List.toArray z97.2.1⟩), (.string ⟨List.toArray z97.2.2.1⟩), (.int .i64 z97.2.2.2.1)])) (cs' := #[(.int .i64 z97.1), (.string ⟨List.toArray z97.2.1⟩), (.string ⟨List.toArray z97.2.2.1⟩), (.int .i64 z97.2.2.2.1)]) (d := none) (k := 10) K rfl K K hs110 rfl K ?_
      intro w111 (hs113 : SP [] w0 w111 [boxE g9 31 #[(.int .i64 pVisitor2), (.string ⟨List.toArray pName3⟩), (.string ⟨List.toArray pTenant4⟩), (.int .i64 pEpoch5)], boxE g23 56 #[(.slice A101 (List.length z97.2.2.2.2.2.1) c102), (.int .i64 z97.2.2.2.2.2.2.1), (.slice A103 (List.length z97.2.2.2.2.2.2.2) c104)], rdE eU8 A101 c102 z97.2.2.2.2.2.1, rowT 59 (ePair (eInt .i64) (ePair eStr (ePair eStr (ePair (eInt .i64) eStr)))) A103 c104 z97.2.2.2.2.2.2.2, boxE g107 31 #[(.int .i64 z97.1), (.string ⟨List.toArray z97.2.1⟩), (.string ⟨List.toArray z97.2.2.1⟩), (.int .i64 z97.2.2.2.1)]])
      refine In.run' 1 (k' := 12) rfl [(18, (.int .i64 z97.2.2.2.2.1))] K ?_
      refine In.fin K ?_
      refine At.sq K ?_
      refine At.region K K ?_
      refine In.run' 3 (k' := 3) rfl [(99, (pt g23 0)), (100, (.string ⟨List.toArray z31.1⟩)), (101, (pt g9 2))] K ?_
      refine In.step (k' := 4) rfl K ?_
      refine Step.load (t := 9) (x := (.tmp 101)) (g := g9) (off := 2) (i := 0) (v := (.string ⟨List.toArray pTenant4⟩)) (d := (some 102)) (k := 3) K rfl K hs113 rfl K ?_
      obtain ⟨z114, hz115, H⟩ := bind_elim H
      refine In.step (k' := 5) rfl K ?_
      refine Step.callF (f := 13) (fo := (.func 13)) (xs := #[(.tmp 99), (.tmp 100), (.tmp 102)]) (tys := #[24, 9, 9]) (first := #[]) (captured := #[]) (d := (some 103)) (k := 4) K rfl K K Tryd.call13 (L_ticket_Book_Redeem_walk g23 A101 c102 A103 c104 z97.2.2.2.2.2.1 z97.2.2.2.2.2.2.1 z97.2.2.2.2.2.2.2 z31.1 pTenant4 w111 (SP.sub hs113 [1, 2, 3] rfl rfl) z114 hz115) ?_
      rintro e w116 ⟨A118, c119, A120, c121, rfl, hs117⟩
      refine ⟨_, rfl, ?_⟩
      have hs123 : SP [] w0 w116 [boxE g9 31 #[(.int .i64 pVisitor2), (.string ⟨List.toArray pName3⟩), (.string ⟨List.toArray pTenant4⟩), (.int .i64 pEpoch5)], boxE g107 31 #[(.int .i64 z97.1), (.string ⟨List.toArray z97.2.1⟩), (.string ⟨List.toArray z97.2.2.1⟩), (.int .i64 z97.2.2.2.1)], boxE g23 56 #[(.slice A118 (List.length z114.2.2.2.2.2.1) c119), (.int .i64 z114.2.2.2.2.2.2.1), (.slice A120 (List.length z114.2.2.2.2.2.2.2) c121)], rdE eU8 A118 c119 z114.2.2.2.2.2.1, rowT 59 (ePair (eInt .i64) (ePair eStr (ePair eStr (ePair (eInt .i64) eStr)))) A120 c121 z114.2.2.2.2.2.2.2] := SP.callS hs113 [1, 2, 3] [0, 4] rfl rfl hs117 rfl
      clear hs117
      refine In.run' 3 (k' := 8) rfl [(98, (.tuple #[(.agg #[(.int .i64 z114.1), (.string ⟨List.toArray z114.2.1⟩), (.string ⟨List.toArray z114.2.2.1⟩), (.int .i64 z114.2.2.2.1)]), (.int .i64 z114.2.2.2.2.1)])), (104, (.agg #[(.int .i64 z114.1), (.string ⟨List.toArray z114.2.1⟩), (.string ⟨List.toArray z114.2.2.1⟩), (.int .i64 z114.2.2.2.1)])), (105, (.int .i64 z114.2.2.2.2.1))] K ?_
      refine In.step (k' := 9) rfl K ?_
      refine Step.alloc (t := 31) (z := (.agg #[(.int .i64 0), (.string ⟨List.toArray ([] : List UInt8)⟩), (.string ⟨List.toArray ([] : List UInt8)⟩), (.int .i64 0)])) (d := (some 19)) (k := 8) K rfl K hs123 ?_
      intro g124 w125 (hs127 : SP [] w0 w125 [boxE g9 31 #[(.int .i64 pVisitor2), (.string ⟨List.toArray pName3⟩), (.string ⟨List.toArray pTenant4⟩), (.int .i64 pEpoch5)], boxE g107 31 #[(.int .i64 z97.1), (.string ⟨List.toArray z97.2.1⟩), (.string ⟨List.toArray z97.2.2.1⟩), (.int .i64 z97.2.2.2.1)], boxE g23 56 #[(.slice A118 (List.length z114.2.2.2.2.2.1) c119), (.int .i64 z114.2.2.2.2.2.2.1), (.slice A120 (List.length z114.2.2.2.2.2.2.2) c121)], rdE eU8 A118 c119 z114.2.2.2.2.2.1, rowT 59 (ePair (eInt .i64) (ePair eStr (ePair eStr (ePair (eInt .i64) eStr)))) A120 c121 z114.2.2.2.2.2.2.2, boxE g124 31 #[(.int .i64 0), (.string ⟨List.toArray ([] : List UInt8)⟩), (.string ⟨List.toArray ([] : List UInt8)⟩), (.int .i64 0)]])
      refine In.step (k' := 10) rfl K ?_
      refine Step.store (t := 31) (x := (.tmp 19)) (y := (.tmp 104)) (g := g124) (off := 0) (i := 5) (v := (.agg #[(.int .i64 z114.1), (.string ⟨List.toArray z114.2.1⟩), (.string ⟨List.toArray z114.2.2.1⟩), (.int .i64 z114.2.2.2.1)])) (cs' := #[(.int .i64 z114.1), (.string ⟨List.toArray z114.2.1⟩), (.string ⟨List.toArray z114.2.2.1⟩), (.int .i64 z114.2.2.2.1)]) (d := none) (k := 9) K rfl K K hs127 rfl K ?_
      intro w128 (hs130 : SP [] w0 w128 [boxE g9 31 #[(.int .i64 pVisitor2), (.string ⟨List.toArray pName3⟩), (.string ⟨List.toArray pTenant4⟩), (.int .i64 pEpoch5)], boxE g107 31 #[(.int .i64 z97.1), (.string ⟨List.toArray z97.2.1⟩), (.string ⟨List.toArray z97.2.2.1⟩), (.int .i64 z97.2.2.2.1)], boxE g23 56 #[(.slice A118 (List.length z114.2.2.2.2.2.1) c119), (.int .i64 z114.2.2.2.2.2.2.1), (.slice A120 (List.length z114.2.2.2.2.2.2.2) c121)], rdE eU8 A118 c119 z114.2.2.2.2.2.1, rowT 59 (ePair (eInt .i64) (ePair eStr (ePair eStr (ePair (eInt .i64) eStr)))) A120 c121 z114.2.2.2.2.2.2.2, boxE g124 31 #[(.int .i64 z114.1), (.string ⟨List.toArray z114.2.1⟩), (.string ⟨List.toArray z114.2.2.1⟩), (.int .i64 z114.2.2.2.1)]])
      refine In.run' 1 (k' := 11) rfl [(20, (.int .i64 z114.2.2.2.2.1))] K ?_
      refine In.fin K ?_
      refine At.sq K ?_
      refine At.join (fun ρ w => ∃ (v146 : Bool), Known ρ [(10, (.bool v146))] ∧ SP [] w0 w [] ∧ L_subwaylaw15_TicketHeld_k4 v146 = some r) ?_ ?_
      ·refine At.region K K ?_
       refine In.run' 2 (k' := 2) rfl [(106, (.bool z13)), (107, (.bool z13))] K ?_
       refine In.guard (t := 107) (b := z13) K (fun hb149 => ?_) (fun hb149 => ?_)
       ·have H := ct H hb149
        refine In.run' 4 (k' := 6) rfl [(108, (.int .i64 z46.2.2.2.2.1)), (109, (.bool (z46.2.2.2.2.1 != 0))), (110, (.bool (z46.2.2.2.2.1 != 0))), (111, (.bool (z46.2.2.2.2.1 != 0)))] K ?_
        refine In.guard (t := 111) (b := (z46.2.2.2.2.1 != 0)) K (fun hb150 => ?_) (fun hb150 => ?_)
        ·have H := ct H hb150
         refine In.run' 4 (k' := 10) rfl [(112, (.int .i64 z97.2.2.2.2.1)), (113, (.bool (z97.2.2.2.2.1 == 131))), (114, (.bool (z97.2.2.2.2.1 == 131))), (115, (.bool (z97.2.2.2.2.1 == 131)))] K ?_
         refine In.guard (t := 115) (b := (z97.2.2.2.2.1 == 131)) K (fun hb151 => ?_) (fun hb151 => ?_)
         ·have H := ct H hb151
          refine In.step (k' := 11) rfl K ?_
          refine Step.load (t := 31) (x := (.tmp 19)) (g := g124) (off := 0) (i := 5) (v := (.agg #[(.int .i64 z114.1), (.string ⟨List.toArray z114.2.1⟩), (.string ⟨List.toArray z114.2.2.1⟩), (.int .i64 z114.2.2.2.1)])) (d := (some 116)) (k := 10) K rfl K hs130 rfl K ?_
          refine In.step (k' := 12) rfl K ?_
          refine Step.load (t := 31) (x := (.tmp 6)) (g := g9) (off := 0) (i := 0) (v := (.agg #[(.int .i64 pVisitor2), (.string ⟨List.toArray pName3⟩), (.string ⟨List.toArray pTenant4⟩), (.int .i64 pEpoch5)])) (d := (some 117)) (k := 11) K rfl K hs130 rfl K ?_
          refine In.step (k' := 13) rfl K ?_
          refine Step.bin (op := .eql) (T := 31) (T' := 31) (x := (.tmp 116)) (y := (.tmp 117)) (vx := (.agg #[(.int .i64 z114.1), (.string ⟨List.toArray z114.2.1⟩), (.string ⟨List.toArray z114.2.2.1⟩), (.int .i64 z114.2.2.2.1)])) (vy := (.agg #[(.int .i64 pVisitor2), (.string ⟨List.toArray pName3⟩), (.string ⟨List.toArray pTenant4⟩), (.int .i64 pEpoch5)])) (v := (.bool ((z114.1 == pVisitor2) && ((z114.2.1 == pName3) && ((z114.2.2.1 == pTenant4) && (z114.2.2.2.1 == pEpoch5)))))) (d := (some 118)) (k := 12) K rfl K K (by clear H; intro w; simp only [beq_dec]; go_simp; simp only [struct_ifn, struct_ifn0, struct_if, beq_dec, Bool.and_true] <;> simp only [Bool.not_and]) ?_
          refine In.run' 2 (k' := 15) rfl [(119, (.bool ((z114.1 == pVisitor2) && ((z114.2.1 == pName3) && ((z114.2.2.1 == pTenant4) && (z114.2.2.2.1 == pEpoch5)))))), (120, (.bool ((z114.1 == pVisitor2) && ((z114.2.1 == pName3) && ((z114.2.2.1 == pTenant4) && (z114.2.2.2.1 == pEpoch5))))))] K ?_
          refine In.guard (t := 120) (b := ((z114.1 == pVisitor2) && ((z114.2.1 == pName3) && ((z114.2.2.1 == pTenant4) && (z114.2.2.2.1 == pEpoch5))))) K (fun hb152 => ?_) (fun hb152 => ?_)
          ·have H := ct H hb152
           refine In.run' 4 (k' := 19) rfl [(121, (.int .i64 z114.2.2.2.2.1)), (122, (.bool (z114.2.2.2.2.1 == 0))), (123, (.bool (z114.2.2.2.2.1 == 0))), (124, (.bool (z114.2.2.2.2.1 == 0)))] K ?_
           refine In.guard (t := 124) (b := (z114.2.2.2.2.1 == 0)) K (fun hb153 => ?_) (fun hb153 => ?_)
           ·have H := ct H hb153
            refine In.run' 1 (k' := 20) rfl [(125, (pt g23 0))] K ?_
            obtain ⟨z154, hz155, H⟩ := bind_elim H
            refine In.step (k' := 21) rfl K ?_
            refine Step.callF (f := 20) (fo := (.func 20)) (xs := #[(.tmp 125)]) (tys := #[24]) (first := #[]) (captured := #[]) (d := (some 126)) (k := 20) K rfl K K Tryd.call20 (L_ticket_Book_Many_walk g23 A118 c119 A120 c121 z114.2.2.2.2.2.1 z114.2.2.2.2.2.2.1 z114.2.2.2.2.2.2.2 w128 (SP.sub hs130 [2, 3, 4] rfl rfl) z154 hz155) ?_
            rintro e w156 ⟨A158, c159, A160, c161, rfl, hs157⟩
            refine ⟨_, rfl, ?_⟩
            have hs163 : SP [] w0 w156 [boxE g9 31 #[(.int .i64 pVisitor2), (.string ⟨List.toArray pName3⟩), (.string ⟨List.toArray pTenant4⟩), (.int .i64 pEpoch5)], boxE g107 31 #[(.int .i64 z97.1), (.string ⟨List.toArray z97.2.1⟩), (.string ⟨List.toArray z97.2.2.1⟩), (.int .i64 z97.2.2.2.1)], boxE g124 31 #[(.int .i64 z114.1), (.string ⟨List.toArray z114.2.1⟩), (.string ⟨List.toArray z114.2.2.1⟩), (.int .i64 z114.2.2.2.1)], boxE g23 56 #[(.slice A158 (List.length z114.2.2.2.2.2.1) c159), (.int .i64 z114.2.2.2.2.2.2.1), (.slice A160 (List.length z114.2.2.2.2.2.2.2) c161)], rdE eU8 A158 c159 z114.2.2.2.2.2.1, rowT 59 (ePair (eInt .i64) (ePair eStr (ePair eStr (ePair (eInt .i64) eStr)))) A160 c161 z114.2.2.2.2.2.2.2] := SP.callS hs130 [2, 3, 4] [0, 1, 5] rfl rfl hs157 rfl
            clear hs157
            refine In.run' 3 (k' := 24) rfl [(127, (.bool (z154 == 0))), (128, (.bool (z154 == 0))), (10, (.bool (z154 == 0)))] K ?_
            refine In.fin K ?_
            exact ⟨(z154 == 0), ⟨K, trivial⟩, SP.sel hs163 [] rfl rfl, H⟩
           ·have H := cf H hb153
            refine In.run' 5 (k' := 24) rfl [(125, undef), (126, undef), (127, undef), (128, (.bool false)), (10, (.bool false))] K ?_
            refine In.fin K ?_
            exact ⟨false, ⟨K, trivial⟩, SP.sel hs130 [] rfl rfl, H⟩
          ·have H := cf H hb152
           refine In.run' 9 (k' := 24) rfl [(121, undef), (122, undef), (123, (.bool false)), (124, (.bool false)), (125, undef), (126, undef), (127, undef), (128, (.bool false)), (10, (.bool false))] K ?_
           refine In.fin K ?_
           exact ⟨false, ⟨K, trivial⟩, SP.sel hs130 [] rfl rfl, H⟩
         ·have H := cf H hb151
          refine In.run' 14 (k' := 24) rfl [(116, undef), (117, undef), (118, undef), (119, (.bool false)), (120, (.bool false)), (121, undef), (122, undef), (123, (.bool false)), (124, (.bool false)), (125, undef), (126, undef), (127, undef), (128, (.bool false)), (10, (.bool false))] K ?_
          refine In.fin K ?_
          exact ⟨false, ⟨K, trivial⟩, SP.sel hs130 [] rfl rfl, H⟩
        ·have H := cf H hb150
         refine In.run' 18 (k' := 24) rfl [(112, undef), (113, undef), (114, (.bool false)), (115, (.bool false)), (116, undef), (117, undef), (118, undef), (119, (.bool false)), (120, (.bool false)), (121, undef), (122, undef), (123, (.bool false)), (124, (.bool false)), (125, undef), (126, undef), (127, undef), (128, (.bool false)), (10, (.bool false))] K ?_
         refine In.fin K ?_
         exact ⟨false, ⟨K, trivial⟩, SP.sel hs130 [] rfl rfl, H⟩
       ·have H := cf H hb149
        refine In.run' 22 (k' := 24) rfl [(108, undef), (109, undef), (110, (.bool false)), (111, (.bool false)), (112, undef), (113, undef), (114, (.bool false)), (115, (.bool false)), (116, undef), (117, undef), (118, undef), (119, (.bool false)), (120, (.bool false)), (121, undef), (122, undef), (123, (.bool false)), (124, (.bool false)), (125, undef), (126, undef), (127, undef), (128, (.bool false)), (10, (.bool false))] K ?_
        refine In.fin K ?_
        exact ⟨false, ⟨K, trivial⟩, SP.sel hs130 [] rfl rfl, H⟩
      ·rintro ρ w147 ⟨v146, hk, hs148, H⟩
       unfold L_subwaylaw15_TicketHeld_k4 at H
       first | refine At.known [(10, (.bool v146))] hk ?_ | rw [← known_updL (l := [(10, (.bool v146))]) hk]
       refine At.ret K ?_
       refine ⟨(.bool v146), K, ?_⟩
       obtain rfl := some_elim H
       exact ⟨rfl, SP.sel hs148 [] rfl rfl⟩
end Go.Proofs.YtjllaeceghmjgaaDoor
