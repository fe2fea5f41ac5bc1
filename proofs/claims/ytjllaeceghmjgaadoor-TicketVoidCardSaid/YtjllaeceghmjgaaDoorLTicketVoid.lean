/- LIFTED BY PROGRAM (tools/lift.py): what functions compute, and that they do. -/
import Derived.Test.YtjllaeceghmjgaaDoorLTB
namespace Go.Proofs.YtjllaeceghmjgaaDoor
set_option linter.unusedSimpArgs false
set_option linter.unusedVariables false
open Go.RowKit

/-! L_subwaylaw15_TicketVoid -/
def L_subwaylaw15_TicketVoid_k71 (rec55 : (List UInt8) → Int → (List (Int × (List UInt8) × (List UInt8) × Int × (List UInt8))) → (List (List UInt8)) → Int → Option (Bool)) (rec69 : (List UInt8) → Int → (List (Int × (List UInt8) × (List UInt8) × Int × (List UInt8))) → Int → Int → Option (Bool)) (v1312 : Int) (z1393 : (Int × (List UInt8) × (List UInt8) × Int × Int × (List UInt8) × Int × (List (Int × (List UInt8) × (List UInt8) × Int × (List UInt8))))) (v1411 : Int) (v1415 : Bool) : Option (Bool) :=
  (cond v1415 (some (false)) (rec69 z1393.2.2.2.2.2.1 z1393.2.2.2.2.2.2.1 z1393.2.2.2.2.2.2.2 v1411 (IntKind.wrap .i64 (v1312 + 1))))
def L_subwaylaw15_TicketVoid_k70 (rec55 : (List UInt8) → Int → (List (Int × (List UInt8) × (List UInt8) × Int × (List UInt8))) → (List (List UInt8)) → Int → Option (Bool)) (rec69 : (List UInt8) → Int → (List (Int × (List UInt8) × (List UInt8) × Int × (List UInt8))) → Int → Int → Option (Bool)) (p3 : UInt8) (v1312 : Int) (z1393 : (Int × (List UInt8) × (List UInt8) × Int × Int × (List UInt8) × Int × (List (Int × (List UInt8) × (List UInt8) × Int × (List UInt8))))) (v1411 : Int) : Option (Bool) :=
  (cond (z1393.2.2.2.2.1 == 0) (L_subwaylaw15_TicketVoid_k71 rec55 rec69 v1312 z1393 v1411 (z1393.1 == (IntKind.wrap .i64 (Int.tmod ((p3).toNat : Int) 25)))) (L_subwaylaw15_TicketVoid_k71 rec55 rec69 v1312 z1393 v1411 false))
def L_subwaylaw15_TicketVoid_k73 (rec55 : (List UInt8) → Int → (List (Int × (List UInt8) × (List UInt8) × Int × (List UInt8))) → (List (List UInt8)) → Int → Option (Bool)) (rec69 : (List UInt8) → Int → (List (Int × (List UInt8) × (List UInt8) × Int × (List UInt8))) → Int → Int → Option (Bool)) (v1437 : Bool) : Option (Bool) :=
  (some (v1437))
def L_subwaylaw15_TicketVoid_k72 (rec55 : (List UInt8) → Int → (List (Int × (List UInt8) × (List UInt8) × Int × (List UInt8))) → (List (List UInt8)) → Int → Option (Bool)) (rec69 : (List UInt8) → Int → (List (Int × (List UInt8) × (List UInt8) × Int × (List UInt8))) → Int → Int → Option (Bool)) (z4 : (Bool)) (v1306 : (List UInt8)) (v1307 : Int) (v1310 : (List (Int × (List UInt8) × (List UInt8) × Int × (List UInt8)))) (v1311 : Int) (v1422 : Int) : Option (Bool) :=
  (cond z4 (cond (v1311 == v1422) ((L_ticket_Book_Many v1306 v1307 v1310).bind fun z1442 => (L_subwaylaw15_TicketVoid_k73 rec55 rec69 (z1442 == 0))) (L_subwaylaw15_TicketVoid_k73 rec55 rec69 false)) (L_subwaylaw15_TicketVoid_k73 rec55 rec69 false))
def L_subwaylaw15_TicketVoid_b65 (rec55 : (List UInt8) → Int → (List (Int × (List UInt8) × (List UInt8) × Int × (List UInt8))) → (List (List UInt8)) → Int → Option (Bool)) (rec69 : (List UInt8) → Int → (List (Int × (List UInt8) × (List UInt8) × Int × (List UInt8))) → Int → Int → Option (Bool)) (p2 : UInt8) (p3 : UInt8) (z4 : (Bool)) (v750 : (List (List UInt8))) (v1306 : (List UInt8)) (v1307 : Int) (v1310 : (List (Int × (List UInt8) × (List UInt8) × Int × (List UInt8)))) (v1311 : Int) (v1312 : Int) : Option (Bool) :=
  (cond (decide (v1312 < (IntKind.wrap .i64 (Int.tmod ((p2).toNat : Int) 20)))) ((idx v750 v1312).bind fun x1384 => ((L_ticket_Book_Redeem v1306 v1307 v1310 x1384 ([97, 110, 110] : List UInt8)).bind fun z1393 => (cond (z1393.2.2.2.2.1 == 0) (L_subwaylaw15_TicketVoid_k70 rec55 rec69 p3 v1312 z1393 (IntKind.wrap .i64 (v1311 + 1))) (L_subwaylaw15_TicketVoid_k70 rec55 rec69 p3 v1312 z1393 v1311)))) (cond (decide ((IntKind.wrap .i64 (Int.tmod ((p3).toNat : Int) 25)) < (IntKind.wrap .i64 (Int.tmod ((p2).toNat : Int) 20)))) (L_subwaylaw15_TicketVoid_k72 rec55 rec69 z4 v1306 v1307 v1310 v1311 (IntKind.wrap .i64 ((IntKind.wrap .i64 (Int.tmod ((p2).toNat : Int) 20)) - 1))) (L_subwaylaw15_TicketVoid_k72 rec55 rec69 z4 v1306 v1307 v1310 v1311 (IntKind.wrap .i64 (Int.tmod ((p2).toNat : Int) 20)))))
def L_subwaylaw15_TicketVoid_l65 (rec55 : (List UInt8) → Int → (List (Int × (List UInt8) × (List UInt8) × Int × (List UInt8))) → (List (List UInt8)) → Int → Option (Bool)) (p2 : UInt8) (p3 : UInt8) (z4 : (Bool)) (v750 : (List (List UInt8))) : Nat → (List UInt8) → Int → (List (Int × (List UInt8) × (List UInt8) × Int × (List UInt8))) → Int → Int → Option (Bool)
  | 0, _, _, _, _, _ => none
  | f + 1, v1306, v1307, v1310, v1311, v1312 => L_subwaylaw15_TicketVoid_b65 rec55 (L_subwaylaw15_TicketVoid_l65 rec55 p2 p3 z4 v750 f) p2 p3 z4 v750 v1306 v1307 v1310 v1311 v1312
def L_subwaylaw15_TicketVoid_k56 (rec55 : (List UInt8) → Int → (List (Int × (List UInt8) × (List UInt8) × Int × (List UInt8))) → (List (List UInt8)) → Int → Option (Bool)) (p2 : UInt8) (p3 : UInt8) (z4 : (Bool)) (v750 : (List (List UInt8))) (z1136 : (Bool × (List UInt8) × Int × (List (Int × (List UInt8) × (List UInt8) × Int × (List UInt8))))) (v1147 : Bool) : Option (Bool) :=
  (cond v1147 (some (false)) (L_subwaylaw15_TicketVoid_l65 rec55 p2 p3 z4 v750 fuel z1136.2.1 z1136.2.2.1 z1136.2.2.2 0 0))
def L_subwaylaw15_TicketVoid_b37 (rec55 : (List UInt8) → Int → (List (Int × (List UInt8) × (List UInt8) × Int × (List UInt8))) → (List (List UInt8)) → Int → Option (Bool)) (p2 : UInt8) (p3 : UInt8) (z4 : (Bool)) (v743 : (List UInt8)) (v744 : Int) (v747 : (List (Int × (List UInt8) × (List UInt8) × Int × (List UInt8)))) (v750 : (List (List UInt8))) (v751 : Int) : Option (Bool) :=
  (cond (decide (v751 < (IntKind.wrap .i64 (Int.tmod ((p2).toNat : Int) 20)))) ((L_ticket_Book_Issue v743 v744 v747 v751 ([] : List UInt8) ([97, 110, 110] : List UInt8) 0 ([100] : List UInt8)).bind fun z1104 => (cond (z1104.2.1 != 0) (some (false)) ((app v750 ([z1104.1] : List (List UInt8))).bind fun l1120 => (rec55 z1104.2.2.1 z1104.2.2.2.1 z1104.2.2.2.2 l1120 (IntKind.wrap .i64 (v751 + 1)))))) ((L_ticket_Book_Void v743 v744 v747 (IntKind.wrap .i64 (Int.tmod ((p3).toNat : Int) 25))).bind fun z1126 => ((L_ticket_Book_Void z1126.2.1 z1126.2.2.1 z1126.2.2.2 (IntKind.wrap .i64 (Int.tmod ((p3).toNat : Int) 25))).bind fun z1136 => (cond (!(z1126.1 == (decide ((IntKind.wrap .i64 (Int.tmod ((p3).toNat : Int) 25)) < (IntKind.wrap .i64 (Int.tmod ((p2).toNat : Int) 20)))))) (L_subwaylaw15_TicketVoid_k56 rec55 p2 p3 z4 v750 z1136 true) (L_subwaylaw15_TicketVoid_k56 rec55 p2 p3 z4 v750 z1136 z1136.1)))))
def L_subwaylaw15_TicketVoid_l37 (p2 : UInt8) (p3 : UInt8) (z4 : (Bool)) : Nat → (List UInt8) → Int → (List (Int × (List UInt8) × (List UInt8) × Int × (List UInt8))) → (List (List UInt8)) → Int → Option (Bool)
  | 0, _, _, _, _, _ => none
  | f + 1, v743, v744, v747, v750, v751 => L_subwaylaw15_TicketVoid_b37  (L_subwaylaw15_TicketVoid_l37 p2 p3 z4 f) p2 p3 z4 v743 v744 v747 v750 v751
def L_subwaylaw15_TicketVoid (p1 : (List UInt8)) (p2 : UInt8) (p3 : UInt8) : Option (Bool) :=
  ((L_subwaylaw15_head ).bind fun z4 => ((L_ticket_New p1).bind fun z10 => (cond (decide (((List.length p1 : Nat) : Int) > 3000)) (some (z4)) (L_subwaylaw15_TicketVoid_l37 p2 p3 z4 fuel z10.1 z10.2.1 z10.2.2 ([] : List (List UInt8)) 0))))
set_option maxRecDepth 100000 in
set_option maxHeartbeats 4000000 in
theorem L_subwaylaw15_TicketVoid_walk  (p1 : (List UInt8)) (p2 : UInt8) (p3 : UInt8) (w0 : World) (hL : LaidW w0)  (r : (Bool)) (H : L_subwaylaw15_TicketVoid p1 p2 p3 = some r) :
  Calls Tryd.prog 7 #[(.string ⟨List.toArray p1⟩), (.int .u8 ((p2).toNat : Int)), (.int .u8 ((p3).toNat : Int))] w0 (fun e w' => e = .returned (.bool r) ∧ SP [] w0 w' []) := by
 unfold L_subwaylaw15_TicketVoid at H
 refine calls_go (n := 118) Tryd.func7 K K K ?_
 have hs0 := SP.start [] w0
 refine At.sq K ?_
 refine At.region K K ?_
 refine In.run' 1 (k' := 1) rfl [(6, (.bool false))] K ?_
 refine In.fin K ?_
 refine At.sq K ?_
 refine At.region K K ?_
 obtain ⟨z4, hz5, H⟩ := bind_elim H
 refine In.step (k' := 1) rfl K ?_
 refine Step.callF (f := 9) (fo := (.func 9)) (xs := #[]) (tys := #[]) (first := #[]) (captured := #[]) (d := (some 22)) (k := 0) K rfl K K Tryd.call9 (L_subwaylaw15_head_walk   w0 (laid_below hL (SP.keeps hs0)) z4 hz5) ?_
 rintro e w6 ⟨rfl, hs7⟩
 refine ⟨_, rfl, ?_⟩
 have hs9 : SP [] w0 w6 [] := SP.call hs0 hs7
 clear hs7
 refine In.run' 1 (k' := 2) rfl [(7, (.bool z4))] K ?_
 refine In.fin K ?_
 refine At.sq K ?_
 refine At.region K K ?_
 refine In.run' 1 (k' := 1) rfl [(23, (.string ⟨List.toArray p1⟩))] K ?_
 obtain ⟨z10, hz11, H⟩ := bind_elim H
 refine In.step (k' := 2) rfl K ?_
 refine Step.callF (f := 10) (fo := (.func 10)) (xs := #[(.tmp 23)]) (tys := #[9]) (first := #[]) (captured := #[]) (d := (some 24)) (k := 1) K rfl K K Tryd.call10 (L_ticket_New_walk  p1 w6  z10 hz11) ?_
 rintro e w12 ⟨g14, A15, c16, A17, c18, rfl, hs13⟩
 refine ⟨_, rfl, ?_⟩
 have hs20 : SP [] w0 w12 [boxE g14 56 #[(.slice A15 (List.length z10.1) c16), (.int .i64 z10.2.1), (.slice A17 (List.length z10.2.2) c18)], rdE eU8 A15 c16 z10.1, rowT 59 (ePair (eInt .i64) (ePair eStr (ePair eStr (ePair (eInt .i64) eStr)))) A17 c18 z10.2.2] := SP.call hs9 hs13
 clear hs13
 refine In.run' 1 (k' := 3) rfl [(8, (pt g14 0))] K ?_
 refine In.fin K ?_
 refine At.sq K ?_
 refine At.sq K ?_
 refine At.region K K ?_
 refine In.run' 7 (k' := 7) rfl [(25, (pt g14 0)), (26, (.bool false)), (27, (.bool false)), (28, (.string ⟨List.toArray p1⟩)), (29, (.int .i64 ((List.length p1 : Nat) : Int))), (30, (.bool (decide (((List.length p1 : Nat) : Int) > 3000)))), (31, (.bool (decide (((List.length p1 : Nat) : Int) > 3000))))] K ?_
 refine In.fin K ?_
 refine At.cd K (o := (.tmp 31)) K (b := (decide (((List.length p1 : Nat) : Int) > 3000))) K (fun hb21 => ?_) (fun hb21 => ?_)
 ·have H := ct H hb21
  refine At.sq K ?_
  refine At.region K K ?_
  refine In.run' 6 (k' := 6) rfl [(32, (pt g14 0)), (33, (.bool true)), (34, (.bool true)), (35, (.bool z4)), (36, (.bool z4)), (6, (.bool z4))] K ?_
  refine In.fin K ?_
  refine At.ret K ?_
  refine ⟨(.bool z4), K, ?_⟩
  obtain rfl := some_elim H
  exact ⟨rfl, SP.sel hs20 [] rfl rfl⟩
 ·have H := cf H hb21
  refine At.skip K ?_
  refine At.sq K ?_
  refine At.region K K ?_
  refine In.run' 4 (k' := 4) rfl [(37, (.int .u8 ((p2).toNat : Int))), (38, (.int .u8 (Int.tmod ((p2).toNat : Int) 20))), (39, (.int .i64 (IntKind.wrap .i64 (Int.tmod ((p2).toNat : Int) 20)))), (9, (.int .i64 (IntKind.wrap .i64 (Int.tmod ((p2).toNat : Int) 20))))] K ?_
  refine In.fin K ?_
  refine At.sq K ?_
  refine At.region K K ?_
  refine In.run' 1 (k' := 1) rfl [(10, (.slice none (List.length ([] : List (List UInt8))) 0))] K ?_
  refine In.fin K ?_
  refine At.sq K ?_
  refine At.sq K ?_
  refine At.region K K ?_
  refine In.run' 1 (k' := 1) rfl [(11, (.int .i64 0))] K ?_
  refine In.fin K ?_
  refine At.bk K (id := 0) K ?_
  refine At.lp K (fun f55 ρ w => ∃ (v743 : (List UInt8)) (v744 : Int) (v747 : (List (Int × (List UInt8) × (List UInt8) × Int × (List UInt8)))) (v750 : (List (List UInt8))) (v751 : Int) (A741 : Option Addr) (c742 : Nat) (A745 : Option Addr) (c746 : Nat) (A748 : Option Addr) (c749 : Nat), Known ρ [(2, (.int .u8 ((p3).toNat : Int))), (7, (.bool z4)), (8, (pt g14 0)), (9, (.int .i64 (IntKind.wrap .i64 (Int.tmod ((p2).toNat : Int) 20)))), (10, (.slice A748 (List.length v750) c749)), (11, (.int .i64 v751))] ∧ SP [] w0 w [rdE eU8 A741 c742 v743, rowT 59 (ePair (eInt .i64) (ePair eStr (ePair eStr (ePair (eInt .i64) eStr)))) A745 c746 v747, boxE g14 56 #[(.slice A741 (List.length v743) c742), (.int .i64 v744), (.slice A745 (List.length v747) c746)], rowT 9 eStr A748 c749 v750] ∧ L_subwaylaw15_TicketVoid_l37 p2 p3 z4 f55 v743 v744 v747 v750 v751 = some r) (by rintro ρ w ⟨v743, v744, v747, v750, v751, A741, c742, A745, c746, A748, c749, hk, hs, H⟩; cases H) ?_ fuel ?_
  ·rintro f55 ρ w739 ⟨v743, v744, v747, v750, v751, A741, c742, A745, c746, A748, c749, hk, hs740, H⟩
   refine At.known [(2, (.int .u8 ((p3).toNat : Int))), (7, (.bool z4)), (8, (pt g14 0)), (9, (.int .i64 (IntKind.wrap .i64 (Int.tmod ((p2).toNat : Int) 20)))), (10, (.slice A748 (List.length v750) c749)), (11, (.int .i64 v751))] hk ?_
   replace H := (show L_subwaylaw15_TicketVoid_b37 (L_subwaylaw15_TicketVoid_l37 p2 p3 z4 f55) p2 p3 z4 v743 v744 v747 v750 v751 = some r from H)
   unfold L_subwaylaw15_TicketVoid_b37 at H
   refine At.sq K ?_
   refine At.sq K ?_
   refine At.region K K ?_
   refine In.run' 3 (k' := 3) rfl [(40, (.int .i64 v751)), (41, (.int .i64 (IntKind.wrap .i64 (Int.tmod ((p2).toNat : Int) 20)))), (42, (.bool (decide (v751 < (IntKind.wrap .i64 (Int.tmod ((p2).toNat : Int) 20))))))] K ?_
   refine In.fin K ?_
   refine At.cd K (o := (.tmp 42)) K (b := (decide (v751 < (IntKind.wrap .i64 (Int.tmod ((p2).toNat : Int) 20))))) K (fun hb1103 => ?_) (fun hb1103 => ?_)
   ·have H := ct H hb1103
    refine At.skip K ?_
    refine At.sq K ?_
    refine At.bk K (id := 1) K ?_
    refine At.sq K ?_
    refine At.region K K ?_
    refine In.run' 3 (k' := 3) rfl [(46, (pt g14 0)), (47, (.int .i64 v751)), (48, (.agg #[(.int .i64 v751), (.string ⟨List.toArray ([] : List UInt8)⟩), (.string ⟨List.toArray ([97, 110, 110] : List UInt8)⟩), (.int .i64 0)]))] K ?_
    obtain ⟨z1104, hz1105, H⟩ := bind_elim H
    refine In.step (k' := 4) rfl K ?_
    refine Step.callF (f := 18) (fo := (.func 18)) (xs := #[(.tmp 46), (.tmp 48), (.const (.string ⟨List.toArray ([100] : List UInt8)⟩))]) (tys := #[24, 31, 9]) (first := #[]) (captured := #[]) (d := (some 49)) (k := 3) K rfl K K Tryd.call18 (L_ticket_Book_Issue_walk g14 A741 c742 A745 c746 v743 v744 v747 v751 ([] : List UInt8) ([97, 110, 110] : List UInt8) 0 ([100] : List UInt8) w739 (fun w hm => laid_below hL (SP.below_of hs740 (l := [2, 0, 1]) rfl hm)) (SP.sub hs740 [2, 0, 1] rfl rfl) z1104 hz1105) ?_
    rintro e w1106 ⟨A1108, c1109, A1110, c1111, rfl, hs1107⟩
    refine ⟨_, rfl, ?_⟩
    have hs1113 : SP [] w0 w1106 [rowT 9 eStr A748 c749 v750, boxE g14 56 #[(.slice A1108 (List.length z1104.2.2.1) c1109), (.int .i64 z1104.2.2.2.1), (.slice A1110 (List.length z1104.2.2.2.2) c1111)], rdE eU8 A1108 c1109 z1104.2.2.1, rowT 59 (ePair (eInt .i64) (ePair eStr (ePair eStr (ePair (eInt .i64) eStr)))) A1110 c1111 z1104.2.2.2.2] := SP.callS hs740 [2, 0, 1] [3] rfl rfl hs1107 rfl
    clear hs1107
    refine In.run' 5 (k' := 9) rfl [(45, (.tuple #[(.string ⟨List.toArray z1104.1⟩), (.int .i64 z1104.2.1)])), (50, (.string ⟨List.toArray z1104.1⟩)), (51, (.int .i64 z1104.2.1)), (12, (.string ⟨List.toArray z1104.1⟩)), (13, (.int .i64 z1104.2.1))] K ?_
    refine In.fin K ?_
    refine At.sq K ?_
    refine At.sq K ?_
    refine At.region K K ?_
    refine In.run' 2 (k' := 2) rfl [(52, (.int .i64 z1104.2.1)), (53, (.bool (z1104.2.1 != 0)))] K ?_
    refine In.fin K ?_
    refine At.cd K (o := (.tmp 53)) K (b := (z1104.2.1 != 0)) K (fun hb1114 => ?_) (fun hb1114 => ?_)
    ·have H := ct H hb1114
     refine At.sq K ?_
     refine At.region K K ?_
     refine In.run' 1 (k' := 1) rfl [(6, (.bool false))] K ?_
     refine In.fin K ?_
     refine At.ret K ?_
     refine ⟨(.bool false), K, ?_⟩
     obtain rfl := some_elim H
     exact ⟨rfl, SP.sel hs1113 [] rfl rfl⟩
    ·have H := cf H hb1114
     refine At.skip K ?_
     refine At.region K K ?_
     refine In.run' 2 (k' := 2) rfl [(54, (.slice A748 (List.length v750) c749)), (55, (.string ⟨List.toArray z1104.1⟩))] K ?_
     refine In.step (k' := 3) rfl K ?_
     refine Step.newSlice (e := eStr) (T := 29) (E := 9) (len := 1) (parts := #[(0, (.tmp 55))]) (cs := #[(.string ⟨List.toArray z1104.1⟩)]) ([z1104.1] : List (List UInt8)) (d := (some 56)) (k := 2) K rfl (fun _ => K) hs1113 rfl rfl rfl rfl ?_
     intro g1115 w1116 (hs1118 : SP [] w0 w1116 [rowT 9 eStr A748 c749 v750, boxE g14 56 #[(.slice A1108 (List.length z1104.2.2.1) c1109), (.int .i64 z1104.2.2.2.1), (.slice A1110 (List.length z1104.2.2.2.2) c1111)], rdE eU8 A1108 c1109 z1104.2.2.1, rowT 59 (ePair (eInt .i64) (ePair eStr (ePair eStr (ePair (eInt .i64) eStr)))) A1110 c1111 z1104.2.2.2.2, rowT 9 eStr (some ⟨g1115, 0, none⟩) (List.length ([z1104.1] : List (List UInt8))) ([z1104.1] : List (List UInt8))])
     obtain ⟨hl1119, H⟩ := app_elim H
     obtain ⟨l1120, hyl1120⟩ : ∃ y, v750 ++ ([z1104.1] : List (List UInt8)) = y := ⟨_, rfl⟩
     rw [hyl1120] at H
     refine In.step (k' := 4) rfl K ?_
     refine Step.append (e := eStr) (l := v750) (m := ([z1104.1] : List (List UInt8))) (A := A748) (c := c749) (T := 29) (TX := 29) (E := 9) (b := 16) (s := (.tmp 54)) (x := (.tmp 56)) (i := 0) (vx := (.slice (some ⟨g1115, 0, none⟩) (List.length ([z1104.1] : List (List UInt8))) (List.length ([z1104.1] : List (List UInt8))))) (d := (some 57)) (k := 3) K rfl K K K K rfl hs1118 rfl (src_rdt (E := 9) K (rowT_rd (SP.get hs1118 (i := 4) rfl))) hl1119 ?_
     rw [hyl1120]
     intro A1121 c1122 w1123 (hs1125 : SP [] w0 w1123 [rowT 9 eStr A1121 c1122 l1120, boxE g14 56 #[(.slice A1108 (List.length z1104.2.2.1) c1109), (.int .i64 z1104.2.2.2.1), (.slice A1110 (List.length z1104.2.2.2.2) c1111)], rdE eU8 A1108 c1109 z1104.2.2.1, rowT 59 (ePair (eInt .i64) (ePair eStr (ePair eStr (ePair (eInt .i64) eStr)))) A1110 c1111 z1104.2.2.2.2, rowT 9 eStr (some ⟨g1115, 0, none⟩) (List.length ([z1104.1] : List (List UInt8))) ([z1104.1] : List (List UInt8))])
     refine In.run' 1 (k' := 5) rfl [(10, (.slice A1121 (List.length l1120) c1122))] K ?_
     refine In.fin K ?_
     refine At.region K K ?_
     refine In.run' 3 (k' := 3) rfl [(43, (.int .i64 v751)), (44, (.int .i64 (IntKind.wrap .i64 (v751 + 1)))), (11, (.int .i64 (IntKind.wrap .i64 (v751 + 1))))] K ?_
     refine In.fin K ?_
     exact ⟨z1104.2.2.1, z1104.2.2.2.1, z1104.2.2.2.2, l1120, (IntKind.wrap .i64 (v751 + 1)), A1108, c1109, A1110, c1111, A1121, c1122, ⟨K, K, K, K, K, K, trivial⟩, SP.sel hs1125 [2, 3, 1, 0] rfl rfl, H⟩
   ·have H := cf H hb1103
    refine At.exit K (id := 0) K ?_
    refine At.sq K ?_
    refine At.region K K ?_
    refine In.run' 4 (k' := 4) rfl [(58, (.int .u8 ((p3).toNat : Int))), (59, (.int .u8 (Int.tmod ((p3).toNat : Int) 25))), (60, (.int .i64 (IntKind.wrap .i64 (Int.tmod ((p3).toNat : Int) 25)))), (14, (.int .i64 (IntKind.wrap .i64 (Int.tmod ((p3).toNat : Int) 25))))] K ?_
    refine In.fin K ?_
    refine At.sq K ?_
    refine At.region K K ?_
    refine In.run' 2 (k' := 2) rfl [(61, (pt g14 0)), (62, (.int .i64 (IntKind.wrap .i64 (Int.tmod ((p3).toNat : Int) 25))))] K ?_
    obtain ⟨z1126, hz1127, H⟩ := bind_elim H
    refine In.step (k' := 3) rfl K ?_
    refine Step.callF (f := 16) (fo := (.func 16)) (xs := #[(.tmp 61), (.tmp 62)]) (tys := #[24, 3]) (first := #[]) (captured := #[]) (d := (some 63)) (k := 2) K rfl K K Tryd.call16 (L_ticket_Book_Void_walk g14 A741 c742 A745 c746 v743 v744 v747 (IntKind.wrap .i64 (Int.tmod ((p3).toNat : Int) 25)) w739 (SP.sub hs740 [2, 0, 1] rfl rfl) z1126 hz1127) ?_
    rintro e w1128 ⟨A1130, c1131, A1132, c1133, rfl, hs1129⟩
    refine ⟨_, rfl, ?_⟩
    have hs1135 : SP [] w0 w1128 [rowT 9 eStr A748 c749 v750, boxE g14 56 #[(.slice A1130 (List.length z1126.2.1) c1131), (.int .i64 z1126.2.2.1), (.slice A1132 (List.length z1126.2.2.2) c1133)], rdE eU8 A1130 c1131 z1126.2.1, rowT 59 (ePair (eInt .i64) (ePair eStr (ePair eStr (ePair (eInt .i64) eStr)))) A1132 c1133 z1126.2.2.2] := SP.callS hs740 [2, 0, 1] [3] rfl rfl hs1129 rfl
    clear hs1129
    refine In.run' 1 (k' := 4) rfl [(15, (.bool z1126.1))] K ?_
    refine In.fin K ?_
    refine At.sq K ?_
    refine At.region K K ?_
    refine In.run' 2 (k' := 2) rfl [(64, (pt g14 0)), (65, (.int .i64 (IntKind.wrap .i64 (Int.tmod ((p3).toNat : Int) 25))))] K ?_
    obtain ⟨z1136, hz1137, H⟩ := bind_elim H
    refine In.step (k' := 3) rfl K ?_
    refine Step.callF (f := 16) (fo := (.func 16)) (xs := #[(.tmp 64), (.tmp 65)]) (tys := #[24, 3]) (first := #[]) (captured := #[]) (d := (some 66)) (k := 2) K rfl K K Tryd.call16 (L_ticket_Book_Void_walk g14 A1130 c1131 A1132 c1133 z1126.2.1 z1126.2.2.1 z1126.2.2.2 (IntKind.wrap .i64 (Int.tmod ((p3).toNat : Int) 25)) w1128 (SP.sub hs1135 [1, 2, 3] rfl rfl) z1136 hz1137) ?_
    rintro e w1138 ⟨A1140, c1141, A1142, c1143, rfl, hs1139⟩
    refine ⟨_, rfl, ?_⟩
    have hs1145 : SP [] w0 w1138 [rowT 9 eStr A748 c749 v750, boxE g14 56 #[(.slice A1140 (List.length z1136.2.1) c1141), (.int .i64 z1136.2.2.1), (.slice A1142 (List.length z1136.2.2.2) c1143)], rdE eU8 A1140 c1141 z1136.2.1, rowT 59 (ePair (eInt .i64) (ePair eStr (ePair eStr (ePair (eInt .i64) eStr)))) A1142 c1143 z1136.2.2.2] := SP.callS hs1135 [1, 2, 3] [0] rfl rfl hs1139 rfl
    clear hs1139
    refine In.run' 1 (k' := 4) rfl [(16, (.bool z1136.1))] K ?_
    refine In.fin K ?_
    refine At.sq K ?_
    refine At.sq K ?_
    refine At.join (fun ρ w => ∃ (v1147 : Bool), Known ρ [(7, (.bool z4)), (8, (pt g14 0)), (9, (.int .i64 (IntKind.wrap .i64 (Int.tmod ((p2).toNat : Int) 20)))), (10, (.slice A748 (List.length v750) c749)), (14, (.int .i64 (IntKind.wrap .i64 (Int.tmod ((p3).toNat : Int) 25)))), (74, (.bool v1147))] ∧ SP [] w0 w [rdE eU8 A1140 c1141 z1136.2.1, rowT 59 (ePair (eInt .i64) (ePair eStr (ePair eStr (ePair (eInt .i64) eStr)))) A1142 c1143 z1136.2.2.2, boxE g14 56 #[(.slice A1140 (List.length z1136.2.1) c1141), (.int .i64 z1136.2.2.1), (.slice A1142 (List.length z1136.2.2.2) c1143)], rowT 9 eStr A748 c749 v750] ∧ L_subwaylaw15_TicketVoid_k56 (L_subwaylaw15_TicketVoid_l37 p2 p3 z4 f55) p2 p3 z4 v750 z1136 v1147 = some r) ?_ ?_
    ·refine At.region K K ?_
     refine In.run' 6 (k' := 6) rfl [(67, (.bool z1126.1)), (68, (.int .i64 (IntKind.wrap .i64 (Int.tmod ((p3).toNat : Int) 25)))), (69, (.int .i64 (IntKind.wrap .i64 (Int.tmod ((p2).toNat : Int) 20)))), (70, (.bool (decide ((IntKind.wrap .i64 (Int.tmod ((p3).toNat : Int) 25)) < (IntKind.wrap .i64 (Int.tmod ((p2).toNat : Int) 20)))))), (71, (.bool (!(z1126.1 == (decide ((IntKind.wrap .i64 (Int.tmod ((p3).toNat : Int) 25)) < (IntKind.wrap .i64 (Int.tmod ((p2).toNat : Int) 20)))))))), (72, (.bool (!(z1126.1 == (decide ((IntKind.wrap .i64 (Int.tmod ((p3).toNat : Int) 25)) < (IntKind.wrap .i64 (Int.tmod ((p2).toNat : Int) 20))))))))] K ?_
     refine In.guard (t := 72) (b := (!(z1126.1 == (decide ((IntKind.wrap .i64 (Int.tmod ((p3).toNat : Int) 25)) < (IntKind.wrap .i64 (Int.tmod ((p2).toNat : Int) 20))))))) K (fun hb1453 => ?_) (fun hb1453 => ?_)
     ·have H := ct H hb1453
      refine In.run' 2 (k' := 8) rfl [(73, undef), (74, (.bool true))] K ?_
      refine In.fin K ?_
      exact ⟨true, ⟨K, K, K, K, K, K, trivial⟩, SP.sel hs1145 [2, 3, 1, 0] rfl rfl, H⟩
     ·have H := cf H hb1453
      refine In.run' 2 (k' := 8) rfl [(73, (.bool z1136.1)), (74, (.bool z1136.1))] K ?_
      refine In.fin K ?_
      exact ⟨z1136.1, ⟨K, K, K, K, K, K, trivial⟩, SP.sel hs1145 [2, 3, 1, 0] rfl rfl, H⟩
    ·rintro ρ w1148 ⟨v1147, hk, hs1149, H⟩
     unfold L_subwaylaw15_TicketVoid_k56 at H
     first | refine At.known [(7, (.bool z4)), (8, (pt g14 0)), (9, (.int .i64 (IntKind.wrap .i64 (Int.tmod ((p2).toNat : Int) 20)))), (10, (.slice A748 (List.length v750) c749)), (14, (.int .i64 (IntKind.wrap .i64 (Int.tmod ((p3).toNat : Int) 25)))), (74, (.bool v1147))] hk ?_ | rw [← known_updL (l := [(7, (.bool z4)), (8, (pt g14 0)), (9, (.int .i64 (IntKind.wrap .i64 (Int.tmod ((p2).toNat : Int) 20)))), (10, (.slice A748 (List.length v750) c749)), (14, (.int .i64 (IntKind.wrap .i64 (Int.tmod ((p3).toNat : Int) 25)))), (74, (.bool v1147))]) hk]
     refine At.cd K (o := (.tmp 74)) K (b := v1147) K (fun hb1150 => ?_) (fun hb1150 => ?_)
     ·have H := ct H hb1150
      refine At.sq K ?_
      refine At.region K K ?_
      refine In.run' 1 (k' := 1) rfl [(6, (.bool false))] K ?_
      refine In.fin K ?_
      refine At.ret K ?_
      refine ⟨(.bool false), K, ?_⟩
      obtain rfl := some_elim H
      exact ⟨rfl, SP.sel hs1149 [] rfl rfl⟩
     ·have H := cf H hb1150
      refine At.skip K ?_
      refine At.sq K ?_
      refine At.region K K ?_
      refine In.run' 1 (k' := 1) rfl [(17, (.int .i64 0))] K ?_
      refine In.fin K ?_
      refine At.sq K ?_
      refine At.sq K ?_
      refine At.region K K ?_
      refine In.run' 1 (k' := 1) rfl [(18, (.int .i64 0))] K ?_
      refine In.fin K ?_
      refine At.bk K (id := 2) K ?_
      refine At.lp K (fun f69 ρ w => ∃ (v1306 : (List UInt8)) (v1307 : Int) (v1310 : (List (Int × (List UInt8) × (List UInt8) × Int × (List UInt8)))) (v1311 : Int) (v1312 : Int) (A1304 : Option Addr) (c1305 : Nat) (A1308 : Option Addr) (c1309 : Nat), Known ρ [(7, (.bool z4)), (8, (pt g14 0)), (9, (.int .i64 (IntKind.wrap .i64 (Int.tmod ((p2).toNat : Int) 20)))), (10, (.slice A748 (List.length v750) c749)), (14, (.int .i64 (IntKind.wrap .i64 (Int.tmod ((p3).toNat : Int) 25)))), (17, (.int .i64 v1311)), (18, (.int .i64 v1312))] ∧ SP [] w0 w [rdE eU8 A1304 c1305 v1306, rowT 59 (ePair (eInt .i64) (ePair eStr (ePair eStr (ePair (eInt .i64) eStr)))) A1308 c1309 v1310, boxE g14 56 #[(.slice A1304 (List.length v1306) c1305), (.int .i64 v1307), (.slice A1308 (List.length v1310) c1309)], rowT 9 eStr A748 c749 v750] ∧ L_subwaylaw15_TicketVoid_l65 (L_subwaylaw15_TicketVoid_l37 p2 p3 z4 f55) p2 p3 z4 v750 f69 v1306 v1307 v1310 v1311 v1312 = some r) (by rintro ρ w ⟨v1306, v1307, v1310, v1311, v1312, A1304, c1305, A1308, c1309, hk, hs, H⟩; cases H) ?_ fuel ?_
      ·rintro f69 ρ w1302 ⟨v1306, v1307, v1310, v1311, v1312, A1304, c1305, A1308, c1309, hk, hs1303, H⟩
       refine At.known [(7, (.bool z4)), (8, (pt g14 0)), (9, (.int .i64 (IntKind.wrap .i64 (Int.tmod ((p2).toNat : Int) 20)))), (10, (.slice A748 (List.length v750) c749)), (14, (.int .i64 (IntKind.wrap .i64 (Int.tmod ((p3).toNat : Int) 25)))), (17, (.int .i64 v1311)), (18, (.int .i64 v1312))] hk ?_
       replace H := (show L_subwaylaw15_TicketVoid_b65 (L_subwaylaw15_TicketVoid_l37 p2 p3 z4 f55) (L_subwaylaw15_TicketVoid_l65 (L_subwaylaw15_TicketVoid_l37 p2 p3 z4 f55) p2 p3 z4 v750 f69) p2 p3 z4 v750 v1306 v1307 v1310 v1311 v1312 = some r from H)
       unfold L_subwaylaw15_TicketVoid_b65 at H
       refine At.sq K ?_
       refine At.sq K ?_
       refine At.region K K ?_
       refine In.run' 3 (k' := 3) rfl [(75, (.int .i64 v1312)), (76, (.int .i64 (IntKind.wrap .i64 (Int.tmod ((p2).toNat : Int) 20)))), (77, (.bool (decide (v1312 < (IntKind.wrap .i64 (Int.tmod ((p2).toNat : Int) 20))))))] K ?_
       refine In.fin K ?_
       refine At.cd K (o := (.tmp 77)) K (b := (decide (v1312 < (IntKind.wrap .i64 (Int.tmod ((p2).toNat : Int) 20))))) K (fun hb1383 => ?_) (fun hb1383 => ?_)
       ·have H := ct H hb1383
        refine At.skip K ?_
        refine At.sq K ?_
        refine At.bk K (id := 3) K ?_
        refine At.sq K ?_
        refine At.region K K ?_
        refine In.run' 3 (k' := 3) rfl [(81, (pt g14 0)), (82, (.slice A748 (List.length v750) c749)), (83, (.int .i64 v1312))] K ?_
        obtain ⟨x1384, hp1385, hq1386, hx1387, H⟩ := idx_elim H
        refine In.step (k' := 4) rfl K ?_
        refine Step.elem (e := eStr) (l := v750) (A := A748) (c := c749) (T := 29) (E := 9) (x := (.tmp 82)) (ix := (.tmp 83)) (ki := .i64) (iz := v1312) (d := (some 84)) (k := 3) K rfl K K K K (rowT_rd (SP.get hs1303 (i := 3) rfl)) hp1385 hq1386 ?_
        intro b1388 o1389 hA1391 hb1392 hc1390
        refine In.step (k' := 5) rfl K ?_
        refine Step.cell (t := 9) (x := (.tmp 84)) (b := b1388) (off := (o1389 + Int.toNat v1312 * eStr.sz)) (v := (.string ⟨List.toArray x1384⟩)) (d := (some 85)) (k := 4) K rfl K K (elem_cell (e := eStr) (rdt_cells (rowT_rd (SP.get hs1303 (i := 3) rfl)) hA1391 hp1385 hq1386) hx1387 (j := 0) rfl) ?_
        obtain ⟨z1393, hz1394, H⟩ := bind_elim H
        refine In.step (k' := 6) rfl K ?_
        refine Step.callF (f := 13) (fo := (.func 13)) (xs := #[(.tmp 81), (.tmp 85), (.const (.string ⟨List.toArray ([97, 110, 110] : List UInt8)⟩))]) (tys := #[24, 9, 9]) (first := #[]) (captured := #[]) (d := (some 86)) (k := 5) K rfl K K Tryd.call13 (L_ticket_Book_Redeem_walk g14 A1304 c1305 A1308 c1309 v1306 v1307 v1310 x1384 ([97, 110, 110] : List UInt8) w1302 (SP.sub hs1303 [2, 0, 1] rfl rfl) z1393 hz1394) ?_
        rintro e w1395 ⟨A1397, c1398, A1399, c1400, rfl, hs1396⟩
        refine ⟨_, rfl, ?_⟩
        have hs1402 : SP [] w0 w1395 [rowT 9 eStr A748 c749 v750, boxE g14 56 #[(.slice A1397 (List.length z1393.2.2.2.2.2.1) c1398), (.int .i64 z1393.2.2.2.2.2.2.1), (.slice A1399 (List.length z1393.2.2.2.2.2.2.2) c1400)], rdE eU8 A1397 c1398 z1393.2.2.2.2.2.1, rowT 59 (ePair (eInt .i64) (ePair eStr (ePair eStr (ePair (eInt .i64) eStr)))) A1399 c1400 z1393.2.2.2.2.2.2.2] := SP.callS hs1303 [2, 0, 1] [3] rfl rfl hs1396 rfl
        clear hs1396
        refine In.run' 3 (k' := 9) rfl [(80, (.tuple #[(.agg #[(.int .i64 z1393.1), (.string ⟨List.toArray z1393.2.1⟩), (.string ⟨List.toArray z1393.2.2.1⟩), (.int .i64 z1393.2.2.2.1)]), (.int .i64 z1393.2.2.2.2.1)])), (87, (.agg #[(.int .i64 z1393.1), (.string ⟨List.toArray z1393.2.1⟩), (.string ⟨List.toArray z1393.2.2.1⟩), (.int .i64 z1393.2.2.2.1)])), (88, (.int .i64 z1393.2.2.2.2.1))] K ?_
        refine In.step (k' := 10) rfl K ?_
        refine Step.alloc (t := 31) (z := (.agg #[(.int .i64 0), (.string ⟨List.toArray ([] : List UInt8)⟩), (.string ⟨List.toArray ([] : List UInt8)⟩), (.int .i64 0)])) (d := (some 19)) (k := 9) K rfl K hs1402 ?_
        intro g1403 w1404 (hs1406 : SP [] w0 w1404 [rowT 9 eStr A748 c749 v750, boxE g14 56 #[(.slice A1397 (List.length z1393.2.2.2.2.2.1) c1398), (.int .i64 z1393.2.2.2.2.2.2.1), (.slice A1399 (List.length z1393.2.2.2.2.2.2.2) c1400)], rdE eU8 A1397 c1398 z1393.2.2.2.2.2.1, rowT 59 (ePair (eInt .i64) (ePair eStr (ePair eStr (ePair (eInt .i64) eStr)))) A1399 c1400 z1393.2.2.2.2.2.2.2, boxE g1403 31 #[(.int .i64 0), (.string ⟨List.toArray ([] : List UInt8)⟩), (.string ⟨List.toArray ([] : List UInt8)⟩), (.int .i64 0)]])
        refine In.step (k' := 11) rfl K ?_
        refine Step.store (t := 31) (x := (.tmp 19)) (y := (.tmp 87)) (g := g1403) (off := 0) (i := 4) (v := (.agg #[(.int .i64 z1393.1), (.string ⟨List.toArray z1393.2.1⟩), (.string ⟨List.toArray z1393.2.2.1⟩), (.int .i64 z1393.2.2.2.1)])) (cs' := #[(.int .i64 z1393.1), (.string ⟨List.toArray z1393.2.1⟩), (.string ⟨List.toArray z1393.2.2.1⟩), (.int .i64 z1393.2.2.2.1)]) (d := none) (k := 10) K rfl K K hs1406 rfl K ?_
        intro w1407 (hs1409 : SP [] w0 w1407 [rowT 9 eStr A748 c749 v750, boxE g14 56 #[(.slice A1397 (List.length z1393.2.2.2.2.2.1) c1398), (.int .i64 z1393.2.2.2.2.2.2.1), (.slice A1399 (List.length z1393.2.2.2.2.2.2.2) c1400)], rdE eU8 A1397 c1398 z1393.2.2.2.2.2.1, rowT 59 (ePair (eInt .i64) (ePair eStr (ePair eStr (ePair (eInt .i64) eStr)))) A1399 c1400 z1393.2.2.2.2.2.2.2, boxE g1403 31 #[(.int .i64 z1393.1), (.string ⟨List.toArray z1393.2.1⟩), (.string ⟨List.toArray z1393.2.2.1⟩), (.int .i64 z1393.2.2.2.1)]])
        refine In.run' 1 (k' := 12) rfl [(20, (.int .i64 z1393.2.2.2.2.1))] K ?_
        refine In.fin K ?_
        refine At.sq K ?_
        refine At.sq K ?_
        refine At.region K K ?_
        refine In.run' 2 (k' := 2) rfl [(89, (.int .i64 z1393.2.2.2.2.1)), (90, (.bool (z1393.2.2.2.2.1 == 0)))] K ?_
        refine In.fin K ?_
        refine At.join (fun ρ w => ∃ (v1411 : Int), Known ρ [(7, (.bool z4)), (8, (pt g14 0)), (9, (.int .i64 (IntKind.wrap .i64 (Int.tmod ((p2).toNat : Int) 20)))), (10, (.slice A748 (List.length v750) c749)), (14, (.int .i64 (IntKind.wrap .i64 (Int.tmod ((p3).toNat : Int) 25)))), (17, (.int .i64 v1411)), (18, (.int .i64 v1312)), (19, (pt g1403 0)), (20, (.int .i64 z1393.2.2.2.2.1))] ∧ SP [] w0 w [rdE eU8 A1397 c1398 z1393.2.2.2.2.2.1, rowT 59 (ePair (eInt .i64) (ePair eStr (ePair eStr (ePair (eInt .i64) eStr)))) A1399 c1400 z1393.2.2.2.2.2.2.2, boxE g14 56 #[(.slice A1397 (List.length z1393.2.2.2.2.2.1) c1398), (.int .i64 z1393.2.2.2.2.2.2.1), (.slice A1399 (List.length z1393.2.2.2.2.2.2.2) c1400)], boxE g1403 31 #[(.int .i64 z1393.1), (.string ⟨List.toArray z1393.2.1⟩), (.string ⟨List.toArray z1393.2.2.1⟩), (.int .i64 z1393.2.2.2.1)], rowT 9 eStr A748 c749 v750] ∧ L_subwaylaw15_TicketVoid_k70 (L_subwaylaw15_TicketVoid_l37 p2 p3 z4 f55) (L_subwaylaw15_TicketVoid_l65 (L_subwaylaw15_TicketVoid_l37 p2 p3 z4 f55) p2 p3 z4 v750 f69) p3 v1312 z1393 v1411 = some r) ?_ ?_
        ·refine At.cd K (o := (.tmp 90)) K (b := (z1393.2.2.2.2.1 == 0)) K (fun hb1420 => ?_) (fun hb1420 => ?_)
         ·have H := ct H hb1420
          refine At.region K K ?_
          refine In.run' 3 (k' := 3) rfl [(91, (.int .i64 v1311)), (92, (.int .i64 (IntKind.wrap .i64 (v1311 + 1)))), (17, (.int .i64 (IntKind.wrap .i64 (v1311 + 1))))] K ?_
          refine In.fin K ?_
          exact ⟨(IntKind.wrap .i64 (v1311 + 1)), ⟨K, K, K, K, K, K, K, K, K, trivial⟩, SP.sel hs1409 [2, 3, 1, 4, 0] rfl rfl, H⟩
         ·have H := cf H hb1420
          refine At.skip K ?_
          exact ⟨v1311, ⟨K, K, K, K, K, K, K, K, K, trivial⟩, SP.sel hs1409 [2, 3, 1, 4, 0] rfl rfl, H⟩
        ·rintro ρ w1412 ⟨v1411, hk, hs1413, H⟩
         unfold L_subwaylaw15_TicketVoid_k70 at H
         first | refine At.known [(7, (.bool z4)), (8, (pt g14 0)), (9, (.int .i64 (IntKind.wrap .i64 (Int.tmod ((p2).toNat : Int) 20)))), (10, (.slice A748 (List.length v750) c749)), (14, (.int .i64 (IntKind.wrap .i64 (Int.tmod ((p3).toNat : Int) 25)))), (17, (.int .i64 v1411)), (18, (.int .i64 v1312)), (19, (pt g1403 0)), (20, (.int .i64 z1393.2.2.2.2.1))] hk ?_ | rw [← known_updL (l := [(7, (.bool z4)), (8, (pt g14 0)), (9, (.int .i64 (IntKind.wrap .i64 (Int.tmod ((p2).toNat : Int) 20)))), (10, (.slice A748 (List.length v750) c749)), (14, (.int .i64 (IntKind.wrap .i64 (Int.tmod ((p3).toNat : Int) 25)))), (17, (.int .i64 v1411)), (18, (.int .i64 v1312)), (19, (pt g1403 0)), (20, (.int .i64 z1393.2.2.2.2.1))]) hk]
         refine At.sq K ?_
         refine At.join (fun ρ w => ∃ (v1415 : Bool), Known ρ [(7, (.bool z4)), (8, (pt g14 0)), (9, (.int .i64 (IntKind.wrap .i64 (Int.tmod ((p2).toNat : Int) 20)))), (10, (.slice A748 (List.length v750) c749)), (14, (.int .i64 (IntKind.wrap .i64 (Int.tmod ((p3).toNat : Int) 25)))), (17, (.int .i64 v1411)), (18, (.int .i64 v1312)), (100, (.bool v1415))] ∧ SP [] w0 w [rdE eU8 A1397 c1398 z1393.2.2.2.2.2.1, rowT 59 (ePair (eInt .i64) (ePair eStr (ePair eStr (ePair (eInt .i64) eStr)))) A1399 c1400 z1393.2.2.2.2.2.2.2, boxE g14 56 #[(.slice A1397 (List.length z1393.2.2.2.2.2.1) c1398), (.int .i64 z1393.2.2.2.2.2.2.1), (.slice A1399 (List.length z1393.2.2.2.2.2.2.2) c1400)], rowT 9 eStr A748 c749 v750] ∧ L_subwaylaw15_TicketVoid_k71 (L_subwaylaw15_TicketVoid_l37 p2 p3 z4 f55) (L_subwaylaw15_TicketVoid_l65 (L_subwaylaw15_TicketVoid_l37 p2 p3 z4 f55) p2 p3 z4 v750 f69) v1312 z1393 v1411 v1415 = some r) ?_ ?_
         ·refine At.region K K ?_
          refine In.run' 3 (k' := 3) rfl [(93, (.int .i64 z1393.2.2.2.2.1)), (94, (.bool (z1393.2.2.2.2.1 == 0))), (95, (.bool (z1393.2.2.2.2.1 == 0)))] K ?_
          refine In.guard (t := 95) (b := (z1393.2.2.2.2.1 == 0)) K (fun hb1419 => ?_) (fun hb1419 => ?_)
          ·have H := ct H hb1419
           refine In.run' 1 (k' := 4) rfl [(96, (pt g1403 0))] K ?_
           refine In.step (k' := 5) rfl K ?_
           refine Step.load (t := 3) (x := (.tmp 96)) (g := g1403) (off := 0) (i := 3) (v := (.int .i64 z1393.1)) (d := (some 97)) (k := 4) K rfl K hs1413 rfl K ?_
           refine In.run' 3 (k' := 8) rfl [(98, (.int .i64 (IntKind.wrap .i64 (Int.tmod ((p3).toNat : Int) 25)))), (99, (.bool (z1393.1 == (IntKind.wrap .i64 (Int.tmod ((p3).toNat : Int) 25))))), (100, (.bool (z1393.1 == (IntKind.wrap .i64 (Int.tmod ((p3).toNat : Int) 25)))))] K ?_
           refine In.fin K ?_
           exact ⟨(z1393.1 == (IntKind.wrap .i64 (Int.tmod ((p3).toNat : Int) 25))), ⟨K, K, K, K, K, K, K, K, trivial⟩, SP.sel hs1413 [0, 1, 2, 4] rfl rfl, H⟩
          ·have H := cf H hb1419
           refine In.run' 5 (k' := 8) rfl [(96, undef), (97, undef), (98, undef), (99, undef), (100, (.bool false))] K ?_
           refine In.fin K ?_
           exact ⟨false, ⟨K, K, K, K, K, K, K, K, trivial⟩, SP.sel hs1413 [0, 1, 2, 4] rfl rfl, H⟩
         ·rintro ρ w1416 ⟨v1415, hk, hs1417, H⟩
          unfold L_subwaylaw15_TicketVoid_k71 at H
          first | refine At.known [(7, (.bool z4)), (8, (pt g14 0)), (9, (.int .i64 (IntKind.wrap .i64 (Int.tmod ((p2).toNat : Int) 20)))), (10, (.slice A748 (List.length v750) c749)), (14, (.int .i64 (IntKind.wrap .i64 (Int.tmod ((p3).toNat : Int) 25)))), (17, (.int .i64 v1411)), (18, (.int .i64 v1312)), (100, (.bool v1415))] hk ?_ | rw [← known_updL (l := [(7, (.bool z4)), (8, (pt g14 0)), (9, (.int .i64 (IntKind.wrap .i64 (Int.tmod ((p2).toNat : Int) 20)))), (10, (.slice A748 (List.length v750) c749)), (14, (.int .i64 (IntKind.wrap .i64 (Int.tmod ((p3).toNat : Int) 25)))), (17, (.int .i64 v1411)), (18, (.int .i64 v1312)), (100, (.bool v1415))]) hk]
          refine At.cd K (o := (.tmp 100)) K (b := v1415) K (fun hb1418 => ?_) (fun hb1418 => ?_)
          ·have H := ct H hb1418
           refine At.sq K ?_
           refine At.region K K ?_
           refine In.run' 1 (k' := 1) rfl [(6, (.bool false))] K ?_
           refine In.fin K ?_
           refine At.ret K ?_
           refine ⟨(.bool false), K, ?_⟩
           obtain rfl := some_elim H
           exact ⟨rfl, SP.sel hs1417 [] rfl rfl⟩
          ·have H := cf H hb1418
           refine At.skip K ?_
           refine At.region K K ?_
           refine In.run' 3 (k' := 3) rfl [(78, (.int .i64 v1312)), (79, (.int .i64 (IntKind.wrap .i64 (v1312 + 1)))), (18, (.int .i64 (IntKind.wrap .i64 (v1312 + 1))))] K ?_
           refine In.fin K ?_
           exact ⟨z1393.2.2.2.2.2.1, z1393.2.2.2.2.2.2.1, z1393.2.2.2.2.2.2.2, v1411, (IntKind.wrap .i64 (v1312 + 1)), A1397, c1398, A1399, c1400, ⟨K, K, K, K, K, K, K, trivial⟩, SP.sel hs1417 [0, 1, 2, 3] rfl rfl, H⟩
       ·have H := cf H hb1383
        refine At.exit K (id := 2) K ?_
        refine At.sq K ?_
        refine At.region K K ?_
        refine In.run' 2 (k' := 2) rfl [(101, (.int .i64 (IntKind.wrap .i64 (Int.tmod ((p2).toNat : Int) 20)))), (21, (.int .i64 (IntKind.wrap .i64 (Int.tmod ((p2).toNat : Int) 20))))] K ?_
        refine In.fin K ?_
        refine At.sq K ?_
        refine At.sq K ?_
        refine At.region K K ?_
        refine In.run' 3 (k' := 3) rfl [(102, (.int .i64 (IntKind.wrap .i64 (Int.tmod ((p3).toNat : Int) 25)))), (103, (.int .i64 (IntKind.wrap .i64 (Int.tmod ((p2).toNat : Int) 20)))), (104, (.bool (decide ((IntKind.wrap .i64 (Int.tmod ((p3).toNat : Int) 25)) < (IntKind.wrap .i64 (Int.tmod ((p2).toNat : Int) 20))))))] K ?_
        refine In.fin K ?_
        refine At.join (fun ρ w => ∃ (v1422 : Int), Known ρ [(7, (.bool z4)), (8, (pt g14 0)), (17, (.int .i64 v1311)), (21, (.int .i64 v1422))] ∧ SP [] w0 w [rdE eU8 A1304 c1305 v1306, rowT 59 (ePair (eInt .i64) (ePair eStr (ePair eStr (ePair (eInt .i64) eStr)))) A1308 c1309 v1310, boxE g14 56 #[(.slice A1304 (List.length v1306) c1305), (.int .i64 v1307), (.slice A1308 (List.length v1310) c1309)]] ∧ L_subwaylaw15_TicketVoid_k72 (L_subwaylaw15_TicketVoid_l37 p2 p3 z4 f55) (L_subwaylaw15_TicketVoid_l65 (L_subwaylaw15_TicketVoid_l37 p2 p3 z4 f55) p2 p3 z4 v750 f69) z4 v1306 v1307 v1310 v1311 v1422 = some r) ?_ ?_
        ·refine At.cd K (o := (.tmp 104)) K (b := (decide ((IntKind.wrap .i64 (Int.tmod ((p3).toNat : Int) 25)) < (IntKind.wrap .i64 (Int.tmod ((p2).toNat : Int) 20))))) K (fun hb1452 => ?_) (fun hb1452 => ?_)
         ·have H := ct H hb1452
          refine At.region K K ?_
          refine In.run' 3 (k' := 3) rfl [(105, (.int .i64 (IntKind.wrap .i64 (Int.tmod ((p2).toNat : Int) 20)))), (106, (.int .i64 (IntKind.wrap .i64 ((IntKind.wrap .i64 (Int.tmod ((p2).toNat : Int) 20)) - 1)))), (21, (.int .i64 (IntKind.wrap .i64 ((IntKind.wrap .i64 (Int.tmod ((p2).toNat : Int) 20)) - 1))))] K ?_
          refine In.fin K ?_
          exact ⟨(IntKind.wrap .i64 ((IntKind.wrap .i64 (Int.tmod ((p2).toNat : Int) 20)) - 1)), ⟨K, K, K, K, trivial⟩, SP.sel hs1303 [0, 1, 2] rfl rfl, H⟩
         ·have H := cf H hb1452
          refine At.skip K ?_
          exact ⟨(IntKind.wrap .i64 (Int.tmod ((p2).toNat : Int) 20)), ⟨K, K, K, K, trivial⟩, SP.sel hs1303 [0, 1, 2] rfl rfl, H⟩
        ·rintro ρ w1423 ⟨v1422, hk, hs1424, H⟩
         unfold L_subwaylaw15_TicketVoid_k72 at H
         first | refine At.known [(7, (.bool z4)), (8, (pt g14 0)), (17, (.int .i64 v1311)), (21, (.int .i64 v1422))] hk ?_ | rw [← known_updL (l := [(7, (.bool z4)), (8, (pt g14 0)), (17, (.int .i64 v1311)), (21, (.int .i64 v1422))]) hk]
         refine At.sq K ?_
         refine At.join (fun ρ w => ∃ (v1437 : Bool), Known ρ [(6, (.bool v1437))] ∧ SP [] w0 w [] ∧ L_subwaylaw15_TicketVoid_k73 (L_subwaylaw15_TicketVoid_l37 p2 p3 z4 f55) (L_subwaylaw15_TicketVoid_l65 (L_subwaylaw15_TicketVoid_l37 p2 p3 z4 f55) p2 p3 z4 v750 f69) v1437 = some r) ?_ ?_
         ·refine At.region K K ?_
          refine In.run' 2 (k' := 2) rfl [(107, (.bool z4)), (108, (.bool z4))] K ?_
          refine In.guard (t := 108) (b := z4) K (fun hb1440 => ?_) (fun hb1440 => ?_)
          ·have H := ct H hb1440
           refine In.run' 5 (k' := 7) rfl [(109, (.int .i64 v1311)), (110, (.int .i64 v1422)), (111, (.bool (v1311 == v1422))), (112, (.bool (v1311 == v1422))), (113, (.bool (v1311 == v1422)))] K ?_
           refine In.guard (t := 113) (b := (v1311 == v1422)) K (fun hb1441 => ?_) (fun hb1441 => ?_)
           ·have H := ct H hb1441
            refine In.run' 1 (k' := 8) rfl [(114, (pt g14 0))] K ?_
            obtain ⟨z1442, hz1443, H⟩ := bind_elim H
            refine In.step (k' := 9) rfl K ?_
            refine Step.callF (f := 20) (fo := (.func 20)) (xs := #[(.tmp 114)]) (tys := #[24]) (first := #[]) (captured := #[]) (d := (some 115)) (k := 8) K rfl K K Tryd.call20 (L_ticket_Book_Many_walk g14 A1304 c1305 A1308 c1309 v1306 v1307 v1310 w1423 (SP.sub hs1424 [2, 0, 1] rfl rfl) z1442 hz1443) ?_
            rintro e w1444 ⟨A1446, c1447, A1448, c1449, rfl, hs1445⟩
            refine ⟨_, rfl, ?_⟩
            have hs1451 : SP [] w0 w1444 [boxE g14 56 #[(.slice A1446 (List.length v1306) c1447), (.int .i64 v1307), (.slice A1448 (List.length v1310) c1449)], rdE eU8 A1446 c1447 v1306, rowT 59 (ePair (eInt .i64) (ePair eStr (ePair eStr (ePair (eInt .i64) eStr)))) A1448 c1449 v1310] := SP.callS hs1424 [2, 0, 1] [] rfl rfl hs1445 rfl
            clear hs1445
            refine In.run' 3 (k' := 12) rfl [(116, (.bool (z1442 == 0))), (117, (.bool (z1442 == 0))), (6, (.bool (z1442 == 0)))] K ?_
            refine In.fin K ?_
            exact ⟨(z1442 == 0), ⟨K, trivial⟩, SP.sel hs1451 [] rfl rfl, H⟩
           ·have H := cf H hb1441
            refine In.run' 5 (k' := 12) rfl [(114, undef), (115, undef), (116, undef), (117, (.bool false)), (6, (.bool false))] K ?_
            refine In.fin K ?_
            exact ⟨false, ⟨K, trivial⟩, SP.sel hs1424 [] rfl rfl, H⟩
          ·have H := cf H hb1440
           refine In.run' 10 (k' := 12) rfl [(109, undef), (110, undef), (111, undef), (112, (.bool false)), (113, (.bool false)), (114, undef), (115, undef), (116, undef), (117, (.bool false)), (6, (.bool false))] K ?_
           refine In.fin K ?_
           exact ⟨false, ⟨K, trivial⟩, SP.sel hs1424 [] rfl rfl, H⟩
         ·rintro ρ w1438 ⟨v1437, hk, hs1439, H⟩
          unfold L_subwaylaw15_TicketVoid_k73 at H
          first | refine At.known [(6, (.bool v1437))] hk ?_ | rw [← known_updL (l := [(6, (.bool v1437))]) hk]
          refine At.ret K ?_
          refine ⟨(.bool v1437), K, ?_⟩
          obtain rfl := some_elim H
          exact ⟨rfl, SP.sel hs1439 [] rfl rfl⟩
      ·exact ⟨z1136.2.1, z1136.2.2.1, z1136.2.2.2, 0, 0, A1140, c1141, A1142, c1143, ⟨K, K, K, K, K, K, K, trivial⟩, SP.sel hs1149 [0, 1, 2, 3] rfl rfl, H⟩
  ·exact ⟨z10.1, z10.2.1, z10.2.2, ([] : List (List UInt8)), 0, A15, c16, A17, c18, none, 0, ⟨K, K, K, K, K, K, trivial⟩, SP.sel (SP.nilrow hs20 9 eStr) [1, 2, 0, 3] rfl rfl, H⟩
end Go.Proofs.YtjllaeceghmjgaaDoor
