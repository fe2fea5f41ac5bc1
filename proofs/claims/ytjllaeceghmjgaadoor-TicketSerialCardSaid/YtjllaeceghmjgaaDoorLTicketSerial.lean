/- LIFTED BY PROGRAM (tools/lift.py): what functions compute, and that they do. -/
import Derived.Test.YtjllaeceghmjgaaDoorLTB
namespace Go.Proofs.YtjllaeceghmjgaaDoor
set_option linter.unusedSimpArgs false
set_option linter.unusedVariables false
open Go.RowKit

/-! L_subwaylaw15_TicketSerial -/
def L_subwaylaw15_TicketSerial_k1 (v106 : Bool) : Option (Bool) :=
  (some (v106))
def L_subwaylaw15_TicketSerial (p1 : (List UInt8)) (pVisitor2 : Int) (pName3 : (List UInt8)) (pTenant4 : (List UInt8)) (pEpoch5 : Int) (p6 : (List UInt8)) : Option (Bool) :=
  ((L_subwaylaw15_head ).bind fun z11 => ((L_ticket_New p1).bind fun z17 => (cond (decide ((IntKind.wrap .i64 (((List.length p1 : Nat) : Int) + ((List.length p6 : Nat) : Int))) > 3000)) (some (z11)) ((sub p6 0 (if 255 < ((List.length p6 : Nat) : Int) then 255 else ((List.length p6 : Nat) : Int))).bind fun l32 => ((L_ticket_Book_Issue z17.1 z17.2.1 z17.2.2 pVisitor2 pName3 pTenant4 pEpoch5 p6).bind fun z33 => ((L_ticket_Book_Void z33.2.2.1 z33.2.2.2.1 z33.2.2.2.2 pVisitor2).bind fun z43 => ((L_ticket_Book_Issue z43.2.1 z43.2.2.1 z43.2.2.2 pVisitor2 pName3 pTenant4 pEpoch5 p6).bind fun z53 => (cond z11 (cond (z53.2.1 == 0) ((chk (Nat.ble (List.length p1) 281474976710656)).bind fun _ => ((L_subwayref03_Proof p1 ([([49] : List UInt8), l32] : List (List UInt8))).bind fun z121 => ((sub z121 0 32).bind fun l130 => (cond (z33.1 == l130) ((chk (Nat.ble (List.length p1) 281474976710656)).bind fun _ => ((L_subwayref03_Proof p1 ([([50] : List UInt8), l32] : List (List UInt8))).bind fun z142 => ((sub z142 0 32).bind fun l151 => (L_subwaylaw15_TicketSerial_k1 (z53.1 == l151))))) (L_subwaylaw15_TicketSerial_k1 false))))) (L_subwaylaw15_TicketSerial_k1 false)) (L_subwaylaw15_TicketSerial_k1 false)))))))))
set_option maxRecDepth 100000 in
set_option maxHeartbeats 4000000 in
theorem L_subwaylaw15_TicketSerial_walk  (p1 : (List UInt8)) (pVisitor2 : Int) (pName3 : (List UInt8)) (pTenant4 : (List UInt8)) (pEpoch5 : Int) (p6 : (List UInt8)) (w0 : World) (hL : LaidW w0)  (r : (Bool)) (H : L_subwaylaw15_TicketSerial p1 pVisitor2 pName3 pTenant4 pEpoch5 p6 = some r) :
  Calls Tryd.prog 6 #[(.string ⟨List.toArray p1⟩), (.agg #[(.int .i64 pVisitor2), (.string ⟨List.toArray pName3⟩), (.string ⟨List.toArray pTenant4⟩), (.int .i64 pEpoch5)]), (.string ⟨List.toArray p6⟩)] w0 (fun e w' => e = .returned (.bool r) ∧ SP [] w0 w' []) := by
 unfold L_subwaylaw15_TicketSerial at H
 refine calls_go (n := 80) Tryd.func6 K K K ?_
 have hs0 := SP.start [] w0
 refine At.sq K ?_
 refine At.region K K ?_
 refine In.step (k' := 1) rfl K ?_
 refine Step.box (t := 31) (x := (.tmp 1)) (v := (.agg #[(.int .i64 pVisitor2), (.string ⟨List.toArray pName3⟩), (.string ⟨List.toArray pTenant4⟩), (.int .i64 pEpoch5)])) (d := (some 4)) (k := 0) K rfl K hs0 ?_
 intro g7 w8 (hs10 : SP [] w0 w8 [boxE g7 31 #[(.int .i64 pVisitor2), (.string ⟨List.toArray pName3⟩), (.string ⟨List.toArray pTenant4⟩), (.int .i64 pEpoch5)]])
 refine In.run' 1 (k' := 2) rfl [(6, (.bool false))] K ?_
 refine In.fin K ?_
 refine At.sq K ?_
 refine At.region K K ?_
 obtain ⟨z11, hz12, H⟩ := bind_elim H
 refine In.step (k' := 1) rfl K ?_
 refine Step.callF (f := 9) (fo := (.func 9)) (xs := #[]) (tys := #[]) (first := #[]) (captured := #[]) (d := (some 14)) (k := 0) K rfl K K Tryd.call9 (L_subwaylaw15_head_walk   w8 (laid_below hL (SP.keeps hs10)) z11 hz12) ?_
 rintro e w13 ⟨rfl, hs14⟩
 refine ⟨_, rfl, ?_⟩
 have hs16 : SP [] w0 w13 [boxE g7 31 #[(.int .i64 pVisitor2), (.string ⟨List.toArray pName3⟩), (.string ⟨List.toArray pTenant4⟩), (.int .i64 pEpoch5)]] := SP.call hs10 hs14
 clear hs14
 refine In.run' 1 (k' := 2) rfl [(7, (.bool z11))] K ?_
 refine In.fin K ?_
 refine At.sq K ?_
 refine At.region K K ?_
 refine In.run' 1 (k' := 1) rfl [(15, (.string ⟨List.toArray p1⟩))] K ?_
 obtain ⟨z17, hz18, H⟩ := bind_elim H
 refine In.step (k' := 2) rfl K ?_
 refine Step.callF (f := 10) (fo := (.func 10)) (xs := #[(.tmp 15)]) (tys := #[9]) (first := #[]) (captured := #[]) (d := (some 16)) (k := 1) K rfl K K Tryd.call10 (L_ticket_New_walk  p1 w13  z17 hz18) ?_
 rintro e w19 ⟨g21, A22, c23, A24, c25, rfl, hs20⟩
 refine ⟨_, rfl, ?_⟩
 have hs27 : SP [] w0 w19 [boxE g7 31 #[(.int .i64 pVisitor2), (.string ⟨List.toArray pName3⟩), (.string ⟨List.toArray pTenant4⟩), (.int .i64 pEpoch5)], boxE g21 56 #[(.slice A22 (List.length z17.1) c23), (.int .i64 z17.2.1), (.slice A24 (List.length z17.2.2) c25)], rdE eU8 A22 c23 z17.1, rowT 59 (ePair (eInt .i64) (ePair eStr (ePair eStr (ePair (eInt .i64) eStr)))) A24 c25 z17.2.2] := SP.call hs16 hs20
 clear hs20
 refine In.run' 1 (k' := 3) rfl [(8, (pt g21 0))] K ?_
 refine In.fin K ?_
 refine At.sq K ?_
 refine At.sq K ?_
 refine At.region K K ?_
 refine In.run' 10 (k' := 10) rfl [(17, (pt g21 0)), (18, (.bool false)), (19, (.bool false)), (20, (.string ⟨List.toArray p1⟩)), (21, (.int .i64 ((List.length p1 : Nat) : Int))), (22, (.string ⟨List.toArray p6⟩)), (23, (.int .i64 ((List.length p6 : Nat) : Int))), (24, (.int .i64 (IntKind.wrap .i64 (((List.length p1 : Nat) : Int) + ((List.length p6 : Nat) : Int))))), (25, (.bool (decide ((IntKind.wrap .i64 (((List.length p1 : Nat) : Int) + ((List.length p6 : Nat) : Int))) > 3000)))), (26, (.bool (decide ((IntKind.wrap .i64 (((List.length p1 : Nat) : Int) + ((List.length p6 : Nat) : Int))) > 3000))))] K ?_
 refine In.fin K ?_
 refine At.cd K (o := (.tmp 26)) K (b := (decide ((IntKind.wrap .i64 (((List.length p1 : Nat) : Int) + ((List.length p6 : Nat) : Int))) > 3000))) K (fun hb28 => ?_) (fun hb28 => ?_)
 ·have H := ct H hb28
  refine At.sq K ?_
  refine At.region K K ?_
  refine In.run' 6 (k' := 6) rfl [(27, (pt g21 0)), (28, (.bool true)), (29, (.bool true)), (30, (.bool z11)), (31, (.bool z11)), (6, (.bool z11))] K ?_
  refine In.fin K ?_
  refine At.ret K ?_
  refine ⟨(.bool z11), K, ?_⟩
  obtain rfl := some_elim H
  exact ⟨rfl, SP.sel hs27 [] rfl rfl⟩
 ·have H := cf H hb28
  refine At.skip K ?_
  refine At.sq K ?_
  refine At.region K K ?_
  refine In.run' 4 (k' := 4) rfl [(32, (.string ⟨List.toArray p6⟩)), (33, (.string ⟨List.toArray p6⟩)), (34, (.int .i64 ((List.length p6 : Nat) : Int))), (35, (.int .i64 (if 255 < ((List.length p6 : Nat) : Int) then 255 else ((List.length p6 : Nat) : Int))))] K ?_
  obtain ⟨hz29, hz30, hz31, H⟩ := sub_elim H
  obtain ⟨l32, hyl32⟩ : ∃ y, (List.drop (Int.toNat 0) (List.take (Int.toNat (if 255 < ((List.length p6 : Nat) : Int) then 255 else ((List.length p6 : Nat) : Int))) p6)) = y := ⟨_, rfl⟩
  rw [hyl32] at H
  refine In.step (k' := 5) rfl K ?_
  refine Step.strSlice (a := p6) (T := 9) (x := (.tmp 32)) (lo := none) (hi := (some (.tmp 35))) (i := 0) (j := (if 255 < ((List.length p6 : Nat) : Int) then 255 else ((List.length p6 : Nat) : Int))) (d := (some 36)) (k := 4) K rfl K K rfl ⟨.i64, K⟩ hz29 hz30 hz31 ?_
  rw [hyl32]
  refine In.run' 1 (k' := 6) rfl [(9, (.string ⟨List.toArray l32⟩))] K ?_
  refine In.fin K ?_
  refine At.sq K ?_
  refine At.region K K ?_
  refine In.run' 1 (k' := 1) rfl [(38, (pt g21 0))] K ?_
  refine In.step (k' := 2) rfl K ?_
  refine Step.load (t := 31) (x := (.tmp 4)) (g := g7) (off := 0) (i := 0) (v := (.agg #[(.int .i64 pVisitor2), (.string ⟨List.toArray pName3⟩), (.string ⟨List.toArray pTenant4⟩), (.int .i64 pEpoch5)])) (d := (some 39)) (k := 1) K rfl K hs27 rfl K ?_
  refine In.run' 1 (k' := 3) rfl [(40, (.string ⟨List.toArray p6⟩))] K ?_
  obtain ⟨z33, hz34, H⟩ := bind_elim H
  refine In.step (k' := 4) rfl K ?_
  refine Step.callF (f := 18) (fo := (.func 18)) (xs := #[(.tmp 38), (.tmp 39), (.tmp 40)]) (tys := #[24, 31, 9]) (first := #[]) (captured := #[]) (d := (some 41)) (k := 3) K rfl K K Tryd.call18 (L_ticket_Book_Issue_walk g21 A22 c23 A24 c25 z17.1 z17.2.1 z17.2.2 pVisitor2 pName3 pTenant4 pEpoch5 p6 w19 (fun w hm => laid_below hL (SP.below_of hs27 (l := [1, 2, 3]) rfl hm)) (SP.sub hs27 [1, 2, 3] rfl rfl) z33 hz34) ?_
  rintro e w35 ⟨A37, c38, A39, c40, rfl, hs36⟩
  refine ⟨_, rfl, ?_⟩
  have hs42 : SP [] w0 w35 [boxE g7 31 #[(.int .i64 pVisitor2), (.string ⟨List.toArray pName3⟩), (.string ⟨List.toArray pTenant4⟩), (.int .i64 pEpoch5)], boxE g21 56 #[(.slice A37 (List.length z33.2.2.1) c38), (.int .i64 z33.2.2.2.1), (.slice A39 (List.length z33.2.2.2.2) c40)], rdE eU8 A37 c38 z33.2.2.1, rowT 59 (ePair (eInt .i64) (ePair eStr (ePair eStr (ePair (eInt .i64) eStr)))) A39 c40 z33.2.2.2.2] := SP.callS hs27 [1, 2, 3] [0] rfl rfl hs36 rfl
  clear hs36
  refine In.run' 5 (k' := 9) rfl [(37, (.tuple #[(.string ⟨List.toArray z33.1⟩), (.int .i64 z33.2.1)])), (42, (.string ⟨List.toArray z33.1⟩)), (43, (.int .i64 z33.2.1)), (10, (.string ⟨List.toArray z33.1⟩)), (11, (.int .i64 z33.2.1))] K ?_
  refine In.fin K ?_
  refine At.sq K ?_
  refine At.region K K ?_
  refine In.run' 2 (k' := 2) rfl [(44, (pt g21 0)), (45, (pt g7 0))] K ?_
  refine In.step (k' := 3) rfl K ?_
  refine Step.load (t := 3) (x := (.tmp 45)) (g := g7) (off := 0) (i := 0) (v := (.int .i64 pVisitor2)) (d := (some 46)) (k := 2) K rfl K hs42 rfl K ?_
  obtain ⟨z43, hz44, H⟩ := bind_elim H
  refine In.step (k' := 4) rfl K ?_
  refine Step.callF (f := 16) (fo := (.func 16)) (xs := #[(.tmp 44), (.tmp 46)]) (tys := #[24, 3]) (first := #[]) (captured := #[]) (d := (some 47)) (k := 3) K rfl K K Tryd.call16 (L_ticket_Book_Void_walk g21 A37 c38 A39 c40 z33.2.2.1 z33.2.2.2.1 z33.2.2.2.2 pVisitor2 w35 (SP.sub hs42 [1, 2, 3] rfl rfl) z43 hz44) ?_
  rintro e w45 ⟨A47, c48, A49, c50, rfl, hs46⟩
  refine ⟨_, rfl, ?_⟩
  have hs52 : SP [] w0 w45 [boxE g7 31 #[(.int .i64 pVisitor2), (.string ⟨List.toArray pName3⟩), (.string ⟨List.toArray pTenant4⟩), (.int .i64 pEpoch5)], boxE g21 56 #[(.slice A47 (List.length z43.2.1) c48), (.int .i64 z43.2.2.1), (.slice A49 (List.length z43.2.2.2) c50)], rdE eU8 A47 c48 z43.2.1, rowT 59 (ePair (eInt .i64) (ePair eStr (ePair eStr (ePair (eInt .i64) eStr)))) A49 c50 z43.2.2.2] := SP.callS hs42 [1, 2, 3] [0] rfl rfl hs46 rfl
  clear hs46
  refine In.fin K ?_
  refine At.sq K ?_
  refine At.region K K ?_
  refine In.run' 1 (k' := 1) rfl [(49, (pt g21 0))] K ?_
  refine In.step (k' := 2) rfl K ?_
  refine Step.load (t := 31) (x := (.tmp 4)) (g := g7) (off := 0) (i := 0) (v := (.agg #[(.int .i64 pVisitor2), (.string ⟨List.toArray pName3⟩), (.string ⟨List.toArray pTenant4⟩), (.int .i64 pEpoch5)])) (d := (some 50)) (k := 1) K rfl K hs52 rfl K ?_
  refine In.run' 1 (k' := 3) rfl [(51, (.string ⟨List.toArray p6⟩))] K ?_
  obtain ⟨z53, hz54, H⟩ := bind_elim H
  refine In.step (k' := 4) rfl K ?_
  refine Step.callF (f := 18) (fo := (.func 18)) (xs := #[(.tmp 49), (.tmp 50), (.tmp 51)]) (tys := #[24, 31, 9]) (first := #[]) (captured := #[]) (d := (some 52)) (k := 3) K rfl K K Tryd.call18 (L_ticket_Book_Issue_walk g21 A47 c48 A49 c50 z43.2.1 z43.2.2.1 z43.2.2.2 pVisitor2 pName3 pTenant4 pEpoch5 p6 w45 (fun w hm => laid_below hL (SP.below_of hs52 (l := [1, 2, 3]) rfl hm)) (SP.sub hs52 [1, 2, 3] rfl rfl) z53 hz54) ?_
  rintro e w55 ⟨A57, c58, A59, c60, rfl, hs56⟩
  refine ⟨_, rfl, ?_⟩
  have hs62 : SP [] w0 w55 [boxE g7 31 #[(.int .i64 pVisitor2), (.string ⟨List.toArray pName3⟩), (.string ⟨List.toArray pTenant4⟩), (.int .i64 pEpoch5)], boxE g21 56 #[(.slice A57 (List.length z53.2.2.1) c58), (.int .i64 z53.2.2.2.1), (.slice A59 (List.length z53.2.2.2.2) c60)], rdE eU8 A57 c58 z53.2.2.1, rowT 59 (ePair (eInt .i64) (ePair eStr (ePair eStr (ePair (eInt .i64) eStr)))) A59 c60 z53.2.2.2.2] := SP.callS hs52 [1, 2, 3] [0] rfl rfl hs56 rfl
  clear hs56
  refine In.run' 5 (k' := 9) rfl [(48, (.tuple #[(.string ⟨List.toArray z53.1⟩), (.int .i64 z53.2.1)])), (53, (.string ⟨List.toArray z53.1⟩)), (54, (.int .i64 z53.2.1)), (12, (.string ⟨List.toArray z53.1⟩)), (13, (.int .i64 z53.2.1))] K ?_
  refine In.fin K ?_
  refine At.sq K ?_
  refine At.join (fun ρ w => ∃ (v106 : Bool), Known ρ [(6, (.bool v106))] ∧ SP [] w0 w [] ∧ L_subwaylaw15_TicketSerial_k1 v106 = some r) ?_ ?_
  ·refine At.region K K ?_
   refine In.run' 2 (k' := 2) rfl [(55, (.bool z11)), (56, (.bool z11))] K ?_
   refine In.guard (t := 56) (b := z11) K (fun hb109 => ?_) (fun hb109 => ?_)
   ·have H := ct H hb109
    refine In.run' 4 (k' := 6) rfl [(57, (.int .i64 z53.2.1)), (58, (.bool (z53.2.1 == 0))), (59, (.bool (z53.2.1 == 0))), (60, (.bool (z53.2.1 == 0)))] K ?_
    refine In.guard (t := 60) (b := (z53.2.1 == 0)) K (fun hb110 => ?_) (fun hb110 => ?_)
    ·have H := ct H hb110
     refine In.run' 2 (k' := 8) rfl [(61, (.string ⟨List.toArray z33.1⟩)), (62, (.string ⟨List.toArray p1⟩))] K ?_
     obtain ⟨hb111, H⟩ := chk_elim H
     refine In.step (k' := 9) rfl K ?_
     refine Step.toBytes (S' := 9) (T := 50) (E := 5) (x := (.tmp 62)) (l := p1) (d := (some 63)) (k := 8) K rfl K K K K (max_of_chk48 hb111) hs62 ?_
     intro g112 c113 w114 hs115 _
     have hs116 : SP [] w0 w114 [boxE g7 31 #[(.int .i64 pVisitor2), (.string ⟨List.toArray pName3⟩), (.string ⟨List.toArray pTenant4⟩), (.int .i64 pEpoch5)], boxE g21 56 #[(.slice A57 (List.length z53.2.2.1) c58), (.int .i64 z53.2.2.2.1), (.slice A59 (List.length z53.2.2.2.2) c60)], rdE eU8 A57 c58 z53.2.2.1, rowT 59 (ePair (eInt .i64) (ePair eStr (ePair eStr (ePair (eInt .i64) eStr)))) A59 c60 z53.2.2.2.2, rdE eU8 (some ⟨g112, 0, none⟩) c113 p1] := hs115
     clear hs115
     refine In.run' 1 (k' := 10) rfl [(64, (.string ⟨List.toArray l32⟩))] K ?_
     refine In.step (k' := 11) rfl K ?_
     refine Step.newSlice (e := eStr) (T := 29) (E := 9) (len := 2) (parts := #[(0, (.const (.string ⟨List.toArray ([49] : List UInt8)⟩))), (1, (.tmp 64))]) (cs := #[(.string ⟨List.toArray ([49] : List UInt8)⟩), (.string ⟨List.toArray l32⟩)]) ([([49] : List UInt8), l32] : List (List UInt8)) (d := (some 65)) (k := 10) K rfl (fun _ => K) hs116 rfl rfl rfl rfl ?_
     intro g117 w118 (hs120 : SP [] w0 w118 [boxE g7 31 #[(.int .i64 pVisitor2), (.string ⟨List.toArray pName3⟩), (.string ⟨List.toArray pTenant4⟩), (.int .i64 pEpoch5)], boxE g21 56 #[(.slice A57 (List.length z53.2.2.1) c58), (.int .i64 z53.2.2.2.1), (.slice A59 (List.length z53.2.2.2.2) c60)], rdE eU8 A57 c58 z53.2.2.1, rowT 59 (ePair (eInt .i64) (ePair eStr (ePair eStr (ePair (eInt .i64) eStr)))) A59 c60 z53.2.2.2.2, rdE eU8 (some ⟨g112, 0, none⟩) c113 p1, rowT 9 eStr (some ⟨g117, 0, none⟩) (List.length ([([49] : List UInt8), l32] : List (List UInt8))) ([([49] : List UInt8), l32] : List (List UInt8))])
     obtain ⟨z121, hz122, H⟩ := bind_elim H
     refine In.step (k' := 12) rfl K ?_
     refine Step.callF (f := 21) (fo := (.func 21)) (xs := #[(.tmp 63), (.tmp 65)]) (tys := #[50, 29]) (first := #[]) (captured := #[]) (d := (some 66)) (k := 11) K rfl K K Tryd.call21 (L_subwayref03_Proof_walk (some ⟨g112, 0, none⟩) c113 (some ⟨g117, 0, none⟩) (List.length ([([49] : List UInt8), l32] : List (List UInt8))) p1 ([([49] : List UInt8), l32] : List (List UInt8)) w118 (rdE_rd (SP.get hs120 (i := 4) rfl)) (rowT_rd (SP.get hs120 (i := 5) rfl)) z121 hz122) ?_
     rintro e w123 ⟨rfl, hs124⟩
     refine ⟨_, rfl, ?_⟩
     have hs126 : SP [] w0 w123 [boxE g7 31 #[(.int .i64 pVisitor2), (.string ⟨List.toArray pName3⟩), (.string ⟨List.toArray pTenant4⟩), (.int .i64 pEpoch5)], boxE g21 56 #[(.slice A57 (List.length z53.2.2.1) c58), (.int .i64 z53.2.2.2.1), (.slice A59 (List.length z53.2.2.2.2) c60)], rdE eU8 A57 c58 z53.2.2.1, rowT 59 (ePair (eInt .i64) (ePair eStr (ePair eStr (ePair (eInt .i64) eStr)))) A59 c60 z53.2.2.2.2, rdE eU8 (some ⟨g112, 0, none⟩) c113 p1, rowT 9 eStr (some ⟨g117, 0, none⟩) (List.length ([([49] : List UInt8), l32] : List (List UInt8))) ([([49] : List UInt8), l32] : List (List UInt8))] := SP.call hs120 hs124
     clear hs124
     obtain ⟨hz127, hz128, hz129, H⟩ := sub_elim H
     obtain ⟨l130, hyl130⟩ : ∃ y, (List.drop (Int.toNat 0) (List.take (Int.toNat 32) z121)) = y := ⟨_, rfl⟩
     rw [hyl130] at H
     refine In.step (k' := 13) rfl K ?_
     refine Step.strSlice (a := z121) (T := 9) (x := (.tmp 66)) (lo := none) (hi := (some (.const (.int .i64 (32))))) (i := 0) (j := 32) (d := (some 67)) (k := 12) K rfl K K rfl ⟨.i64, K⟩ hz127 hz128 hz129 ?_
     rw [hyl130]
     refine In.step (k' := 14) rfl K ?_
     refine Step.strOp (op := .eql) (T := 9) (T' := 9) (x := (.tmp 61)) (y := (.tmp 67)) (a := z33.1) (b := l130) (r := (.bool (z33.1 == l130))) (d := (some 68)) (k := 13) K rfl K K rfl ?_
     refine In.run' 2 (k' := 16) rfl [(69, (.bool (z33.1 == l130))), (70, (.bool (z33.1 == l130)))] K ?_
     refine In.guard (t := 70) (b := (z33.1 == l130)) K (fun hb131 => ?_) (fun hb131 => ?_)
     ·have H := ct H hb131
      refine In.run' 2 (k' := 18) rfl [(71, (.string ⟨List.toArray z53.1⟩)), (72, (.string ⟨List.toArray p1⟩))] K ?_
      obtain ⟨hb132, H⟩ := chk_elim H
      refine In.step (k' := 19) rfl K ?_
      refine Step.toBytes (S' := 9) (T := 50) (E := 5) (x := (.tmp 72)) (l := p1) (d := (some 73)) (k := 18) K rfl K K K K (max_of_chk48 hb132) hs126 ?_
      intro g133 c134 w135 hs136 _
      have hs137 : SP [] w0 w135 [boxE g7 31 #[(.int .i64 pVisitor2), (.string ⟨List.toArray pName3⟩), (.string ⟨List.toArray pTenant4⟩), (.int .i64 pEpoch5)], boxE g21 56 #[(.slice A57 (List.length z53.2.2.1) c58), (.int .i64 z53.2.2.2.1), (.slice A59 (List.length z53.2.2.2.2) c60)], rdE eU8 A57 c58 z53.2.2.1, rowT 59 (ePair (eInt .i64) (ePair eStr (ePair eStr (ePair (eInt .i64) eStr)))) A59 c60 z53.2.2.2.2, rdE eU8 (some ⟨g112, 0, none⟩) c113 p1, rowT 9 eStr (some ⟨g117, 0, none⟩) (List.length ([([49] : List UInt8), l32] : List (List UInt8))) ([([49] : List UInt8), l32] : List (List UInt8)), rdE eU8 (some ⟨g133, 0, none⟩) c134 p1] := hs136
      clear hs136
      refine In.run' 1 (k' := 20) rfl [(74, (.string ⟨List.toArray l32⟩))] K ?_
      refine In.step (k' := 21) rfl K ?_
      refine Step.newSlice (e := eStr) (T := 29) (E := 9) (len := 2) (parts := #[(0, (.const (.string ⟨List.toArray ([50] : List UInt8)⟩))), (1, (.tmp 74))]) (cs := #[(.string ⟨List.toArray ([50] : List UInt8)⟩), (.string ⟨List.toArray l32⟩)]) ([([50] : List UInt8), l32] : List (List UInt8)) (d := (some 75)) (k := 20) K rfl (fun _ => K) hs137 rfl rfl rfl rfl ?_
      intro g138 w139 (hs141 : SP [] w0 w139 [boxE g7 31 #[(.int .i64 pVisitor2), (.string ⟨List.toArray pName3⟩), (.string ⟨List.toArray pTenant4⟩), (.int .i64 pEpoch5)], boxE g21 56 #[(.slice A57 (List.length z53.2.2.1) c58), (.int .i64 z53.2.2.2.1), (.slice A59 (List.length z53.2.2.2.2) c60)], rdE eU8 A57 c58 z53.2.2.1, rowT 59 (ePair (eInt .i64) (ePair eStr (ePair eStr (ePair (eInt .i64) eStr)))) A59 c60 z53.2.2.2.2, rdE eU8 (some ⟨g112, 0, none⟩) c113 p1, rowT 9 eStr (some ⟨g117, 0, none⟩) (List.length ([([49] : List UInt8), l32] : List (List UInt8))) ([([49] : List UInt8), l32] : List (List UInt8)), rdE eU8 (some ⟨g133, 0, none⟩) c134 p1, rowT 9 eStr (some ⟨g138, 0, none⟩) (List.length ([([50] : List UInt8), l32] : List (List UInt8))) ([([50] : List UInt8), l32] : List (List UInt8))])
      obtain ⟨z142, hz143, H⟩ := bind_elim H
      refine In.step (k' := 22) rfl K ?_
      refine Step.callF (f := 21) (fo := (.func 21)) (xs := #[(.tmp 73), (.tmp 75)]) (tys := #[50, 29]) (first := #[]) (captured := #[]) (d := (some 76)) (k := 21) K rfl K K Tryd.call21 (L_subwayref03_Proof_walk (some ⟨g133, 0, none⟩) c134 (some ⟨g138, 0, none⟩) (List.length ([([50] : List UInt8), l32] : List (List UInt8))) p1 ([([50] : List UInt8), l32] : List (List UInt8)) w139 (rdE_rd (SP.get hs141 (i := 6) rfl)) (rowT_rd (SP.get hs141 (i := 7) rfl)) z142 hz143) ?_
      rintro e w144 ⟨rfl, hs145⟩
      refine ⟨_, rfl, ?_⟩
      have hs147 : SP [] w0 w144 [boxE g7 31 #[(.int .i64 pVisitor2), (.string ⟨List.toArray pName3⟩), (.string ⟨List.toArray pTenant4⟩), (.int .i64 pEpoch5)], boxE g21 56 #[(.slice A57 (List.length z53.2.2.1) c58), (.int .i64 z53.2.2.2.1), (.slice A59 (List.length z53.2.2.2.2) c60)], rdE eU8 A57 c58 z53.2.2.1, rowT 59 (ePair (eInt .i64) (ePair eStr (ePair eStr (ePair (eInt .i64) eStr)))) A59 c60 z53.2.2.2.2, rdE eU8 (some ⟨g112, 0, none⟩) c113 p1, rowT 9 eStr (some ⟨g117, 0, none⟩) (List.length ([([49] : List UInt8), l32] : List (List UInt8))) ([([49] : List UInt8), l32] : List (List UInt8)), rdE eU8 (some ⟨g133, 0, none⟩) c134 p1, rowT 9 eStr (some ⟨g138, 0, none⟩) (List.length ([([50] : List UInt8), l32] : List (List UInt8))) ([([50] : List UInt8), l32] : List (List UInt8))] := SP.call hs141 hs145
      clear hs145
      obtain ⟨hz148, hz149, hz150, H⟩ := sub_elim H
      obtain ⟨l151, hyl151⟩ : ∃ y, (List.drop (Int.toNat 0) (List.take (Int.toNat 32) z142)) = y := ⟨_, rfl⟩
      rw [hyl151] at H
      refine In.step (k' := 23) rfl K ?_
      refine Step.strSlice (a := z142) (T := 9) (x := (.tmp 76)) (lo := none) (hi := (some (.const (.int .i64 (32))))) (i := 0) (j := 32) (d := (some 77)) (k := 22) K rfl K K rfl ⟨.i64, K⟩ hz148 hz149 hz150 ?_
      rw [hyl151]
      refine In.step (k' := 24) rfl K ?_
      refine Step.strOp (op := .eql) (T := 9) (T' := 9) (x := (.tmp 71)) (y := (.tmp 77)) (a := z53.1) (b := l151) (r := (.bool (z53.1 == l151))) (d := (some 78)) (k := 23) K rfl K K rfl ?_
      refine In.run' 2 (k' := 26) rfl [(79, (.bool (z53.1 == l151))), (6, (.bool (z53.1 == l151)))] K ?_
      refine In.fin K ?_
      exact ⟨(z53.1 == l151), ⟨K, trivial⟩, SP.sel hs147 [] rfl rfl, H⟩
     ·have H := cf H hb131
      refine In.run' 10 (k' := 26) rfl [(71, undef), (72, undef), (73, undef), (74, undef), (75, undef), (76, undef), (77, undef), (78, undef), (79, (.bool false)), (6, (.bool false))] K ?_
      refine In.fin K ?_
      exact ⟨false, ⟨K, trivial⟩, SP.sel hs126 [] rfl rfl, H⟩
    ·have H := cf H hb110
     refine In.run' 20 (k' := 26) rfl [(61, undef), (62, undef), (63, undef), (64, undef), (65, undef), (66, undef), (67, undef), (68, undef), (69, (.bool false)), (70, (.bool false)), (71, undef), (72, undef), (73, undef), (74, undef), (75, undef), (76, undef), (77, undef), (78, undef), (79, (.bool false)), (6, (.bool false))] K ?_
     refine In.fin K ?_
     exact ⟨false, ⟨K, trivial⟩, SP.sel hs62 [] rfl rfl, H⟩
   ·have H := cf H hb109
    refine In.run' 24 (k' := 26) rfl [(57, undef), (58, undef), (59, (.bool false)), (60, (.bool false)), (61, undef), (62, undef), (63, undef), (64, undef), (65, undef), (66, undef), (67, undef), (68, undef), (69, (.bool false)), (70, (.bool false)), (71, undef), (72, undef), (73, undef), (74, undef), (75, undef), (76, undef), (77, undef), (78, undef), (79, (.bool false)), (6, (.bool false))] K ?_
    refine In.fin K ?_
    exact ⟨false, ⟨K, trivial⟩, SP.sel hs62 [] rfl rfl, H⟩
  ·rintro ρ w107 ⟨v106, hk, hs108, H⟩
   unfold L_subwaylaw15_TicketSerial_k1 at H
   first | refine At.known [(6, (.bool v106))] hk ?_ | rw [← known_updL (l := [(6, (.bool v106))]) hk]
   refine At.ret K ?_
   refine ⟨(.bool v106), K, ?_⟩
   obtain rfl := some_elim H
   exact ⟨rfl, SP.sel hs108 [] rfl rfl⟩
end Go.Proofs.YtjllaeceghmjgaaDoor
