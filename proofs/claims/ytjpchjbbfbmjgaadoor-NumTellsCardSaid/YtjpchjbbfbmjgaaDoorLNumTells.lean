/- LIFTED BY PROGRAM (tools/lift.py): what functions compute, and that they do. -/
import Derived.Test.YtjpchjbbfbmjgaaDoorLN
namespace Go.Proofs.YtjpchjbbfbmjgaaDoor
set_option linter.unusedSimpArgs false
set_option linter.unusedVariables false
open Go.RowKit

/-! L_subwaylaw01_NumTells -/
def L_subwaylaw01_NumTells_k2 (v490 : Bool) : Option (Bool) :=
  (some (v490))
def L_subwaylaw01_NumTells_k1 (p1 : Int) (p2 : (List UInt8)) (p6 : (List UInt8)) (z7 : (Bool)) (v14 : Bool) : Option (Bool) :=
  (cond v14 (some (z7)) ((L_num_Get p2).bind fun z18 => ((L_subwayref01_Get p2).bind fun z24 => ((L_num_Read p2).bind fun z30 => ((L_subwayref01_Read p2).bind fun z36 => ((L_num_Parse p6).bind fun z42 => ((L_subwayref01_Parse p6).bind fun z48 => (cond z7 ((L_num_Put p1).bind fun z494 => ((L_subwayref01_Put p1).bind fun z500 => (cond (z494 == z500) (cond (z18.1 == z24.1) (cond (z18.2.1 == z24.2.1) (cond (z18.2.2 == z24.2.2) ((L_num_Text p6).bind fun z510 => ((L_subwayref01_Text p6).bind fun z516 => (cond (z510 == z516) (cond (z30.1 == z36.1) (cond (z30.2.1 == z36.2.1) (cond (z30.2.2 == z36.2.2) ((L_num_Decimal p1).bind fun z526 => ((L_subwayref01_Decimal p1).bind fun z530 => (cond (z526 == z530) (cond (z42.1 == z48.1) (L_subwaylaw01_NumTells_k2 (z42.2 == z48.2)) (L_subwaylaw01_NumTells_k2 false)) (L_subwaylaw01_NumTells_k2 false)))) (L_subwaylaw01_NumTells_k2 false)) (L_subwaylaw01_NumTells_k2 false)) (L_subwaylaw01_NumTells_k2 false)) (L_subwaylaw01_NumTells_k2 false)))) (L_subwaylaw01_NumTells_k2 false)) (L_subwaylaw01_NumTells_k2 false)) (L_subwaylaw01_NumTells_k2 false)) (L_subwaylaw01_NumTells_k2 false)))) (L_subwaylaw01_NumTells_k2 false)))))))))
def L_subwaylaw01_NumTells (p1 : Int) (p2 : (List UInt8)) (p6 : (List UInt8)) : Option (Bool) :=
  ((L_subwaylaw01_head ).bind fun z7 => (cond (decide (((List.length p2 : Nat) : Int) > 9000)) (L_subwaylaw01_NumTells_k1 p1 p2 p6 z7 true) (L_subwaylaw01_NumTells_k1 p1 p2 p6 z7 (decide (((List.length p6 : Nat) : Int) > 9000)))))
set_option maxRecDepth 100000 in
set_option maxHeartbeats 4000000 in
theorem L_subwaylaw01_NumTells_walk (A3 : Option Addr) (c4 : Nat) (p1 : Int) (p2 : (List UInt8)) (p6 : (List UInt8)) (w0 : World) (hL : LaidW w0) (hr5 : RdT eU8 w0 A3 c4 p2) (r : (Bool)) (H : L_subwaylaw01_NumTells p1 p2 p6 = some r) :
  Calls Tryd.prog 3 #[(.int .i64 p1), (.slice A3 (List.length p2) c4), (.string ⟨List.toArray p6⟩)] w0 (fun e w' => e = .returned (.bool r) ∧ SP [] w0 w' []) := by
 unfold L_subwaylaw01_NumTells at H
 refine calls_start (n := 134) Tryd.func3 (by kernel_rfl) (by kernel_rfl) (by kernel_rfl) ?_
 have hs0 := SP.start [] w0
 refine At.seq (by kernel_rfl) (p0 := [false]) (p1 := [true]) rfl rfl ?_
 refine At.region (by kernel_rfl) (by kernel_rfl) ?_
 refine In.run' 1 (k' := 1) rfl [(6, (.bool false))] (by kernel_rfl) ?_
 refine In.fin (by kernel_rfl) ?_
 refine At.seq (by kernel_rfl) (p0 := [true, false]) (p1 := [true, true]) rfl rfl ?_
 refine At.region (by kernel_rfl) (by kernel_rfl) ?_
 obtain ⟨z7, hz8, H⟩ := bind_elim H
 refine In.step (k' := 1) rfl (by kernel_rfl) ?_
 refine Step.callF (f := 9) (fo := (.func 9)) (xs := #[]) (tys := #[]) (first := #[]) (captured := #[]) (d := (some 24)) (k := 0) (by kernel_rfl) rfl (by kernel_rfl) (by kernel_rfl) Tryd.call9 (L_subwaylaw01_head_walk   w0 (laid_below hL (SP.keeps hs0)) z7 hz8) ?_
 rintro e w9 ⟨rfl, hs10⟩
 refine ⟨_, rfl, ?_⟩
 have hs11 := SP.call hs0 hs10
 clear hs10
 have hs12 : SP [] w0 w9 [] := hs11
 clear hs11
 refine In.run' 1 (k' := 2) rfl [(7, (.bool z7))] (by kernel_rfl) ?_
 refine In.fin (by kernel_rfl) ?_
 refine At.seq (by kernel_rfl) (p0 := [true, true, false]) (p1 := [true, true, true]) rfl rfl ?_
 refine At.seq (by kernel_rfl) (p0 := [true, true, false, false]) (p1 := [true, true, false, true]) rfl rfl ?_
 refine At.join (fun ρ w => ∃ (v14 : Bool), Known ρ [(0, (.int .i64 p1)), (1, (.slice A3 (List.length p2) c4)), (2, (.string ⟨List.toArray p6⟩)), (7, (.bool z7)), (32, (.bool v14))] ∧ SP [] w0 w [] ∧ L_subwaylaw01_NumTells_k1 p1 p2 p6 z7 v14 = some r) ?_ ?_
 ·refine At.region (by kernel_rfl) (by kernel_rfl) ?_
  refine In.run' 4 (k' := 4) rfl [(25, (.slice A3 (List.length p2) c4)), (26, (.int .i64 ((List.length p2 : Nat) : Int))), (27, (.bool (decide (((List.length p2 : Nat) : Int) > 9000)))), (28, (.bool (decide (((List.length p2 : Nat) : Int) > 9000))))] (by kernel_rfl) ?_
  refine In.guard (t := 28) (b := (decide (((List.length p2 : Nat) : Int) > 9000))) (by kernel_rfl) (fun hb929 => ?_) (fun hb929 => ?_)
  ·have H := ct H hb929
   refine In.run' 4 (k' := 8) rfl [(29, undef), (30, undef), (31, undef), (32, (.bool true))] (by kernel_rfl) ?_
   refine In.fin (by kernel_rfl) ?_
   exact ⟨true, ⟨(by kernel_rfl), (by kernel_rfl), (by kernel_rfl), (by kernel_rfl), (by kernel_rfl), trivial⟩, SP.sel hs12 [] rfl rfl, H⟩
  ·have H := cf H hb929
   refine In.run' 4 (k' := 8) rfl [(29, (.string ⟨List.toArray p6⟩)), (30, (.int .i64 ((List.length p6 : Nat) : Int))), (31, (.bool (decide (((List.length p6 : Nat) : Int) > 9000)))), (32, (.bool (decide (((List.length p6 : Nat) : Int) > 9000))))] (by kernel_rfl) ?_
   refine In.fin (by kernel_rfl) ?_
   exact ⟨(decide (((List.length p6 : Nat) : Int) > 9000)), ⟨(by kernel_rfl), (by kernel_rfl), (by kernel_rfl), (by kernel_rfl), (by kernel_rfl), trivial⟩, SP.sel hs12 [] rfl rfl, H⟩
 ·rintro ρ w15 ⟨v14, hk, hs16, H⟩
  unfold L_subwaylaw01_NumTells_k1 at H
  refine At.known [(0, (.int .i64 p1)), (1, (.slice A3 (List.length p2) c4)), (2, (.string ⟨List.toArray p6⟩)), (7, (.bool z7)), (32, (.bool v14))] hk ?_
  refine At.cond (by kernel_rfl) (o := (.tmp 32)) (by kernel_rfl) (b := v14) (by kernel_rfl) (p0 := [true, true, false, true, false]) (p1 := [true, true, false, true, true]) rfl rfl (fun hb17 => ?_) (fun hb17 => ?_)
  ·have H := ct H hb17
   refine At.seq (by kernel_rfl) (p0 := [true, true, false, true, false, false]) (p1 := [true, true, false, true, false, true]) rfl rfl ?_
   refine At.region (by kernel_rfl) (by kernel_rfl) ?_
   refine In.run' 2 (k' := 2) rfl [(33, (.bool z7)), (6, (.bool z7))] (by kernel_rfl) ?_
   refine In.fin (by kernel_rfl) ?_
   refine At.ret (by kernel_rfl) ?_
   refine ⟨(.bool z7), by kernel_rfl, ?_⟩
   obtain rfl := some_elim H
   exact ⟨rfl, SP.sel hs16 [] rfl rfl⟩
  ·have H := cf H hb17
   refine At.skip (by kernel_rfl) ?_
   refine At.seq (by kernel_rfl) (p0 := [true, true, true, false]) (p1 := [true, true, true, true]) rfl rfl ?_
   refine At.region (by kernel_rfl) (by kernel_rfl) ?_
   refine In.run' 1 (k' := 1) rfl [(35, (.slice A3 (List.length p2) c4))] (by kernel_rfl) ?_
   obtain ⟨z18, hz19, H⟩ := bind_elim H
   refine In.step (k' := 2) rfl (by kernel_rfl) ?_
   refine Step.callF (f := 10) (fo := (.func 10)) (xs := #[(.tmp 35)]) (tys := #[22]) (first := #[]) (captured := #[]) (d := (some 36)) (k := 1) (by kernel_rfl) rfl (by kernel_rfl) (by kernel_rfl) Tryd.call10 (L_num_Get_walk A3 c4 p2 w15 (RdT.sp hr5 hs16) z18 hz19) ?_
   rintro e w20 ⟨rfl, hs21⟩
   refine ⟨_, rfl, ?_⟩
   have hs22 := SP.call hs16 hs21
   clear hs21
   have hs23 : SP [] w0 w20 [] := hs22
   clear hs22
   refine In.run' 7 (k' := 9) rfl [(34, (.tuple #[(.int .i64 z18.1), (.int .i64 z18.2.1), (.bool z18.2.2)])), (37, (.int .i64 z18.1)), (38, (.int .i64 z18.2.1)), (39, (.bool z18.2.2)), (8, (.int .i64 z18.1)), (9, (.int .i64 z18.2.1)), (10, (.bool z18.2.2))] (by kernel_rfl) ?_
   refine In.fin (by kernel_rfl) ?_
   refine At.seq (by kernel_rfl) (p0 := [true, true, true, true, false]) (p1 := [true, true, true, true, true]) rfl rfl ?_
   refine At.region (by kernel_rfl) (by kernel_rfl) ?_
   refine In.run' 1 (k' := 1) rfl [(41, (.slice A3 (List.length p2) c4))] (by kernel_rfl) ?_
   obtain ⟨z24, hz25, H⟩ := bind_elim H
   refine In.step (k' := 2) rfl (by kernel_rfl) ?_
   refine Step.callF (f := 11) (fo := (.func 11)) (xs := #[(.tmp 41)]) (tys := #[22]) (first := #[]) (captured := #[]) (d := (some 42)) (k := 1) (by kernel_rfl) rfl (by kernel_rfl) (by kernel_rfl) Tryd.call11 (L_subwayref01_Get_walk A3 c4 p2 w20 (RdT.sp hr5 hs23) z24 hz25) ?_
   rintro e w26 ⟨rfl, hs27⟩
   refine ⟨_, rfl, ?_⟩
   have hs28 := SP.call hs23 hs27
   clear hs27
   have hs29 : SP [] w0 w26 [] := hs28
   clear hs28
   refine In.run' 7 (k' := 9) rfl [(40, (.tuple #[(.int .i64 z24.1), (.int .i64 z24.2.1), (.bool z24.2.2)])), (43, (.int .i64 z24.1)), (44, (.int .i64 z24.2.1)), (45, (.bool z24.2.2)), (11, (.int .i64 z24.1)), (12, (.int .i64 z24.2.1)), (13, (.bool z24.2.2))] (by kernel_rfl) ?_
   refine In.fin (by kernel_rfl) ?_
   refine At.seq (by kernel_rfl) (p0 := [true, true, true, true, true, false]) (p1 := [true, true, true, true, true, true]) rfl rfl ?_
   refine At.region (by kernel_rfl) (by kernel_rfl) ?_
   refine In.run' 1 (k' := 1) rfl [(47, (.slice A3 (List.length p2) c4))] (by kernel_rfl) ?_
   obtain ⟨z30, hz31, H⟩ := bind_elim H
   refine In.step (k' := 2) rfl (by kernel_rfl) ?_
   refine Step.callF (f := 12) (fo := (.func 12)) (xs := #[(.tmp 47)]) (tys := #[22]) (first := #[]) (captured := #[]) (d := (some 48)) (k := 1) (by kernel_rfl) rfl (by kernel_rfl) (by kernel_rfl) Tryd.call12 (L_num_Read_walk A3 c4 p2 w26 (RdT.sp hr5 hs29) z30 hz31) ?_
   rintro e w32 ⟨rfl, hs33⟩
   refine ⟨_, rfl, ?_⟩
   have hs34 := SP.call hs29 hs33
   clear hs33
   have hs35 : SP [] w0 w32 [] := hs34
   clear hs34
   refine In.run' 7 (k' := 9) rfl [(46, (.tuple #[(.string ⟨List.toArray z30.1⟩), (.int .i64 z30.2.1), (.bool z30.2.2)])), (49, (.string ⟨List.toArray z30.1⟩)), (50, (.int .i64 z30.2.1)), (51, (.bool z30.2.2)), (14, (.string ⟨List.toArray z30.1⟩)), (15, (.int .i64 z30.2.1)), (16, (.bool z30.2.2))] (by kernel_rfl) ?_
   refine In.fin (by kernel_rfl) ?_
   refine At.seq (by kernel_rfl) (p0 := [true, true, true, true, true, true, false]) (p1 := [true, true, true, true, true, true, true]) rfl rfl ?_
   refine At.region (by kernel_rfl) (by kernel_rfl) ?_
   refine In.run' 1 (k' := 1) rfl [(53, (.slice A3 (List.length p2) c4))] (by kernel_rfl) ?_
   obtain ⟨z36, hz37, H⟩ := bind_elim H
   refine In.step (k' := 2) rfl (by kernel_rfl) ?_
   refine Step.callF (f := 13) (fo := (.func 13)) (xs := #[(.tmp 53)]) (tys := #[22]) (first := #[]) (captured := #[]) (d := (some 54)) (k := 1) (by kernel_rfl) rfl (by kernel_rfl) (by kernel_rfl) Tryd.call13 (L_subwayref01_Read_walk A3 c4 p2 w32 (RdT.sp hr5 hs35) z36 hz37) ?_
   rintro e w38 ⟨rfl, hs39⟩
   refine ⟨_, rfl, ?_⟩
   have hs40 := SP.call hs35 hs39
   clear hs39
   have hs41 : SP [] w0 w38 [] := hs40
   clear hs40
   refine In.run' 7 (k' := 9) rfl [(52, (.tuple #[(.string ⟨List.toArray z36.1⟩), (.int .i64 z36.2.1), (.bool z36.2.2)])), (55, (.string ⟨List.toArray z36.1⟩)), (56, (.int .i64 z36.2.1)), (57, (.bool z36.2.2)), (17, (.string ⟨List.toArray z36.1⟩)), (18, (.int .i64 z36.2.1)), (19, (.bool z36.2.2))] (by kernel_rfl) ?_
   refine In.fin (by kernel_rfl) ?_
   refine At.seq (by kernel_rfl) (p0 := [true, true, true, true, true, true, true, false]) (p1 := [true, true, true, true, true, true, true, true]) rfl rfl ?_
   refine At.region (by kernel_rfl) (by kernel_rfl) ?_
   refine In.run' 1 (k' := 1) rfl [(59, (.string ⟨List.toArray p6⟩))] (by kernel_rfl) ?_
   obtain ⟨z42, hz43, H⟩ := bind_elim H
   refine In.step (k' := 2) rfl (by kernel_rfl) ?_
   refine Step.callF (f := 14) (fo := (.func 14)) (xs := #[(.tmp 59)]) (tys := #[9]) (first := #[]) (captured := #[]) (d := (some 60)) (k := 1) (by kernel_rfl) rfl (by kernel_rfl) (by kernel_rfl) Tryd.call14 (L_num_Parse_walk  p6 w38 (laid_below hL (SP.keeps hs41)) z42 hz43) ?_
   rintro e w44 ⟨rfl, hs45⟩
   refine ⟨_, rfl, ?_⟩
   have hs46 := SP.call hs41 hs45
   clear hs45
   have hs47 : SP [] w0 w44 [] := hs46
   clear hs46
   refine In.run' 5 (k' := 7) rfl [(58, (.tuple #[(.int .i64 z42.1), (.bool z42.2)])), (61, (.int .i64 z42.1)), (62, (.bool z42.2)), (20, (.int .i64 z42.1)), (21, (.bool z42.2))] (by kernel_rfl) ?_
   refine In.fin (by kernel_rfl) ?_
   refine At.seq (by kernel_rfl) (p0 := [true, true, true, true, true, true, true, true, false]) (p1 := [true, true, true, true, true, true, true, true, true]) rfl rfl ?_
   refine At.region (by kernel_rfl) (by kernel_rfl) ?_
   refine In.run' 1 (k' := 1) rfl [(64, (.string ⟨List.toArray p6⟩))] (by kernel_rfl) ?_
   obtain ⟨z48, hz49, H⟩ := bind_elim H
   refine In.step (k' := 2) rfl (by kernel_rfl) ?_
   refine Step.callF (f := 15) (fo := (.func 15)) (xs := #[(.tmp 64)]) (tys := #[9]) (first := #[]) (captured := #[]) (d := (some 65)) (k := 1) (by kernel_rfl) rfl (by kernel_rfl) (by kernel_rfl) Tryd.call15 (L_subwayref01_Parse_walk  p6 w44  z48 hz49) ?_
   rintro e w50 ⟨rfl, hs51⟩
   refine ⟨_, rfl, ?_⟩
   have hs52 := SP.call hs47 hs51
   clear hs51
   have hs53 : SP [] w0 w50 [] := hs52
   clear hs52
   refine In.run' 5 (k' := 7) rfl [(63, (.tuple #[(.int .i64 z48.1), (.bool z48.2)])), (66, (.int .i64 z48.1)), (67, (.bool z48.2)), (22, (.int .i64 z48.1)), (23, (.bool z48.2))] (by kernel_rfl) ?_
   refine In.fin (by kernel_rfl) ?_
   refine At.seq (by kernel_rfl) (p0 := [true, true, true, true, true, true, true, true, true, false]) (p1 := [true, true, true, true, true, true, true, true, true, true]) rfl rfl ?_
   refine At.join (fun ρ w => ∃ (v490 : Bool), Known ρ [(6, (.bool v490))] ∧ SP [] w0 w [] ∧ L_subwaylaw01_NumTells_k2 v490 = some r) ?_ ?_
   ·rcases Bool.eq_false_or_eq_true z7 with hb493 | hb493
    ·have H := ct H hb493
     obtain ⟨z494, hz495, H⟩ := bind_elim H
     obtain ⟨z500, hz501, H⟩ := bind_elim H
     rcases Bool.eq_false_or_eq_true (z494 == z500) with hb506 | hb506
     ·have H := ct H hb506
      rcases Bool.eq_false_or_eq_true (z18.1 == z24.1) with hb507 | hb507
      ·have H := ct H hb507
       rcases Bool.eq_false_or_eq_true (z18.2.1 == z24.2.1) with hb508 | hb508
       ·have H := ct H hb508
        rcases Bool.eq_false_or_eq_true (z18.2.2 == z24.2.2) with hb509 | hb509
        ·have H := ct H hb509
         obtain ⟨z510, hz511, H⟩ := bind_elim H
         obtain ⟨z516, hz517, H⟩ := bind_elim H
         rcases Bool.eq_false_or_eq_true (z510 == z516) with hb522 | hb522
         ·have H := ct H hb522
          rcases Bool.eq_false_or_eq_true (z30.1 == z36.1) with hb523 | hb523
          ·have H := ct H hb523
           rcases Bool.eq_false_or_eq_true (z30.2.1 == z36.2.1) with hb524 | hb524
           ·have H := ct H hb524
            rcases Bool.eq_false_or_eq_true (z30.2.2 == z36.2.2) with hb525 | hb525
            ·have H := ct H hb525
             obtain ⟨z526, hz527, H⟩ := bind_elim H
             obtain ⟨z530, hz531, H⟩ := bind_elim H
             rcases Bool.eq_false_or_eq_true (z526 == z530) with hb534 | hb534
             ·have H := ct H hb534
              rcases Bool.eq_false_or_eq_true (z42.1 == z48.1) with hb535 | hb535
              ·have H := ct H hb535
               refine At.draw (by kernel_rfl) (by kernel_rfl) (by kernel_rfl) (by kernel_rfl) (by kernel_rfl) [FEq (.bool z7), FEq (.bool z7), FEq (.int .i64 p1), FRow eU8 z494, FEq (.string ⟨List.toArray z494⟩), FEq (.int .i64 p1), FRow eU8 z500, FEq (.string ⟨List.toArray z500⟩), FEq (.bool (z494 == z500)), FEq (.bool (z494 == z500)), FEq (.bool (z494 == z500)), FEq (.int .i64 z18.1), FEq (.int .i64 z24.1), FEq (.bool (z18.1 == z24.1)), FEq (.bool (z18.1 == z24.1)), FEq (.bool (z18.1 == z24.1)), FEq (.int .i64 z18.2.1), FEq (.int .i64 z24.2.1), FEq (.bool (z18.2.1 == z24.2.1)), FEq (.bool (z18.2.1 == z24.2.1)), FEq (.bool (z18.2.1 == z24.2.1)), FEq (.bool z18.2.2), FEq (.bool z24.2.2), FEq (.bool (z18.2.2 == z24.2.2)), FEq (.bool (z18.2.2 == z24.2.2)), FEq (.bool (z18.2.2 == z24.2.2)), FEq (.string ⟨List.toArray p6⟩), FRow eU8 z510, FEq (.string ⟨List.toArray z510⟩), FEq (.string ⟨List.toArray p6⟩), FRow eU8 z516, FEq (.string ⟨List.toArray z516⟩), FEq (.bool (z510 == z516)), FEq (.bool (z510 == z516)), FEq (.bool (z510 == z516)), FEq (.string ⟨List.toArray z30.1⟩), FEq (.string ⟨List.toArray z36.1⟩), FEq (.bool (z30.1 == z36.1)), FEq (.bool (z30.1 == z36.1)), FEq (.bool (z30.1 == z36.1)), FEq (.int .i64 z30.2.1), FEq (.int .i64 z36.2.1), FEq (.bool (z30.2.1 == z36.2.1)), FEq (.bool (z30.2.1 == z36.2.1)), FEq (.bool (z30.2.1 == z36.2.1)), FEq (.bool z30.2.2), FEq (.bool z36.2.2), FEq (.bool (z30.2.2 == z36.2.2)), FEq (.bool (z30.2.2 == z36.2.2)), FEq (.bool (z30.2.2 == z36.2.2)), FEq (.int .i64 p1), FEq (.string ⟨List.toArray z526⟩), FEq (.int .i64 p1), FEq (.string ⟨List.toArray z530⟩), FEq (.bool (z526 == z530)), FEq (.bool (z526 == z530)), FEq (.bool (z526 == z530)), FEq (.int .i64 z42.1), FEq (.int .i64 z48.1), FEq (.bool (z42.1 == z48.1)), FEq (.bool (z42.1 == z48.1)), FEq (.bool (z42.1 == z48.1)), FEq (.bool z42.2), FEq (.bool z48.2), FEq (.bool (z42.2 == z48.2)), FEq (.bool (z42.2 == z48.2)), FEq (.bool (z42.2 == z48.2))] ⟨mono_eq _, mono_eq _, mono_eq _, mono_row _ _, mono_eq _, mono_eq _, mono_row _ _, mono_eq _, mono_eq _, mono_eq _, mono_eq _, mono_eq _, mono_eq _, mono_eq _, mono_eq _, mono_eq _, mono_eq _, mono_eq _, mono_eq _, mono_eq _, mono_eq _, mono_eq _, mono_eq _, mono_eq _, mono_eq _, mono_eq _, mono_eq _, mono_row _ _, mono_eq _, mono_eq _, mono_row _ _, mono_eq _, mono_eq _, mono_eq _, mono_eq _, mono_eq _, mono_eq _, mono_eq _, mono_eq _, mono_eq _, mono_eq _, mono_eq _, mono_eq _, mono_eq _, mono_eq _, mono_eq _, mono_eq _, mono_eq _, mono_eq _, mono_eq _, mono_eq _, mono_eq _, mono_eq _, mono_eq _, mono_eq _, mono_eq _, mono_eq _, mono_eq _, mono_eq _, mono_eq _, mono_eq _, mono_eq _, mono_eq _, mono_eq _, mono_eq _, mono_eq _, mono_eq _, trivial⟩ (N := 67) (by kernel_rfl) ⟨⟨⟨⟨⟨⟨⟨⟨⟨⟨⟨⟨⟨⟨⟨⟨⟨⟨⟨⟨⟨⟨⟨⟨⟨⟨⟨⟨⟨⟨⟨⟨⟨⟨⟨⟨⟨⟨⟨⟨⟨⟨⟨⟨⟨⟨⟨⟨⟨⟨⟨⟨⟨⟨⟨⟨⟨⟨⟨⟨⟨⟨⟨⟨⟨⟨⟨trivial, ?_⟩, ?_⟩, ?_⟩, ?_⟩, ?_⟩, ?_⟩, ?_⟩, ?_⟩, ?_⟩, ?_⟩, ?_⟩, ?_⟩, ?_⟩, ?_⟩, ?_⟩, ?_⟩, ?_⟩, ?_⟩, ?_⟩, ?_⟩, ?_⟩, ?_⟩, ?_⟩, ?_⟩, ?_⟩, ?_⟩, ?_⟩, ?_⟩, ?_⟩, ?_⟩, ?_⟩, ?_⟩, ?_⟩, ?_⟩, ?_⟩, ?_⟩, ?_⟩, ?_⟩, ?_⟩, ?_⟩, ?_⟩, ?_⟩, ?_⟩, ?_⟩, ?_⟩, ?_⟩, ?_⟩, ?_⟩, ?_⟩, ?_⟩, ?_⟩, ?_⟩, ?_⟩, ?_⟩, ?_⟩, ?_⟩, ?_⟩, ?_⟩, ?_⟩, ?_⟩, ?_⟩, ?_⟩, ?_⟩, ?_⟩, ?_⟩, ?_⟩, ?_⟩ ?_
               ·exact Owes.pure [(7, (.bool z7))] ⟨sS (by kernel_rfl) (by kernel_rfl), trivial⟩ (.bool z7) (fun _ _ => by kernel_rfl) (fun _ => rfl)
               ·exact Owes.pure [(68, (.bool z7))] ⟨sA 0 (by kernel_rfl) (by kernel_rfl), trivial⟩ (.bool z7) (fun _ _ => by kernel_rfl) (fun _ => rfl)
               ·exact Owes.pure [(0, (.int .i64 p1)), (69, (.bool true))] ⟨sS (by kernel_rfl) (by kernel_rfl), sB 1 (by kernel_rfl) z7 (by kernel_rfl) hb493, trivial⟩ (.int .i64 p1) (fun _ _ => by kernel_rfl) (fun _ => rfl)
               ·intro ρ' w' hk hs hah
                have e70 := hah 2 70 (by kernel_rfl)
                have e69 := hah 1 69 (by kernel_rfl)
                have hkn : Known ρ' [(70, (.int .i64 p1)), (69, (.bool true))] := ⟨e70, (Eq.trans e69 (congrArg Value.bool hb493)), trivial⟩
                refine Step.known _ hkn ?_
                have hs536 := SP.below hs53 hk
                refine Step.callF (f := 16) (fo := (.func 16)) (xs := #[(.tmp 70)]) (tys := #[2]) (first := #[]) (captured := #[]) (d := (some 71)) (k := 3) (by kernel_rfl) rfl (by kernel_rfl) (by kernel_rfl) Tryd.call16 (L_num_Put_walk  p1 w'  z494 hz495) ?_
                rintro e w537 ⟨A539, c540, rfl, hs538⟩
                exact ⟨_, rfl, SP.keeps hs538, _, updO_known hkn, ⟨_, _, rfl, SP.row_of hs538⟩⟩
               ·intro ρ' w' hk hs hah
                obtain ⟨A542, c543, e71, hr544⟩ := hah 3 71 (by kernel_rfl)
                have e69 := hah 1 69 (by kernel_rfl)
                have hkn : Known ρ' [(71, (.slice A542 (List.length z494) c543)), (69, (.bool true))] := ⟨e71, (Eq.trans e69 (congrArg Value.bool hb493)), trivial⟩
                refine Step.known _ hkn ?_
                have hs541 := SP.below hs53 hk
                refine Step.toStr (T := 22) (S' := 9) (E := 5) (x := (.tmp 71)) (A := A542) (c := c543) (l := z494) (d := (some 72)) (k := 4) (by kernel_rfl) rfl (by kernel_rfl) (by kernel_rfl) (by kernel_rfl) (by kernel_rfl) hr544 ?_
                exact ⟨Below.refl _ _, _, updO_known hkn, rfl⟩
               ·exact Owes.pure [(0, (.int .i64 p1)), (69, (.bool true))] ⟨sS (by kernel_rfl) (by kernel_rfl), sB 1 (by kernel_rfl) z7 (by kernel_rfl) hb493, trivial⟩ (.int .i64 p1) (fun _ _ => by kernel_rfl) (fun _ => rfl)
               ·intro ρ' w' hk hs hah
                have e73 := hah 5 73 (by kernel_rfl)
                have e69 := hah 1 69 (by kernel_rfl)
                have hkn : Known ρ' [(73, (.int .i64 p1)), (69, (.bool true))] := ⟨e73, (Eq.trans e69 (congrArg Value.bool hb493)), trivial⟩
                refine Step.known _ hkn ?_
                have hs545 := SP.below hs53 hk
                refine Step.callF (f := 17) (fo := (.func 17)) (xs := #[(.tmp 73)]) (tys := #[2]) (first := #[]) (captured := #[]) (d := (some 74)) (k := 6) (by kernel_rfl) rfl (by kernel_rfl) (by kernel_rfl) Tryd.call17 (L_subwayref01_Put_walk  p1 w'  z500 hz501) ?_
                rintro e w546 ⟨A548, c549, rfl, hs547⟩
                exact ⟨_, rfl, SP.keeps hs547, _, updO_known hkn, ⟨_, _, rfl, SP.row_of hs547⟩⟩
               ·intro ρ' w' hk hs hah
                obtain ⟨A551, c552, e74, hr553⟩ := hah 6 74 (by kernel_rfl)
                have e69 := hah 1 69 (by kernel_rfl)
                have hkn : Known ρ' [(74, (.slice A551 (List.length z500) c552)), (69, (.bool true))] := ⟨e74, (Eq.trans e69 (congrArg Value.bool hb493)), trivial⟩
                refine Step.known _ hkn ?_
                have hs550 := SP.below hs53 hk
                refine Step.toStr (T := 22) (S' := 9) (E := 5) (x := (.tmp 74)) (A := A551) (c := c552) (l := z500) (d := (some 75)) (k := 7) (by kernel_rfl) rfl (by kernel_rfl) (by kernel_rfl) (by kernel_rfl) (by kernel_rfl) hr553 ?_
                exact ⟨Below.refl _ _, _, updO_known hkn, rfl⟩
               ·intro ρ' w' hk hs hah
                have e72 := hah 4 72 (by kernel_rfl)
                have e75 := hah 7 75 (by kernel_rfl)
                have e69 := hah 1 69 (by kernel_rfl)
                have hkn : Known ρ' [(72, (.string ⟨List.toArray z494⟩)), (75, (.string ⟨List.toArray z500⟩)), (69, (.bool true))] := ⟨e72, e75, (Eq.trans e69 (congrArg Value.bool hb493)), trivial⟩
                refine Step.known _ hkn ?_
                have hs554 := SP.below hs53 hk
                refine Step.strOp (op := .eql) (T := 9) (T' := 9) (x := (.tmp 72)) (y := (.tmp 75)) (a := z494) (b := z500) (r := (.bool (z494 == z500))) (d := (some 76)) (k := 8) (by kernel_rfl) rfl (by kernel_rfl) (by kernel_rfl) rfl ?_
                exact ⟨Below.refl _ _, _, updO_known hkn, rfl⟩
               ·exact Owes.pure [(69, (.bool true)), (76, (.bool (z494 == z500)))] ⟨sB 1 (by kernel_rfl) z7 (by kernel_rfl) hb493, sA 8 (by kernel_rfl) (by kernel_rfl), trivial⟩ (.bool (z494 == z500)) (fun _ _ => by kernel_rfl) (fun _ => rfl)
               ·exact Owes.pure [(77, (.bool (z494 == z500)))] ⟨sA 9 (by kernel_rfl) (by kernel_rfl), trivial⟩ (.bool (z494 == z500)) (fun _ _ => by kernel_rfl) (fun _ => rfl)
               ·exact Owes.pure [(8, (.int .i64 z18.1)), (78, (.bool true))] ⟨sS (by kernel_rfl) (by kernel_rfl), sB 10 (by kernel_rfl) (z494 == z500) (by kernel_rfl) hb506, trivial⟩ (.int .i64 z18.1) (fun _ _ => by kernel_rfl) (fun _ => rfl)
               ·exact Owes.pure [(11, (.int .i64 z24.1)), (78, (.bool true))] ⟨sS (by kernel_rfl) (by kernel_rfl), sB 10 (by kernel_rfl) (z494 == z500) (by kernel_rfl) hb506, trivial⟩ (.int .i64 z24.1) (fun _ _ => by kernel_rfl) (fun _ => rfl)
               ·exact Owes.pure [(79, (.int .i64 z18.1)), (80, (.int .i64 z24.1)), (78, (.bool true))] ⟨sA 11 (by kernel_rfl) (by kernel_rfl), sA 12 (by kernel_rfl) (by kernel_rfl), sB 10 (by kernel_rfl) (z494 == z500) (by kernel_rfl) hb506, trivial⟩ (.bool (z18.1 == z24.1)) (fun _ _ => by kernel_rfl) (fun _ => rfl)
               ·exact Owes.pure [(78, (.bool true)), (81, (.bool (z18.1 == z24.1)))] ⟨sB 10 (by kernel_rfl) (z494 == z500) (by kernel_rfl) hb506, sA 13 (by kernel_rfl) (by kernel_rfl), trivial⟩ (.bool (z18.1 == z24.1)) (fun _ _ => by kernel_rfl) (fun _ => rfl)
               ·exact Owes.pure [(82, (.bool (z18.1 == z24.1)))] ⟨sA 14 (by kernel_rfl) (by kernel_rfl), trivial⟩ (.bool (z18.1 == z24.1)) (fun _ _ => by kernel_rfl) (fun _ => rfl)
               ·exact Owes.pure [(9, (.int .i64 z18.2.1)), (83, (.bool true))] ⟨sS (by kernel_rfl) (by kernel_rfl), sB 15 (by kernel_rfl) (z18.1 == z24.1) (by kernel_rfl) hb507, trivial⟩ (.int .i64 z18.2.1) (fun _ _ => by kernel_rfl) (fun _ => rfl)
               ·exact Owes.pure [(12, (.int .i64 z24.2.1)), (83, (.bool true))] ⟨sS (by kernel_rfl) (by kernel_rfl), sB 15 (by kernel_rfl) (z18.1 == z24.1) (by kernel_rfl) hb507, trivial⟩ (.int .i64 z24.2.1) (fun _ _ => by kernel_rfl) (fun _ => rfl)
               ·exact Owes.pure [(84, (.int .i64 z18.2.1)), (85, (.int .i64 z24.2.1)), (83, (.bool true))] ⟨sA 16 (by kernel_rfl) (by kernel_rfl), sA 17 (by kernel_rfl) (by kernel_rfl), sB 15 (by kernel_rfl) (z18.1 == z24.1) (by kernel_rfl) hb507, trivial⟩ (.bool (z18.2.1 == z24.2.1)) (fun _ _ => by kernel_rfl) (fun _ => rfl)
               ·exact Owes.pure [(83, (.bool true)), (86, (.bool (z18.2.1 == z24.2.1)))] ⟨sB 15 (by kernel_rfl) (z18.1 == z24.1) (by kernel_rfl) hb507, sA 18 (by kernel_rfl) (by kernel_rfl), trivial⟩ (.bool (z18.2.1 == z24.2.1)) (fun _ _ => by kernel_rfl) (fun _ => rfl)
               ·exact Owes.pure [(87, (.bool (z18.2.1 == z24.2.1)))] ⟨sA 19 (by kernel_rfl) (by kernel_rfl), trivial⟩ (.bool (z18.2.1 == z24.2.1)) (fun _ _ => by kernel_rfl) (fun _ => rfl)
               ·exact Owes.pure [(10, (.bool z18.2.2)), (88, (.bool true))] ⟨sS (by kernel_rfl) (by kernel_rfl), sB 20 (by kernel_rfl) (z18.2.1 == z24.2.1) (by kernel_rfl) hb508, trivial⟩ (.bool z18.2.2) (fun _ _ => by kernel_rfl) (fun _ => rfl)
               ·exact Owes.pure [(13, (.bool z24.2.2)), (88, (.bool true))] ⟨sS (by kernel_rfl) (by kernel_rfl), sB 20 (by kernel_rfl) (z18.2.1 == z24.2.1) (by kernel_rfl) hb508, trivial⟩ (.bool z24.2.2) (fun _ _ => by kernel_rfl) (fun _ => rfl)
               ·exact Owes.pure [(89, (.bool z18.2.2)), (90, (.bool z24.2.2)), (88, (.bool true))] ⟨sA 21 (by kernel_rfl) (by kernel_rfl), sA 22 (by kernel_rfl) (by kernel_rfl), sB 20 (by kernel_rfl) (z18.2.1 == z24.2.1) (by kernel_rfl) hb508, trivial⟩ (.bool (z18.2.2 == z24.2.2)) (fun _ _ => by kernel_rfl) (fun _ => rfl)
               ·exact Owes.pure [(88, (.bool true)), (91, (.bool (z18.2.2 == z24.2.2)))] ⟨sB 20 (by kernel_rfl) (z18.2.1 == z24.2.1) (by kernel_rfl) hb508, sA 23 (by kernel_rfl) (by kernel_rfl), trivial⟩ (.bool (z18.2.2 == z24.2.2)) (fun _ _ => by kernel_rfl) (fun _ => rfl)
               ·exact Owes.pure [(92, (.bool (z18.2.2 == z24.2.2)))] ⟨sA 24 (by kernel_rfl) (by kernel_rfl), trivial⟩ (.bool (z18.2.2 == z24.2.2)) (fun _ _ => by kernel_rfl) (fun _ => rfl)
               ·exact Owes.pure [(2, (.string ⟨List.toArray p6⟩)), (93, (.bool true))] ⟨sS (by kernel_rfl) (by kernel_rfl), sB 25 (by kernel_rfl) (z18.2.2 == z24.2.2) (by kernel_rfl) hb509, trivial⟩ (.string ⟨List.toArray p6⟩) (fun _ _ => by kernel_rfl) (fun _ => rfl)
               ·intro ρ' w' hk hs hah
                have e94 := hah 26 94 (by kernel_rfl)
                have e93 := hah 25 93 (by kernel_rfl)
                have hkn : Known ρ' [(94, (.string ⟨List.toArray p6⟩)), (93, (.bool true))] := ⟨e94, (Eq.trans e93 (congrArg Value.bool hb509)), trivial⟩
                refine Step.known _ hkn ?_
                have hs555 := SP.below hs53 hk
                refine Step.callF (f := 18) (fo := (.func 18)) (xs := #[(.tmp 94)]) (tys := #[9]) (first := #[]) (captured := #[]) (d := (some 95)) (k := 27) (by kernel_rfl) rfl (by kernel_rfl) (by kernel_rfl) Tryd.call18 (L_num_Text_walk  p6 w'  z510 hz511) ?_
                rintro e w556 ⟨A558, c559, rfl, hs557⟩
                exact ⟨_, rfl, SP.keeps hs557, _, updO_known hkn, ⟨_, _, rfl, SP.row_of hs557⟩⟩
               ·intro ρ' w' hk hs hah
                obtain ⟨A561, c562, e95, hr563⟩ := hah 27 95 (by kernel_rfl)
                have e93 := hah 25 93 (by kernel_rfl)
                have hkn : Known ρ' [(95, (.slice A561 (List.length z510) c562)), (93, (.bool true))] := ⟨e95, (Eq.trans e93 (congrArg Value.bool hb509)), trivial⟩
                refine Step.known _ hkn ?_
                have hs560 := SP.below hs53 hk
                refine Step.toStr (T := 22) (S' := 9) (E := 5) (x := (.tmp 95)) (A := A561) (c := c562) (l := z510) (d := (some 96)) (k := 28) (by kernel_rfl) rfl (by kernel_rfl) (by kernel_rfl) (by kernel_rfl) (by kernel_rfl) hr563 ?_
                exact ⟨Below.refl _ _, _, updO_known hkn, rfl⟩
               ·exact Owes.pure [(2, (.string ⟨List.toArray p6⟩)), (93, (.bool true))] ⟨sS (by kernel_rfl) (by kernel_rfl), sB 25 (by kernel_rfl) (z18.2.2 == z24.2.2) (by kernel_rfl) hb509, trivial⟩ (.string ⟨List.toArray p6⟩) (fun _ _ => by kernel_rfl) (fun _ => rfl)
               ·intro ρ' w' hk hs hah
                have e97 := hah 29 97 (by kernel_rfl)
                have e93 := hah 25 93 (by kernel_rfl)
                have hkn : Known ρ' [(97, (.string ⟨List.toArray p6⟩)), (93, (.bool true))] := ⟨e97, (Eq.trans e93 (congrArg Value.bool hb509)), trivial⟩
                refine Step.known _ hkn ?_
                have hs564 := SP.below hs53 hk
                refine Step.callF (f := 19) (fo := (.func 19)) (xs := #[(.tmp 97)]) (tys := #[9]) (first := #[]) (captured := #[]) (d := (some 98)) (k := 30) (by kernel_rfl) rfl (by kernel_rfl) (by kernel_rfl) Tryd.call19 (L_subwayref01_Text_walk  p6 w'  z516 hz517) ?_
                rintro e w565 ⟨A567, c568, rfl, hs566⟩
                exact ⟨_, rfl, SP.keeps hs566, _, updO_known hkn, ⟨_, _, rfl, SP.row_of hs566⟩⟩
               ·intro ρ' w' hk hs hah
                obtain ⟨A570, c571, e98, hr572⟩ := hah 30 98 (by kernel_rfl)
                have e93 := hah 25 93 (by kernel_rfl)
                have hkn : Known ρ' [(98, (.slice A570 (List.length z516) c571)), (93, (.bool true))] := ⟨e98, (Eq.trans e93 (congrArg Value.bool hb509)), trivial⟩
                refine Step.known _ hkn ?_
                have hs569 := SP.below hs53 hk
                refine Step.toStr (T := 22) (S' := 9) (E := 5) (x := (.tmp 98)) (A := A570) (c := c571) (l := z516) (d := (some 99)) (k := 31) (by kernel_rfl) rfl (by kernel_rfl) (by kernel_rfl) (by kernel_rfl) (by kernel_rfl) hr572 ?_
                exact ⟨Below.refl _ _, _, updO_known hkn, rfl⟩
               ·intro ρ' w' hk hs hah
                have e96 := hah 28 96 (by kernel_rfl)
                have e99 := hah 31 99 (by kernel_rfl)
                have e93 := hah 25 93 (by kernel_rfl)
                have hkn : Known ρ' [(96, (.string ⟨List.toArray z510⟩)), (99, (.string ⟨List.toArray z516⟩)), (93, (.bool true))] := ⟨e96, e99, (Eq.trans e93 (congrArg Value.bool hb509)), trivial⟩
                refine Step.known _ hkn ?_
                have hs573 := SP.below hs53 hk
                refine Step.strOp (op := .eql) (T := 9) (T' := 9) (x := (.tmp 96)) (y := (.tmp 99)) (a := z510) (b := z516) (r := (.bool (z510 == z516))) (d := (some 100)) (k := 32) (by kernel_rfl) rfl (by kernel_rfl) (by kernel_rfl) rfl ?_
                exact ⟨Below.refl _ _, _, updO_known hkn, rfl⟩
               ·exact Owes.pure [(93, (.bool true)), (100, (.bool (z510 == z516)))] ⟨sB 25 (by kernel_rfl) (z18.2.2 == z24.2.2) (by kernel_rfl) hb509, sA 32 (by kernel_rfl) (by kernel_rfl), trivial⟩ (.bool (z510 == z516)) (fun _ _ => by kernel_rfl) (fun _ => rfl)
               ·exact Owes.pure [(101, (.bool (z510 == z516)))] ⟨sA 33 (by kernel_rfl) (by kernel_rfl), trivial⟩ (.bool (z510 == z516)) (fun _ _ => by kernel_rfl) (fun _ => rfl)
               ·exact Owes.pure [(14, (.string ⟨List.toArray z30.1⟩)), (102, (.bool true))] ⟨sS (by kernel_rfl) (by kernel_rfl), sB 34 (by kernel_rfl) (z510 == z516) (by kernel_rfl) hb522, trivial⟩ (.string ⟨List.toArray z30.1⟩) (fun _ _ => by kernel_rfl) (fun _ => rfl)
               ·exact Owes.pure [(17, (.string ⟨List.toArray z36.1⟩)), (102, (.bool true))] ⟨sS (by kernel_rfl) (by kernel_rfl), sB 34 (by kernel_rfl) (z510 == z516) (by kernel_rfl) hb522, trivial⟩ (.string ⟨List.toArray z36.1⟩) (fun _ _ => by kernel_rfl) (fun _ => rfl)
               ·intro ρ' w' hk hs hah
                have e103 := hah 35 103 (by kernel_rfl)
                have e104 := hah 36 104 (by kernel_rfl)
                have e102 := hah 34 102 (by kernel_rfl)
                have hkn : Known ρ' [(103, (.string ⟨List.toArray z30.1⟩)), (104, (.string ⟨List.toArray z36.1⟩)), (102, (.bool true))] := ⟨e103, e104, (Eq.trans e102 (congrArg Value.bool hb522)), trivial⟩
                refine Step.known _ hkn ?_
                have hs574 := SP.below hs53 hk
                refine Step.strOp (op := .eql) (T := 9) (T' := 9) (x := (.tmp 103)) (y := (.tmp 104)) (a := z30.1) (b := z36.1) (r := (.bool (z30.1 == z36.1))) (d := (some 105)) (k := 37) (by kernel_rfl) rfl (by kernel_rfl) (by kernel_rfl) rfl ?_
                exact ⟨Below.refl _ _, _, updO_known hkn, rfl⟩
               ·exact Owes.pure [(102, (.bool true)), (105, (.bool (z30.1 == z36.1)))] ⟨sB 34 (by kernel_rfl) (z510 == z516) (by kernel_rfl) hb522, sA 37 (by kernel_rfl) (by kernel_rfl), trivial⟩ (.bool (z30.1 == z36.1)) (fun _ _ => by kernel_rfl) (fun _ => rfl)
               ·exact Owes.pure [(106, (.bool (z30.1 == z36.1)))] ⟨sA 38 (by kernel_rfl) (by kernel_rfl), trivial⟩ (.bool (z30.1 == z36.1)) (fun _ _ => by kernel_rfl) (fun _ => rfl)
               ·exact Owes.pure [(15, (.int .i64 z30.2.1)), (107, (.bool true))] ⟨sS (by kernel_rfl) (by kernel_rfl), sB 39 (by kernel_rfl) (z30.1 == z36.1) (by kernel_rfl) hb523, trivial⟩ (.int .i64 z30.2.1) (fun _ _ => by kernel_rfl) (fun _ => rfl)
               ·exact Owes.pure [(18, (.int .i64 z36.2.1)), (107, (.bool true))] ⟨sS (by kernel_rfl) (by kernel_rfl), sB 39 (by kernel_rfl) (z30.1 == z36.1) (by kernel_rfl) hb523, trivial⟩ (.int .i64 z36.2.1) (fun _ _ => by kernel_rfl) (fun _ => rfl)
               ·exact Owes.pure [(108, (.int .i64 z30.2.1)), (109, (.int .i64 z36.2.1)), (107, (.bool true))] ⟨sA 40 (by kernel_rfl) (by kernel_rfl), sA 41 (by kernel_rfl) (by kernel_rfl), sB 39 (by kernel_rfl) (z30.1 == z36.1) (by kernel_rfl) hb523, trivial⟩ (.bool (z30.2.1 == z36.2.1)) (fun _ _ => by kernel_rfl) (fun _ => rfl)
               ·exact Owes.pure [(107, (.bool true)), (110, (.bool (z30.2.1 == z36.2.1)))] ⟨sB 39 (by kernel_rfl) (z30.1 == z36.1) (by kernel_rfl) hb523, sA 42 (by kernel_rfl) (by kernel_rfl), trivial⟩ (.bool (z30.2.1 == z36.2.1)) (fun _ _ => by kernel_rfl) (fun _ => rfl)
               ·exact Owes.pure [(111, (.bool (z30.2.1 == z36.2.1)))] ⟨sA 43 (by kernel_rfl) (by kernel_rfl), trivial⟩ (.bool (z30.2.1 == z36.2.1)) (fun _ _ => by kernel_rfl) (fun _ => rfl)
               ·exact Owes.pure [(16, (.bool z30.2.2)), (112, (.bool true))] ⟨sS (by kernel_rfl) (by kernel_rfl), sB 44 (by kernel_rfl) (z30.2.1 == z36.2.1) (by kernel_rfl) hb524, trivial⟩ (.bool z30.2.2) (fun _ _ => by kernel_rfl) (fun _ => rfl)
               ·exact Owes.pure [(19, (.bool z36.2.2)), (112, (.bool true))] ⟨sS (by kernel_rfl) (by kernel_rfl), sB 44 (by kernel_rfl) (z30.2.1 == z36.2.1) (by kernel_rfl) hb524, trivial⟩ (.bool z36.2.2) (fun _ _ => by kernel_rfl) (fun _ => rfl)
               ·exact Owes.pure [(113, (.bool z30.2.2)), (114, (.bool z36.2.2)), (112, (.bool true))] ⟨sA 45 (by kernel_rfl) (by kernel_rfl), sA 46 (by kernel_rfl) (by kernel_rfl), sB 44 (by kernel_rfl) (z30.2.1 == z36.2.1) (by kernel_rfl) hb524, trivial⟩ (.bool (z30.2.2 == z36.2.2)) (fun _ _ => by kernel_rfl) (fun _ => rfl)
               ·exact Owes.pure [(112, (.bool true)), (115, (.bool (z30.2.2 == z36.2.2)))] ⟨sB 44 (by kernel_rfl) (z30.2.1 == z36.2.1) (by kernel_rfl) hb524, sA 47 (by kernel_rfl) (by kernel_rfl), trivial⟩ (.bool (z30.2.2 == z36.2.2)) (fun _ _ => by kernel_rfl) (fun _ => rfl)
               ·exact Owes.pure [(116, (.bool (z30.2.2 == z36.2.2)))] ⟨sA 48 (by kernel_rfl) (by kernel_rfl), trivial⟩ (.bool (z30.2.2 == z36.2.2)) (fun _ _ => by kernel_rfl) (fun _ => rfl)
               ·exact Owes.pure [(0, (.int .i64 p1)), (117, (.bool true))] ⟨sS (by kernel_rfl) (by kernel_rfl), sB 49 (by kernel_rfl) (z30.2.2 == z36.2.2) (by kernel_rfl) hb525, trivial⟩ (.int .i64 p1) (fun _ _ => by kernel_rfl) (fun _ => rfl)
               ·intro ρ' w' hk hs hah
                have e118 := hah 50 118 (by kernel_rfl)
                have e117 := hah 49 117 (by kernel_rfl)
                have hkn : Known ρ' [(118, (.int .i64 p1)), (117, (.bool true))] := ⟨e118, (Eq.trans e117 (congrArg Value.bool hb525)), trivial⟩
                refine Step.known _ hkn ?_
                have hs575 := SP.below hs53 hk
                refine Step.callF (f := 20) (fo := (.func 20)) (xs := #[(.tmp 118)]) (tys := #[2]) (first := #[]) (captured := #[]) (d := (some 119)) (k := 51) (by kernel_rfl) rfl (by kernel_rfl) (by kernel_rfl) Tryd.call20 (L_num_Decimal_walk  p1 w' (laid_below hL (SP.keeps hs575)) z526 hz527) ?_
                rintro e w576 ⟨rfl, hs577⟩
                exact ⟨_, rfl, SP.keeps hs577, _, updO_known hkn, rfl⟩
               ·exact Owes.pure [(0, (.int .i64 p1)), (117, (.bool true))] ⟨sS (by kernel_rfl) (by kernel_rfl), sB 49 (by kernel_rfl) (z30.2.2 == z36.2.2) (by kernel_rfl) hb525, trivial⟩ (.int .i64 p1) (fun _ _ => by kernel_rfl) (fun _ => rfl)
               ·intro ρ' w' hk hs hah
                have e120 := hah 52 120 (by kernel_rfl)
                have e117 := hah 49 117 (by kernel_rfl)
                have hkn : Known ρ' [(120, (.int .i64 p1)), (117, (.bool true))] := ⟨e120, (Eq.trans e117 (congrArg Value.bool hb525)), trivial⟩
                refine Step.known _ hkn ?_
                have hs578 := SP.below hs53 hk
                refine Step.callF (f := 21) (fo := (.func 21)) (xs := #[(.tmp 120)]) (tys := #[2]) (first := #[]) (captured := #[]) (d := (some 121)) (k := 53) (by kernel_rfl) rfl (by kernel_rfl) (by kernel_rfl) Tryd.call21 (L_subwayref01_Decimal_walk  p1 w'  z530 hz531) ?_
                rintro e w579 ⟨rfl, hs580⟩
                exact ⟨_, rfl, SP.keeps hs580, _, updO_known hkn, rfl⟩
               ·intro ρ' w' hk hs hah
                have e119 := hah 51 119 (by kernel_rfl)
                have e121 := hah 53 121 (by kernel_rfl)
                have e117 := hah 49 117 (by kernel_rfl)
                have hkn : Known ρ' [(119, (.string ⟨List.toArray z526⟩)), (121, (.string ⟨List.toArray z530⟩)), (117, (.bool true))] := ⟨e119, e121, (Eq.trans e117 (congrArg Value.bool hb525)), trivial⟩
                refine Step.known _ hkn ?_
                have hs581 := SP.below hs53 hk
                refine Step.strOp (op := .eql) (T := 9) (T' := 9) (x := (.tmp 119)) (y := (.tmp 121)) (a := z526) (b := z530) (r := (.bool (z526 == z530))) (d := (some 122)) (k := 54) (by kernel_rfl) rfl (by kernel_rfl) (by kernel_rfl) rfl ?_
                exact ⟨Below.refl _ _, _, updO_known hkn, rfl⟩
               ·exact Owes.pure [(117, (.bool true)), (122, (.bool (z526 == z530)))] ⟨sB 49 (by kernel_rfl) (z30.2.2 == z36.2.2) (by kernel_rfl) hb525, sA 54 (by kernel_rfl) (by kernel_rfl), trivial⟩ (.bool (z526 == z530)) (fun _ _ => by kernel_rfl) (fun _ => rfl)
               ·exact Owes.pure [(123, (.bool (z526 == z530)))] ⟨sA 55 (by kernel_rfl) (by kernel_rfl), trivial⟩ (.bool (z526 == z530)) (fun _ _ => by kernel_rfl) (fun _ => rfl)
               ·exact Owes.pure [(20, (.int .i64 z42.1)), (124, (.bool true))] ⟨sS (by kernel_rfl) (by kernel_rfl), sB 56 (by kernel_rfl) (z526 == z530) (by kernel_rfl) hb534, trivial⟩ (.int .i64 z42.1) (fun _ _ => by kernel_rfl) (fun _ => rfl)
               ·exact Owes.pure [(22, (.int .i64 z48.1)), (124, (.bool true))] ⟨sS (by kernel_rfl) (by kernel_rfl), sB 56 (by kernel_rfl) (z526 == z530) (by kernel_rfl) hb534, trivial⟩ (.int .i64 z48.1) (fun _ _ => by kernel_rfl) (fun _ => rfl)
               ·exact Owes.pure [(125, (.int .i64 z42.1)), (126, (.int .i64 z48.1)), (124, (.bool true))] ⟨sA 57 (by kernel_rfl) (by kernel_rfl), sA 58 (by kernel_rfl) (by kernel_rfl), sB 56 (by kernel_rfl) (z526 == z530) (by kernel_rfl) hb534, trivial⟩ (.bool (z42.1 == z48.1)) (fun _ _ => by kernel_rfl) (fun _ => rfl)
               ·exact Owes.pure [(124, (.bool true)), (127, (.bool (z42.1 == z48.1)))] ⟨sB 56 (by kernel_rfl) (z526 == z530) (by kernel_rfl) hb534, sA 59 (by kernel_rfl) (by kernel_rfl), trivial⟩ (.bool (z42.1 == z48.1)) (fun _ _ => by kernel_rfl) (fun _ => rfl)
               ·exact Owes.pure [(128, (.bool (z42.1 == z48.1)))] ⟨sA 60 (by kernel_rfl) (by kernel_rfl), trivial⟩ (.bool (z42.1 == z48.1)) (fun _ _ => by kernel_rfl) (fun _ => rfl)
               ·exact Owes.pure [(21, (.bool z42.2)), (129, (.bool true))] ⟨sS (by kernel_rfl) (by kernel_rfl), sB 61 (by kernel_rfl) (z42.1 == z48.1) (by kernel_rfl) hb535, trivial⟩ (.bool z42.2) (fun _ _ => by kernel_rfl) (fun _ => rfl)
               ·exact Owes.pure [(23, (.bool z48.2)), (129, (.bool true))] ⟨sS (by kernel_rfl) (by kernel_rfl), sB 61 (by kernel_rfl) (z42.1 == z48.1) (by kernel_rfl) hb535, trivial⟩ (.bool z48.2) (fun _ _ => by kernel_rfl) (fun _ => rfl)
               ·exact Owes.pure [(130, (.bool z42.2)), (131, (.bool z48.2)), (129, (.bool true))] ⟨sA 62 (by kernel_rfl) (by kernel_rfl), sA 63 (by kernel_rfl) (by kernel_rfl), sB 61 (by kernel_rfl) (z42.1 == z48.1) (by kernel_rfl) hb535, trivial⟩ (.bool (z42.2 == z48.2)) (fun _ _ => by kernel_rfl) (fun _ => rfl)
               ·exact Owes.pure [(129, (.bool true)), (132, (.bool (z42.2 == z48.2)))] ⟨sB 61 (by kernel_rfl) (z42.1 == z48.1) (by kernel_rfl) hb535, sA 64 (by kernel_rfl) (by kernel_rfl), trivial⟩ (.bool (z42.2 == z48.2)) (fun _ _ => by kernel_rfl) (fun _ => rfl)
               ·exact Owes.pure [(133, (.bool (z42.2 == z48.2)))] ⟨sA 65 (by kernel_rfl) (by kernel_rfl), trivial⟩ (.bool (z42.2 == z48.2)) (fun _ _ => by kernel_rfl) (fun _ => rfl)
               ·intro ρ' w' hk hs hf
                have hs583 := SP.below hs53 hk
                obtain ⟨w582, hww582⟩ : ∃ x, w' = x := ⟨_, rfl⟩
                subst hww582
                have e6 := hf 66 6 (by kernel_rfl)
                refine postKnown [(6, (.bool (z42.2 == z48.2)))] ⟨e6, trivial⟩ ?_
                exact ⟨(z42.2 == z48.2), ⟨(by kernel_rfl), trivial⟩, SP.sel hs583 [] rfl rfl, H⟩
              ·have H := cf H hb535
               refine At.draw (by kernel_rfl) (by kernel_rfl) (by kernel_rfl) (by kernel_rfl) (by kernel_rfl) [FEq (.bool z7), FEq (.bool z7), FEq (.int .i64 p1), FRow eU8 z494, FEq (.string ⟨List.toArray z494⟩), FEq (.int .i64 p1), FRow eU8 z500, FEq (.string ⟨List.toArray z500⟩), FEq (.bool (z494 == z500)), FEq (.bool (z494 == z500)), FEq (.bool (z494 == z500)), FEq (.int .i64 z18.1), FEq (.int .i64 z24.1), FEq (.bool (z18.1 == z24.1)), FEq (.bool (z18.1 == z24.1)), FEq (.bool (z18.1 == z24.1)), FEq (.int .i64 z18.2.1), FEq (.int .i64 z24.2.1), FEq (.bool (z18.2.1 == z24.2.1)), FEq (.bool (z18.2.1 == z24.2.1)), FEq (.bool (z18.2.1 == z24.2.1)), FEq (.bool z18.2.2), FEq (.bool z24.2.2), FEq (.bool (z18.2.2 == z24.2.2)), FEq (.bool (z18.2.2 == z24.2.2)), FEq (.bool (z18.2.2 == z24.2.2)), FEq (.string ⟨List.toArray p6⟩), FRow eU8 z510, FEq (.string ⟨List.toArray z510⟩), FEq (.string ⟨List.toArray p6⟩), FRow eU8 z516, FEq (.string ⟨List.toArray z516⟩), FEq (.bool (z510 == z516)), FEq (.bool (z510 == z516)), FEq (.bool (z510 == z516)), FEq (.string ⟨List.toArray z30.1⟩), FEq (.string ⟨List.toArray z36.1⟩), FEq (.bool (z30.1 == z36.1)), FEq (.bool (z30.1 == z36.1)), FEq (.bool (z30.1 == z36.1)), FEq (.int .i64 z30.2.1), FEq (.int .i64 z36.2.1), FEq (.bool (z30.2.1 == z36.2.1)), FEq (.bool (z30.2.1 == z36.2.1)), FEq (.bool (z30.2.1 == z36.2.1)), FEq (.bool z30.2.2), FEq (.bool z36.2.2), FEq (.bool (z30.2.2 == z36.2.2)), FEq (.bool (z30.2.2 == z36.2.2)), FEq (.bool (z30.2.2 == z36.2.2)), FEq (.int .i64 p1), FEq (.string ⟨List.toArray z526⟩), FEq (.int .i64 p1), FEq (.string ⟨List.toArray z530⟩), FEq (.bool (z526 == z530)), FEq (.bool (z526 == z530)), FEq (.bool (z526 == z530)), FEq (.int .i64 z42.1), FEq (.int .i64 z48.1), FEq (.bool (z42.1 == z48.1)), FEq (.bool (z42.1 == z48.1)), FEq (.bool (z42.1 == z48.1)), FEq undef, FEq undef, FEq undef, FEq (.bool false), FEq (.bool false)] ⟨mono_eq _, mono_eq _, mono_eq _, mono_row _ _, mono_eq _, mono_eq _, mono_row _ _, mono_eq _, mono_eq _, mono_eq _, mono_eq _, mono_eq _, mono_eq _, mono_eq _, mono_eq _, mono_eq _, mono_eq _, mono_eq _, mono_eq _, mono_eq _, mono_eq _, mono_eq _, mono_eq _, mono_eq _, mono_eq _, mono_eq _, mono_eq _, mono_row _ _, mono_eq _, mono_eq _, mono_row _ _, mono_eq _, mono_eq _, mono_eq _, mono_eq _, mono_eq _, mono_eq _, mono_eq _, mono_eq _, mono_eq _, mono_eq _, mono_eq _, mono_eq _, mono_eq _, mono_eq _, mono_eq _, mono_eq _, mono_eq _, mono_eq _, mono_eq _, mono_eq _, mono_eq _, mono_eq _, mono_eq _, mono_eq _, mono_eq _, mono_eq _, mono_eq _, mono_eq _, mono_eq _, mono_eq _, mono_eq _, mono_eq _, mono_eq _, mono_eq _, mono_eq _, mono_eq _, trivial⟩ (N := 67) (by kernel_rfl) ⟨⟨⟨⟨⟨⟨⟨⟨⟨⟨⟨⟨⟨⟨⟨⟨⟨⟨⟨⟨⟨⟨⟨⟨⟨⟨⟨⟨⟨⟨⟨⟨⟨⟨⟨⟨⟨⟨⟨⟨⟨⟨⟨⟨⟨⟨⟨⟨⟨⟨⟨⟨⟨⟨⟨⟨⟨⟨⟨⟨⟨⟨⟨⟨⟨⟨⟨trivial, ?_⟩, ?_⟩, ?_⟩, ?_⟩, ?_⟩, ?_⟩, ?_⟩, ?_⟩, ?_⟩, ?_⟩, ?_⟩, ?_⟩, ?_⟩, ?_⟩, ?_⟩, ?_⟩, ?_⟩, ?_⟩, ?_⟩, ?_⟩, ?_⟩, ?_⟩, ?_⟩, ?_⟩, ?_⟩, ?_⟩, ?_⟩, ?_⟩, ?_⟩, ?_⟩, ?_⟩, ?_⟩, ?_⟩, ?_⟩, ?_⟩, ?_⟩, ?_⟩, ?_⟩, ?_⟩, ?_⟩, ?_⟩, ?_⟩, ?_⟩, ?_⟩, ?_⟩, ?_⟩, ?_⟩, ?_⟩, ?_⟩, ?_⟩, ?_⟩, ?_⟩, ?_⟩, ?_⟩, ?_⟩, ?_⟩, ?_⟩, ?_⟩, ?_⟩, ?_⟩, ?_⟩, ?_⟩, ?_⟩, ?_⟩, ?_⟩, ?_⟩, ?_⟩ ?_
               ·exact Owes.pure [(7, (.bool z7))] ⟨sS (by kernel_rfl) (by kernel_rfl), trivial⟩ (.bool z7) (fun _ _ => by kernel_rfl) (fun _ => rfl)
               ·exact Owes.pure [(68, (.bool z7))] ⟨sA 0 (by kernel_rfl) (by kernel_rfl), trivial⟩ (.bool z7) (fun _ _ => by kernel_rfl) (fun _ => rfl)
               ·exact Owes.pure [(0, (.int .i64 p1)), (69, (.bool true))] ⟨sS (by kernel_rfl) (by kernel_rfl), sB 1 (by kernel_rfl) z7 (by kernel_rfl) hb493, trivial⟩ (.int .i64 p1) (fun _ _ => by kernel_rfl) (fun _ => rfl)
               ·intro ρ' w' hk hs hah
                have e70 := hah 2 70 (by kernel_rfl)
                have e69 := hah 1 69 (by kernel_rfl)
                have hkn : Known ρ' [(70, (.int .i64 p1)), (69, (.bool true))] := ⟨e70, (Eq.trans e69 (congrArg Value.bool hb493)), trivial⟩
                refine Step.known _ hkn ?_
                have hs584 := SP.below hs53 hk
                refine Step.callF (f := 16) (fo := (.func 16)) (xs := #[(.tmp 70)]) (tys := #[2]) (first := #[]) (captured := #[]) (d := (some 71)) (k := 3) (by kernel_rfl) rfl (by kernel_rfl) (by kernel_rfl) Tryd.call16 (L_num_Put_walk  p1 w'  z494 hz495) ?_
                rintro e w585 ⟨A587, c588, rfl, hs586⟩
                exact ⟨_, rfl, SP.keeps hs586, _, updO_known hkn, ⟨_, _, rfl, SP.row_of hs586⟩⟩
               ·intro ρ' w' hk hs hah
                obtain ⟨A590, c591, e71, hr592⟩ := hah 3 71 (by kernel_rfl)
                have e69 := hah 1 69 (by kernel_rfl)
                have hkn : Known ρ' [(71, (.slice A590 (List.length z494) c591)), (69, (.bool true))] := ⟨e71, (Eq.trans e69 (congrArg Value.bool hb493)), trivial⟩
                refine Step.known _ hkn ?_
                have hs589 := SP.below hs53 hk
                refine Step.toStr (T := 22) (S' := 9) (E := 5) (x := (.tmp 71)) (A := A590) (c := c591) (l := z494) (d := (some 72)) (k := 4) (by kernel_rfl) rfl (by kernel_rfl) (by kernel_rfl) (by kernel_rfl) (by kernel_rfl) hr592 ?_
                exact ⟨Below.refl _ _, _, updO_known hkn, rfl⟩
               ·exact Owes.pure [(0, (.int .i64 p1)), (69, (.bool true))] ⟨sS (by kernel_rfl) (by kernel_rfl), sB 1 (by kernel_rfl) z7 (by kernel_rfl) hb493, trivial⟩ (.int .i64 p1) (fun _ _ => by kernel_rfl) (fun _ => rfl)
               ·intro ρ' w' hk hs hah
                have e73 := hah 5 73 (by kernel_rfl)
                have e69 := hah 1 69 (by kernel_rfl)
                have hkn : Known ρ' [(73, (.int .i64 p1)), (69, (.bool true))] := ⟨e73, (Eq.trans e69 (congrArg Value.bool hb493)), trivial⟩
                refine Step.known _ hkn ?_
                have hs593 := SP.below hs53 hk
                refine Step.callF (f := 17) (fo := (.func 17)) (xs := #[(.tmp 73)]) (tys := #[2]) (first := #[]) (captured := #[]) (d := (some 74)) (k := 6) (by kernel_rfl) rfl (by kernel_rfl) (by kernel_rfl) Tryd.call17 (L_subwayref01_Put_walk  p1 w'  z500 hz501) ?_
                rintro e w594 ⟨A596, c597, rfl, hs595⟩
                exact ⟨_, rfl, SP.keeps hs595, _, updO_known hkn, ⟨_, _, rfl, SP.row_of hs595⟩⟩
               ·intro ρ' w' hk hs hah
                obtain ⟨A599, c600, e74, hr601⟩ := hah 6 74 (by kernel_rfl)
                have e69 := hah 1 69 (by kernel_rfl)
                have hkn : Known ρ' [(74, (.slice A599 (List.length z500) c600)), (69, (.bool true))] := ⟨e74, (Eq.trans e69 (congrArg Value.bool hb493)), trivial⟩
                refine Step.known _ hkn ?_
                have hs598 := SP.below hs53 hk
                refine Step.toStr (T := 22) (S' := 9) (E := 5) (x := (.tmp 74)) (A := A599) (c := c600) (l := z500) (d := (some 75)) (k := 7) (by kernel_rfl) rfl (by kernel_rfl) (by kernel_rfl) (by kernel_rfl) (by kernel_rfl) hr601 ?_
                exact ⟨Below.refl _ _, _, updO_known hkn, rfl⟩
               ·intro ρ' w' hk hs hah
                have e72 := hah 4 72 (by kernel_rfl)
                have e75 := hah 7 75 (by kernel_rfl)
                have e69 := hah 1 69 (by kernel_rfl)
                have hkn : Known ρ' [(72, (.string ⟨List.toArray z494⟩)), (75, (.string ⟨List.toArray z500⟩)), (69, (.bool true))] := ⟨e72, e75, (Eq.trans e69 (congrArg Value.bool hb493)), trivial⟩
                refine Step.known _ hkn ?_
                have hs602 := SP.below hs53 hk
                refine Step.strOp (op := .eql) (T := 9) (T' := 9) (x := (.tmp 72)) (y := (.tmp 75)) (a := z494) (b := z500) (r := (.bool (z494 == z500))) (d := (some 76)) (k := 8) (by kernel_rfl) rfl (by kernel_rfl) (by kernel_rfl) rfl ?_
                exact ⟨Below.refl _ _, _, updO_known hkn, rfl⟩
               ·exact Owes.pure [(69, (.bool true)), (76, (.bool (z494 == z500)))] ⟨sB 1 (by kernel_rfl) z7 (by kernel_rfl) hb493, sA 8 (by kernel_rfl) (by kernel_rfl), trivial⟩ (.bool (z494 == z500)) (fun _ _ => by kernel_rfl) (fun _ => rfl)
               ·exact Owes.pure [(77, (.bool (z494 == z500)))] ⟨sA 9 (by kernel_rfl) (by kernel_rfl), trivial⟩ (.bool (z494 == z500)) (fun _ _ => by kernel_rfl) (fun _ => rfl)
               ·exact Owes.pure [(8, (.int .i64 z18.1)), (78, (.bool true))] ⟨sS (by kernel_rfl) (by kernel_rfl), sB 10 (by kernel_rfl) (z494 == z500) (by kernel_rfl) hb506, trivial⟩ (.int .i64 z18.1) (fun _ _ => by kernel_rfl) (fun _ => rfl)
               ·exact Owes.pure [(11, (.int .i64 z24.1)), (78, (.bool true))] ⟨sS (by kernel_rfl) (by kernel_rfl), sB 10 (by kernel_rfl) (z494 == z500) (by kernel_rfl) hb506, trivial⟩ (.int .i64 z24.1) (fun _ _ => by kernel_rfl) (fun _ => rfl)
               ·exact Owes.pure [(79, (.int .i64 z18.1)), (80, (.int .i64 z24.1)), (78, (.bool true))] ⟨sA 11 (by kernel_rfl) (by kernel_rfl), sA 12 (by kernel_rfl) (by kernel_rfl), sB 10 (by kernel_rfl) (z494 == z500) (by kernel_rfl) hb506, trivial⟩ (.bool (z18.1 == z24.1)) (fun _ _ => by kernel_rfl) (fun _ => rfl)
               ·exact Owes.pure [(78, (.bool true)), (81, (.bool (z18.1 == z24.1)))] ⟨sB 10 (by kernel_rfl) (z494 == z500) (by kernel_rfl) hb506, sA 13 (by kernel_rfl) (by kernel_rfl), trivial⟩ (.bool (z18.1 == z24.1)) (fun _ _ => by kernel_rfl) (fun _ => rfl)
               ·exact Owes.pure [(82, (.bool (z18.1 == z24.1)))] ⟨sA 14 (by kernel_rfl) (by kernel_rfl), trivial⟩ (.bool (z18.1 == z24.1)) (fun _ _ => by kernel_rfl) (fun _ => rfl)
               ·exact Owes.pure [(9, (.int .i64 z18.2.1)), (83, (.bool true))] ⟨sS (by kernel_rfl) (by kernel_rfl), sB 15 (by kernel_rfl) (z18.1 == z24.1) (by kernel_rfl) hb507, trivial⟩ (.int .i64 z18.2.1) (fun _ _ => by kernel_rfl) (fun _ => rfl)
               ·exact Owes.pure [(12, (.int .i64 z24.2.1)), (83, (.bool true))] ⟨sS (by kernel_rfl) (by kernel_rfl), sB 15 (by kernel_rfl) (z18.1 == z24.1) (by kernel_rfl) hb507, trivial⟩ (.int .i64 z24.2.1) (fun _ _ => by kernel_rfl) (fun _ => rfl)
               ·exact Owes.pure [(84, (.int .i64 z18.2.1)), (85, (.int .i64 z24.2.1)), (83, (.bool true))] ⟨sA 16 (by kernel_rfl) (by kernel_rfl), sA 17 (by kernel_rfl) (by kernel_rfl), sB 15 (by kernel_rfl) (z18.1 == z24.1) (by kernel_rfl) hb507, trivial⟩ (.bool (z18.2.1 == z24.2.1)) (fun _ _ => by kernel_rfl) (fun _ => rfl)
               ·exact Owes.pure [(83, (.bool true)), (86, (.bool (z18.2.1 == z24.2.1)))] ⟨sB 15 (by kernel_rfl) (z18.1 == z24.1) (by kernel_rfl) hb507, sA 18 (by kernel_rfl) (by kernel_rfl), trivial⟩ (.bool (z18.2.1 == z24.2.1)) (fun _ _ => by kernel_rfl) (fun _ => rfl)
               ·exact Owes.pure [(87, (.bool (z18.2.1 == z24.2.1)))] ⟨sA 19 (by kernel_rfl) (by kernel_rfl), trivial⟩ (.bool (z18.2.1 == z24.2.1)) (fun _ _ => by kernel_rfl) (fun _ => rfl)
               ·exact Owes.pure [(10, (.bool z18.2.2)), (88, (.bool true))] ⟨sS (by kernel_rfl) (by kernel_rfl), sB 20 (by kernel_rfl) (z18.2.1 == z24.2.1) (by kernel_rfl) hb508, trivial⟩ (.bool z18.2.2) (fun _ _ => by kernel_rfl) (fun _ => rfl)
               ·exact Owes.pure [(13, (.bool z24.2.2)), (88, (.bool true))] ⟨sS (by kernel_rfl) (by kernel_rfl), sB 20 (by kernel_rfl) (z18.2.1 == z24.2.1) (by kernel_rfl) hb508, trivial⟩ (.bool z24.2.2) (fun _ _ => by kernel_rfl) (fun _ => rfl)
               ·exact Owes.pure [(89, (.bool z18.2.2)), (90, (.bool z24.2.2)), (88, (.bool true))] ⟨sA 21 (by kernel_rfl) (by kernel_rfl), sA 22 (by kernel_rfl) (by kernel_rfl), sB 20 (by kernel_rfl) (z18.2.1 == z24.2.1) (by kernel_rfl) hb508, trivial⟩ (.bool (z18.2.2 == z24.2.2)) (fun _ _ => by kernel_rfl) (fun _ => rfl)
               ·exact Owes.pure [(88, (.bool true)), (91, (.bool (z18.2.2 == z24.2.2)))] ⟨sB 20 (by kernel_rfl) (z18.2.1 == z24.2.1) (by kernel_rfl) hb508, sA 23 (by kernel_rfl) (by kernel_rfl), trivial⟩ (.bool (z18.2.2 == z24.2.2)) (fun _ _ => by kernel_rfl) (fun _ => rfl)
               ·exact Owes.pure [(92, (.bool (z18.2.2 == z24.2.2)))] ⟨sA 24 (by kernel_rfl) (by kernel_rfl), trivial⟩ (.bool (z18.2.2 == z24.2.2)) (fun _ _ => by kernel_rfl) (fun _ => rfl)
               ·exact Owes.pure [(2, (.string ⟨List.toArray p6⟩)), (93, (.bool true))] ⟨sS (by kernel_rfl) (by kernel_rfl), sB 25 (by kernel_rfl) (z18.2.2 == z24.2.2) (by kernel_rfl) hb509, trivial⟩ (.string ⟨List.toArray p6⟩) (fun _ _ => by kernel_rfl) (fun _ => rfl)
               ·intro ρ' w' hk hs hah
                have e94 := hah 26 94 (by kernel_rfl)
                have e93 := hah 25 93 (by kernel_rfl)
                have hkn : Known ρ' [(94, (.string ⟨List.toArray p6⟩)), (93, (.bool true))] := ⟨e94, (Eq.trans e93 (congrArg Value.bool hb509)), trivial⟩
                refine Step.known _ hkn ?_
                have hs603 := SP.below hs53 hk
                refine Step.callF (f := 18) (fo := (.func 18)) (xs := #[(.tmp 94)]) (tys := #[9]) (first := #[]) (captured := #[]) (d := (some 95)) (k := 27) (by kernel_rfl) rfl (by kernel_rfl) (by kernel_rfl) Tryd.call18 (L_num_Text_walk  p6 w'  z510 hz511) ?_
                rintro e w604 ⟨A606, c607, rfl, hs605⟩
                exact ⟨_, rfl, SP.keeps hs605, _, updO_known hkn, ⟨_, _, rfl, SP.row_of hs605⟩⟩
               ·intro ρ' w' hk hs hah
                obtain ⟨A609, c610, e95, hr611⟩ := hah 27 95 (by kernel_rfl)
                have e93 := hah 25 93 (by kernel_rfl)
                have hkn : Known ρ' [(95, (.slice A609 (List.length z510) c610)), (93, (.bool true))] := ⟨e95, (Eq.trans e93 (congrArg Value.bool hb509)), trivial⟩
                refine Step.known _ hkn ?_
                have hs608 := SP.below hs53 hk
                refine Step.toStr (T := 22) (S' := 9) (E := 5) (x := (.tmp 95)) (A := A609) (c := c610) (l := z510) (d := (some 96)) (k := 28) (by kernel_rfl) rfl (by kernel_rfl) (by kernel_rfl) (by kernel_rfl) (by kernel_rfl) hr611 ?_
                exact ⟨Below.refl _ _, _, updO_known hkn, rfl⟩
               ·exact Owes.pure [(2, (.string ⟨List.toArray p6⟩)), (93, (.bool true))] ⟨sS (by kernel_rfl) (by kernel_rfl), sB 25 (by kernel_rfl) (z18.2.2 == z24.2.2) (by kernel_rfl) hb509, trivial⟩ (.string ⟨List.toArray p6⟩) (fun _ _ => by kernel_rfl) (fun _ => rfl)
               ·intro ρ' w' hk hs hah
                have e97 := hah 29 97 (by kernel_rfl)
                have e93 := hah 25 93 (by kernel_rfl)
                have hkn : Known ρ' [(97, (.string ⟨List.toArray p6⟩)), (93, (.bool true))] := ⟨e97, (Eq.trans e93 (congrArg Value.bool hb509)), trivial⟩
                refine Step.known _ hkn ?_
                have hs612 := SP.below hs53 hk
                refine Step.callF (f := 19) (fo := (.func 19)) (xs := #[(.tmp 97)]) (tys := #[9]) (first := #[]) (captured := #[]) (d := (some 98)) (k := 30) (by kernel_rfl) rfl (by kernel_rfl) (by kernel_rfl) Tryd.call19 (L_subwayref01_Text_walk  p6 w'  z516 hz517) ?_
                rintro e w613 ⟨A615, c616, rfl, hs614⟩
                exact ⟨_, rfl, SP.keeps hs614, _, updO_known hkn, ⟨_, _, rfl, SP.row_of hs614⟩⟩
               ·intro ρ' w' hk hs hah
                obtain ⟨A618, c619, e98, hr620⟩ := hah 30 98 (by kernel_rfl)
                have e93 := hah 25 93 (by kernel_rfl)
                have hkn : Known ρ' [(98, (.slice A618 (List.length z516) c619)), (93, (.bool true))] := ⟨e98, (Eq.trans e93 (congrArg Value.bool hb509)), trivial⟩
                refine Step.known _ hkn ?_
                have hs617 := SP.below hs53 hk
                refine Step.toStr (T := 22) (S' := 9) (E := 5) (x := (.tmp 98)) (A := A618) (c := c619) (l := z516) (d := (some 99)) (k := 31) (by kernel_rfl) rfl (by kernel_rfl) (by kernel_rfl) (by kernel_rfl) (by kernel_rfl) hr620 ?_
                exact ⟨Below.refl _ _, _, updO_known hkn, rfl⟩
               ·intro ρ' w' hk hs hah
                have e96 := hah 28 96 (by kernel_rfl)
                have e99 := hah 31 99 (by kernel_rfl)
                have e93 := hah 25 93 (by kernel_rfl)
                have hkn : Known ρ' [(96, (.string ⟨List.toArray z510⟩)), (99, (.string ⟨List.toArray z516⟩)), (93, (.bool true))] := ⟨e96, e99, (Eq.trans e93 (congrArg Value.bool hb509)), trivial⟩
                refine Step.known _ hkn ?_
                have hs621 := SP.below hs53 hk
                refine Step.strOp (op := .eql) (T := 9) (T' := 9) (x := (.tmp 96)) (y := (.tmp 99)) (a := z510) (b := z516) (r := (.bool (z510 == z516))) (d := (some 100)) (k := 32) (by kernel_rfl) rfl (by kernel_rfl) (by kernel_rfl) rfl ?_
                exact ⟨Below.refl _ _, _, updO_known hkn, rfl⟩
               ·exact Owes.pure [(93, (.bool true)), (100, (.bool (z510 == z516)))] ⟨sB 25 (by kernel_rfl) (z18.2.2 == z24.2.2) (by kernel_rfl) hb509, sA 32 (by kernel_rfl) (by kernel_rfl), trivial⟩ (.bool (z510 == z516)) (fun _ _ => by kernel_rfl) (fun _ => rfl)
               ·exact Owes.pure [(101, (.bool (z510 == z516)))] ⟨sA 33 (by kernel_rfl) (by kernel_rfl), trivial⟩ (.bool (z510 == z516)) (fun _ _ => by kernel_rfl) (fun _ => rfl)
               ·exact Owes.pure [(14, (.string ⟨List.toArray z30.1⟩)), (102, (.bool true))] ⟨sS (by kernel_rfl) (by kernel_rfl), sB 34 (by kernel_rfl) (z510 == z516) (by kernel_rfl) hb522, trivial⟩ (.string ⟨List.toArray z30.1⟩) (fun _ _ => by kernel_rfl) (fun _ => rfl)
               ·exact Owes.pure [(17, (.string ⟨List.toArray z36.1⟩)), (102, (.bool true))] ⟨sS (by kernel_rfl) (by kernel_rfl), sB 34 (by kernel_rfl) (z510 == z516) (by kernel_rfl) hb522, trivial⟩ (.string ⟨List.toArray z36.1⟩) (fun _ _ => by kernel_rfl) (fun _ => rfl)
               ·intro ρ' w' hk hs hah
                have e103 := hah 35 103 (by kernel_rfl)
                have e104 := hah 36 104 (by kernel_rfl)
                have e102 := hah 34 102 (by kernel_rfl)
                have hkn : Known ρ' [(103, (.string ⟨List.toArray z30.1⟩)), (104, (.string ⟨List.toArray z36.1⟩)), (102, (.bool true))] := ⟨e103, e104, (Eq.trans e102 (congrArg Value.bool hb522)), trivial⟩
                refine Step.known _ hkn ?_
                have hs622 := SP.below hs53 hk
                refine Step.strOp (op := .eql) (T := 9) (T' := 9) (x := (.tmp 103)) (y := (.tmp 104)) (a := z30.1) (b := z36.1) (r := (.bool (z30.1 == z36.1))) (d := (some 105)) (k := 37) (by kernel_rfl) rfl (by kernel_rfl) (by kernel_rfl) rfl ?_
                exact ⟨Below.refl _ _, _, updO_known hkn, rfl⟩
               ·exact Owes.pure [(102, (.bool true)), (105, (.bool (z30.1 == z36.1)))] ⟨sB 34 (by kernel_rfl) (z510 == z516) (by kernel_rfl) hb522, sA 37 (by kernel_rfl) (by kernel_rfl), trivial⟩ (.bool (z30.1 == z36.1)) (fun _ _ => by kernel_rfl) (fun _ => rfl)
               ·exact Owes.pure [(106, (.bool (z30.1 == z36.1)))] ⟨sA 38 (by kernel_rfl) (by kernel_rfl), trivial⟩ (.bool (z30.1 == z36.1)) (fun _ _ => by kernel_rfl) (fun _ => rfl)
               ·exact Owes.pure [(15, (.int .i64 z30.2.1)), (107, (.bool true))] ⟨sS (by kernel_rfl) (by kernel_rfl), sB 39 (by kernel_rfl) (z30.1 == z36.1) (by kernel_rfl) hb523, trivial⟩ (.int .i64 z30.2.1) (fun _ _ => by kernel_rfl) (fun _ => rfl)
               ·exact Owes.pure [(18, (.int .i64 z36.2.1)), (107, (.bool true))] ⟨sS (by kernel_rfl) (by kernel_rfl), sB 39 (by kernel_rfl) (z30.1 == z36.1) (by kernel_rfl) hb523, trivial⟩ (.int .i64 z36.2.1) (fun _ _ => by kernel_rfl) (fun _ => rfl)
               ·exact Owes.pure [(108, (.int .i64 z30.2.1)), (109, (.int .i64 z36.2.1)), (107, (.bool true))] ⟨sA 40 (by kernel_rfl) (by kernel_rfl), sA 41 (by kernel_rfl) (by kernel_rfl), sB 39 (by kernel_rfl) (z30.1 == z36.1) (by kernel_rfl) hb523, trivial⟩ (.bool (z30.2.1 == z36.2.1)) (fun _ _ => by kernel_rfl) (fun _ => rfl)
               ·exact Owes.pure [(107, (.bool true)), (110, (.bool (z30.2.1 == z36.2.1)))] ⟨sB 39 (by kernel_rfl) (z30.1 == z36.1) (by kernel_rfl) hb523, sA 42 (by kernel_rfl) (by kernel_rfl), trivial⟩ (.bool (z30.2.1 == z36.2.1)) (fun _ _ => by kernel_rfl) (fun _ => rfl)
               ·exact Owes.pure [(111, (.bool (z30.2.1 == z36.2.1)))] ⟨sA 43 (by kernel_rfl) (by kernel_rfl), trivial⟩ (.bool (z30.2.1 == z36.2.1)) (fun _ _ => by kernel_rfl) (fun _ => rfl)
               ·exact Owes.pure [(16, (.bool z30.2.2)), (112, (.bool true))] ⟨sS (by kernel_rfl) (by kernel_rfl), sB 44 (by kernel_rfl) (z30.2.1 == z36.2.1) (by kernel_rfl) hb524, trivial⟩ (.bool z30.2.2) (fun _ _ => by kernel_rfl) (fun _ => rfl)
               ·exact Owes.pure [(19, (.bool z36.2.2)), (112, (.bool true))] ⟨sS (by kernel_rfl) (by kernel_rfl), sB 44 (by kernel_rfl) (z30.2.1 == z36.2.1) (by kernel_rfl) hb524, trivial⟩ (.bool z36.2.2) (fun _ _ => by kernel_rfl) (fun _ => rfl)
               ·exact Owes.pure [(113, (.bool z30.2.2)), (114, (.bool z36.2.2)), (112, (.bool true))] ⟨sA 45 (by kernel_rfl) (by kernel_rfl), sA 46 (by kernel_rfl) (by kernel_rfl), sB 44 (by kernel_rfl) (z30.2.1 == z36.2.1) (by kernel_rfl) hb524, trivial⟩ (.bool (z30.2.2 == z36.2.2)) (fun _ _ => by kernel_rfl) (fun _ => rfl)
               ·exact Owes.pure [(112, (.bool true)), (115, (.bool (z30.2.2 == z36.2.2)))] ⟨sB 44 (by kernel_rfl) (z30.2.1 == z36.2.1) (by kernel_rfl) hb524, sA 47 (by kernel_rfl) (by kernel_rfl), trivial⟩ (.bool (z30.2.2 == z36.2.2)) (fun _ _ => by kernel_rfl) (fun _ => rfl)
               ·exact Owes.pure [(116, (.bool (z30.2.2 == z36.2.2)))] ⟨sA 48 (by kernel_rfl) (by kernel_rfl), trivial⟩ (.bool (z30.2.2 == z36.2.2)) (fun _ _ => by kernel_rfl) (fun _ => rfl)
               ·exact Owes.pure [(0, (.int .i64 p1)), (117, (.bool true))] ⟨sS (by kernel_rfl) (by kernel_rfl), sB 49 (by kernel_rfl) (z30.2.2 == z36.2.2) (by kernel_rfl) hb525, trivial⟩ (.int .i64 p1) (fun _ _ => by kernel_rfl) (fun _ => rfl)
               ·intro ρ' w' hk hs hah
                have e118 := hah 50 118 (by kernel_rfl)
                have e117 := hah 49 117 (by kernel_rfl)
                have hkn : Known ρ' [(118, (.int .i64 p1)), (117, (.bool true))] := ⟨e118, (Eq.trans e117 (congrArg Value.bool hb525)), trivial⟩
                refine Step.known _ hkn ?_
                have hs623 := SP.below hs53 hk
                refine Step.callF (f := 20) (fo := (.func 20)) (xs := #[(.tmp 118)]) (tys := #[2]) (first := #[]) (captured := #[]) (d := (some 119)) (k := 51) (by kernel_rfl) rfl (by kernel_rfl) (by kernel_rfl) Tryd.call20 (L_num_Decimal_walk  p1 w' (laid_below hL (SP.keeps hs623)) z526 hz527) ?_
                rintro e w624 ⟨rfl, hs625⟩
                exact ⟨_, rfl, SP.keeps hs625, _, updO_known hkn, rfl⟩
               ·exact Owes.pure [(0, (.int .i64 p1)), (117, (.bool true))] ⟨sS (by kernel_rfl) (by kernel_rfl), sB 49 (by kernel_rfl) (z30.2.2 == z36.2.2) (by kernel_rfl) hb525, trivial⟩ (.int .i64 p1) (fun _ _ => by kernel_rfl) (fun _ => rfl)
               ·intro ρ' w' hk hs hah
                have e120 := hah 52 120 (by kernel_rfl)
                have e117 := hah 49 117 (by kernel_rfl)
                have hkn : Known ρ' [(120, (.int .i64 p1)), (117, (.bool true))] := ⟨e120, (Eq.trans e117 (congrArg Value.bool hb525)), trivial⟩
                refine Step.known _ hkn ?_
                have hs626 := SP.below hs53 hk
                refine Step.callF (f := 21) (fo := (.func 21)) (xs := #[(.tmp 120)]) (tys := #[2]) (first := #[]) (captured := #[]) (d := (some 121)) (k := 53) (by kernel_rfl) rfl (by kernel_rfl) (by kernel_rfl) Tryd.call21 (L_subwayref01_Decimal_walk  p1 w'  z530 hz531) ?_
                rintro e w627 ⟨rfl, hs628⟩
                exact ⟨_, rfl, SP.keeps hs628, _, updO_known hkn, rfl⟩
               ·intro ρ' w' hk hs hah
                have e119 := hah 51 119 (by kernel_rfl)
                have e121 := hah 53 121 (by kernel_rfl)
                have e117 := hah 49 117 (by kernel_rfl)
                have hkn : Known ρ' [(119, (.string ⟨List.toArray z526⟩)), (121, (.string ⟨List.toArray z530⟩)), (117, (.bool true))] := ⟨e119, e121, (Eq.trans e117 (congrArg Value.bool hb525)), trivial⟩
                refine Step.known _ hkn ?_
                have hs629 := SP.below hs53 hk
                refine Step.strOp (op := .eql) (T := 9) (T' := 9) (x := (.tmp 119)) (y := (.tmp 121)) (a := z526) (b := z530) (r := (.bool (z526 == z530))) (d := (some 122)) (k := 54) (by kernel_rfl) rfl (by kernel_rfl) (by kernel_rfl) rfl ?_
                exact ⟨Below.refl _ _, _, updO_known hkn, rfl⟩
               ·exact Owes.pure [(117, (.bool true)), (122, (.bool (z526 == z530)))] ⟨sB 49 (by kernel_rfl) (z30.2.2 == z36.2.2) (by kernel_rfl) hb525, sA 54 (by kernel_rfl) (by kernel_rfl), trivial⟩ (.bool (z526 == z530)) (fun _ _ => by kernel_rfl) (fun _ => rfl)
               ·exact Owes.pure [(123, (.bool (z526 == z530)))] ⟨sA 55 (by kernel_rfl) (by kernel_rfl), trivial⟩ (.bool (z526 == z530)) (fun _ _ => by kernel_rfl) (fun _ => rfl)
               ·exact Owes.pure [(20, (.int .i64 z42.1)), (124, (.bool true))] ⟨sS (by kernel_rfl) (by kernel_rfl), sB 56 (by kernel_rfl) (z526 == z530) (by kernel_rfl) hb534, trivial⟩ (.int .i64 z42.1) (fun _ _ => by kernel_rfl) (fun _ => rfl)
               ·exact Owes.pure [(22, (.int .i64 z48.1)), (124, (.bool true))] ⟨sS (by kernel_rfl) (by kernel_rfl), sB 56 (by kernel_rfl) (z526 == z530) (by kernel_rfl) hb534, trivial⟩ (.int .i64 z48.1) (fun _ _ => by kernel_rfl) (fun _ => rfl)
               ·exact Owes.pure [(125, (.int .i64 z42.1)), (126, (.int .i64 z48.1)), (124, (.bool true))] ⟨sA 57 (by kernel_rfl) (by kernel_rfl), sA 58 (by kernel_rfl) (by kernel_rfl), sB 56 (by kernel_rfl) (z526 == z530) (by kernel_rfl) hb534, trivial⟩ (.bool (z42.1 == z48.1)) (fun _ _ => by kernel_rfl) (fun _ => rfl)
               ·exact Owes.pure [(124, (.bool true)), (127, (.bool (z42.1 == z48.1)))] ⟨sB 56 (by kernel_rfl) (z526 == z530) (by kernel_rfl) hb534, sA 59 (by kernel_rfl) (by kernel_rfl), trivial⟩ (.bool (z42.1 == z48.1)) (fun _ _ => by kernel_rfl) (fun _ => rfl)
               ·exact Owes.pure [(128, (.bool (z42.1 == z48.1)))] ⟨sA 60 (by kernel_rfl) (by kernel_rfl), trivial⟩ (.bool (z42.1 == z48.1)) (fun _ _ => by kernel_rfl) (fun _ => rfl)
               ·exact Owes.skip [(129, (.bool false))] ⟨sB 61 (by kernel_rfl) (z42.1 == z48.1) (by kernel_rfl) hb535, trivial⟩ (some 130) (fun _ => by kernel_rfl) (by kernel_rfl) (fun _ => rfl)
               ·exact Owes.skip [(129, (.bool false))] ⟨sB 61 (by kernel_rfl) (z42.1 == z48.1) (by kernel_rfl) hb535, trivial⟩ (some 131) (fun _ => by kernel_rfl) (by kernel_rfl) (fun _ => rfl)
               ·exact Owes.skip [(129, (.bool false))] ⟨sB 61 (by kernel_rfl) (z42.1 == z48.1) (by kernel_rfl) hb535, trivial⟩ (some 132) (fun _ => by kernel_rfl) (by kernel_rfl) (fun _ => rfl)
               ·exact Owes.pure [(129, (.bool false)), (132, undef)] ⟨sB 61 (by kernel_rfl) (z42.1 == z48.1) (by kernel_rfl) hb535, sA 64 (by kernel_rfl) (by kernel_rfl), trivial⟩ (.bool false) (fun _ _ => by kernel_rfl) (fun _ => rfl)
               ·exact Owes.pure [(133, (.bool false))] ⟨sA 65 (by kernel_rfl) (by kernel_rfl), trivial⟩ (.bool false) (fun _ _ => by kernel_rfl) (fun _ => rfl)
               ·intro ρ' w' hk hs hf
                have hs631 := SP.below hs53 hk
                obtain ⟨w630, hww630⟩ : ∃ x, w' = x := ⟨_, rfl⟩
                subst hww630
                have e6 := hf 66 6 (by kernel_rfl)
                refine postKnown [(6, (.bool false))] ⟨e6, trivial⟩ ?_
                exact ⟨false, ⟨(by kernel_rfl), trivial⟩, SP.sel hs631 [] rfl rfl, H⟩
             ·have H := cf H hb534
              refine At.draw (by kernel_rfl) (by kernel_rfl) (by kernel_rfl) (by kernel_rfl) (by kernel_rfl) [FEq (.bool z7), FEq (.bool z7), FEq (.int .i64 p1), FRow eU8 z494, FEq (.string ⟨List.toArray z494⟩), FEq (.int .i64 p1), FRow eU8 z500, FEq (.string ⟨List.toArray z500⟩), FEq (.bool (z494 == z500)), FEq (.bool (z494 == z500)), FEq (.bool (z494 == z500)), FEq (.int .i64 z18.1), FEq (.int .i64 z24.1), FEq (.bool (z18.1 == z24.1)), FEq (.bool (z18.1 == z24.1)), FEq (.bool (z18.1 == z24.1)), FEq (.int .i64 z18.2.1), FEq (.int .i64 z24.2.1), FEq (.bool (z18.2.1 == z24.2.1)), FEq (.bool (z18.2.1 == z24.2.1)), FEq (.bool (z18.2.1 == z24.2.1)), FEq (.bool z18.2.2), FEq (.bool z24.2.2), FEq (.bool (z18.2.2 == z24.2.2)), FEq (.bool (z18.2.2 == z24.2.2)), FEq (.bool (z18.2.2 == z24.2.2)), FEq (.string ⟨List.toArray p6⟩), FRow eU8 z510, FEq (.string ⟨List.toArray z510⟩), FEq (.string ⟨List.toArray p6⟩), FRow eU8 z516, FEq (.string ⟨List.toArray z516⟩), FEq (.bool (z510 == z516)), FEq (.bool (z510 == z516)), FEq (.bool (z510 == z516)), FEq (.string ⟨List.toArray z30.1⟩), FEq (.string ⟨List.toArray z36.1⟩), FEq (.bool (z30.1 == z36.1)), FEq (.bool (z30.1 == z36.1)), FEq (.bool (z30.1 == z36.1)), FEq (.int .i64 z30.2.1), FEq (.int .i64 z36.2.1), FEq (.bool (z30.2.1 == z36.2.1)), FEq (.bool (z30.2.1 == z36.2.1)), FEq (.bool (z30.2.1 == z36.2.1)), FEq (.bool z30.2.2), FEq (.bool z36.2.2), FEq (.bool (z30.2.2 == z36.2.2)), FEq (.bool (z30.2.2 == z36.2.2)), FEq (.bool (z30.2.2 == z36.2.2)), FEq (.int .i64 p1), FEq (.string ⟨List.toArray z526⟩), FEq (.int .i64 p1), FEq (.string ⟨List.toArray z530⟩), FEq (.bool (z526 == z530)), FEq (.bool (z526 == z530)), FEq (.bool (z526 == z530)), FEq undef, FEq undef, FEq undef, FEq (.bool false), FEq (.bool false), FEq undef, FEq undef, FEq undef, FEq (.bool false), FEq (.bool false)] ⟨mono_eq _, mono_eq _, mono_eq _, mono_row _ _, mono_eq _, mono_eq _, mono_row _ _, mono_eq _, mono_eq _, mono_eq _, mono_eq _, mono_eq _, mono_eq _, mono_eq _, mono_eq _, mono_eq _, mono_eq _, mono_eq _, mono_eq _, mono_eq _, mono_eq _, mono_eq _, mono_eq _, mono_eq _, mono_eq _, mono_eq _, mono_eq _, mono_row _ _, mono_eq _, mono_eq _, mono_row _ _, mono_eq _, mono_eq _, mono_eq _, mono_eq _, mono_eq _, mono_eq _, mono_eq _, mono_eq _, mono_eq _, mono_eq _, mono_eq _, mono_eq _, mono_eq _, mono_eq _, mono_eq _, mono_eq _, mono_eq _, mono_eq _, mono_eq _, mono_eq _, mono_eq _, mono_eq _, mono_eq _, mono_eq _, mono_eq _, mono_eq _, mono_eq _, mono_eq _, mono_eq _, mono_eq _, mono_eq _, mono_eq _, mono_eq _, mono_eq _, mono_eq _, mono_eq _, trivial⟩ (N := 67) (by kernel_rfl) ⟨⟨⟨⟨⟨⟨⟨⟨⟨⟨⟨⟨⟨⟨⟨⟨⟨⟨⟨⟨⟨⟨⟨⟨⟨⟨⟨⟨⟨⟨⟨⟨⟨⟨⟨⟨⟨⟨⟨⟨⟨⟨⟨⟨⟨⟨⟨⟨⟨⟨⟨⟨⟨⟨⟨⟨⟨⟨⟨⟨⟨⟨⟨⟨⟨⟨⟨trivial, ?_⟩, ?_⟩, ?_⟩, ?_⟩, ?_⟩, ?_⟩, ?_⟩, ?_⟩, ?_⟩, ?_⟩, ?_⟩, ?_⟩, ?_⟩, ?_⟩, ?_⟩, ?_⟩, ?_⟩, ?_⟩, ?_⟩, ?_⟩, ?_⟩, ?_⟩, ?_⟩, ?_⟩, ?_⟩, ?_⟩, ?_⟩, ?_⟩, ?_⟩, ?_⟩, ?_⟩, ?_⟩, ?_⟩, ?_⟩, ?_⟩, ?_⟩, ?_⟩, ?_⟩, ?_⟩, ?_⟩, ?_⟩, ?_⟩, ?_⟩, ?_⟩, ?_⟩, ?_⟩, ?_⟩, ?_⟩, ?_⟩, ?_⟩, ?_⟩, ?_⟩, ?_⟩, ?_⟩, ?_⟩, ?_⟩, ?_⟩, ?_⟩, ?_⟩, ?_⟩, ?_⟩, ?_⟩, ?_⟩, ?_⟩, ?_⟩, ?_⟩, ?_⟩ ?_
              ·exact Owes.pure [(7, (.bool z7))] ⟨sS (by kernel_rfl) (by kernel_rfl), trivial⟩ (.bool z7) (fun _ _ => by kernel_rfl) (fun _ => rfl)
              ·exact Owes.pure [(68, (.bool z7))] ⟨sA 0 (by kernel_rfl) (by kernel_rfl), trivial⟩ (.bool z7) (fun _ _ => by kernel_rfl) (fun _ => rfl)
              ·exact Owes.pure [(0, (.int .i64 p1)), (69, (.bool true))] ⟨sS (by kernel_rfl) (by kernel_rfl), sB 1 (by kernel_rfl) z7 (by kernel_rfl) hb493, trivial⟩ (.int .i64 p1) (fun _ _ => by kernel_rfl) (fun _ => rfl)
              ·intro ρ' w' hk hs hah
               have e70 := hah 2 70 (by kernel_rfl)
               have e69 := hah 1 69 (by kernel_rfl)
               have hkn : Known ρ' [(70, (.int .i64 p1)), (69, (.bool true))] := ⟨e70, (Eq.trans e69 (congrArg Value.bool hb493)), trivial⟩
               refine Step.known _ hkn ?_
               have hs632 := SP.below hs53 hk
               refine Step.callF (f := 16) (fo := (.func 16)) (xs := #[(.tmp 70)]) (tys := #[2]) (first := #[]) (captured := #[]) (d := (some 71)) (k := 3) (by kernel_rfl) rfl (by kernel_rfl) (by kernel_rfl) Tryd.call16 (L_num_Put_walk  p1 w'  z494 hz495) ?_
               rintro e w633 ⟨A635, c636, rfl, hs634⟩
               exact ⟨_, rfl, SP.keeps hs634, _, updO_known hkn, ⟨_, _, rfl, SP.row_of hs634⟩⟩
              ·intro ρ' w' hk hs hah
               obtain ⟨A638, c639, e71, hr640⟩ := hah 3 71 (by kernel_rfl)
               have e69 := hah 1 69 (by kernel_rfl)
               have hkn : Known ρ' [(71, (.slice A638 (List.length z494) c639)), (69, (.bool true))] := ⟨e71, (Eq.trans e69 (congrArg Value.bool hb493)), trivial⟩
               refine Step.known _ hkn ?_
               have hs637 := SP.below hs53 hk
               refine Step.toStr (T := 22) (S' := 9) (E := 5) (x := (.tmp 71)) (A := A638) (c := c639) (l := z494) (d := (some 72)) (k := 4) (by kernel_rfl) rfl (by kernel_rfl) (by kernel_rfl) (by kernel_rfl) (by kernel_rfl) hr640 ?_
               exact ⟨Below.refl _ _, _, updO_known hkn, rfl⟩
              ·exact Owes.pure [(0, (.int .i64 p1)), (69, (.bool true))] ⟨sS (by kernel_rfl) (by kernel_rfl), sB 1 (by kernel_rfl) z7 (by kernel_rfl) hb493, trivial⟩ (.int .i64 p1) (fun _ _ => by kernel_rfl) (fun _ => rfl)
              ·intro ρ' w' hk hs hah
               have e73 := hah 5 73 (by kernel_rfl)
               have e69 := hah 1 69 (by kernel_rfl)
               have hkn : Known ρ' [(73, (.int .i64 p1)), (69, (.bool true))] := ⟨e73, (Eq.trans e69 (congrArg Value.bool hb493)), trivial⟩
               refine Step.known _ hkn ?_
               have hs641 := SP.below hs53 hk
               refine Step.callF (f := 17) (fo := (.func 17)) (xs := #[(.tmp 73)]) (tys := #[2]) (first := #[]) (captured := #[]) (d := (some 74)) (k := 6) (by kernel_rfl) rfl (by kernel_rfl) (by kernel_rfl) Tryd.call17 (L_subwayref01_Put_walk  p1 w'  z500 hz501) ?_
               rintro e w642 ⟨A644, c645, rfl, hs643⟩
               exact ⟨_, rfl, SP.keeps hs643, _, updO_known hkn, ⟨_, _, rfl, SP.row_of hs643⟩⟩
              ·intro ρ' w' hk hs hah
               obtain ⟨A647, c648, e74, hr649⟩ := hah 6 74 (by kernel_rfl)
               have e69 := hah 1 69 (by kernel_rfl)
               have hkn : Known ρ' [(74, (.slice A647 (List.length z500) c648)), (69, (.bool true))] := ⟨e74, (Eq.trans e69 (congrArg Value.bool hb493)), trivial⟩
               refine Step.known _ hkn ?_
               have hs646 := SP.below hs53 hk
               refine Step.toStr (T := 22) (S' := 9) (E := 5) (x := (.tmp 74)) (A := A647) (c := c648) (l := z500) (d := (some 75)) (k := 7) (by kernel_rfl) rfl (by kernel_rfl) (by kernel_rfl) (by kernel_rfl) (by kernel_rfl) hr649 ?_
               exact ⟨Below.refl _ _, _, updO_known hkn, rfl⟩
              ·intro ρ' w' hk hs hah
               have e72 := hah 4 72 (by kernel_rfl)
               have e75 := hah 7 75 (by kernel_rfl)
               have e69 := hah 1 69 (by kernel_rfl)
               have hkn : Known ρ' [(72, (.string ⟨List.toArray z494⟩)), (75, (.string ⟨List.toArray z500⟩)), (69, (.bool true))] := ⟨e72, e75, (Eq.trans e69 (congrArg Value.bool hb493)), trivial⟩
               refine Step.known _ hkn ?_
               have hs650 := SP.below hs53 hk
               refine Step.strOp (op := .eql) (T := 9) (T' := 9) (x := (.tmp 72)) (y := (.tmp 75)) (a := z494) (b := z500) (r := (.bool (z494 == z500))) (d := (some 76)) (k := 8) (by kernel_rfl) rfl (by kernel_rfl) (by kernel_rfl) rfl ?_
               exact ⟨Below.refl _ _, _, updO_known hkn, rfl⟩
              ·exact Owes.pure [(69, (.bool true)), (76, (.bool (z494 == z500)))] ⟨sB 1 (by kernel_rfl) z7 (by kernel_rfl) hb493, sA 8 (by kernel_rfl) (by kernel_rfl), trivial⟩ (.bool (z494 == z500)) (fun _ _ => by kernel_rfl) (fun _ => rfl)
              ·exact Owes.pure [(77, (.bool (z494 == z500)))] ⟨sA 9 (by kernel_rfl) (by kernel_rfl), trivial⟩ (.bool (z494 == z500)) (fun _ _ => by kernel_rfl) (fun _ => rfl)
              ·exact Owes.pure [(8, (.int .i64 z18.1)), (78, (.bool true))] ⟨sS (by kernel_rfl) (by kernel_rfl), sB 10 (by kernel_rfl) (z494 == z500) (by kernel_rfl) hb506, trivial⟩ (.int .i64 z18.1) (fun _ _ => by kernel_rfl) (fun _ => rfl)
              ·exact Owes.pure [(11, (.int .i64 z24.1)), (78, (.bool true))] ⟨sS (by kernel_rfl) (by kernel_rfl), sB 10 (by kernel_rfl) (z494 == z500) (by kernel_rfl) hb506, trivial⟩ (.int .i64 z24.1) (fun _ _ => by kernel_rfl) (fun _ => rfl)
              ·exact Owes.pure [(79, (.int .i64 z18.1)), (80, (.int .i64 z24.1)), (78, (.bool true))] ⟨sA 11 (by kernel_rfl) (by kernel_rfl), sA 12 (by kernel_rfl) (by kernel_rfl), sB 10 (by kernel_rfl) (z494 == z500) (by kernel_rfl) hb506, trivial⟩ (.bool (z18.1 == z24.1)) (fun _ _ => by kernel_rfl) (fun _ => rfl)
              ·exact Owes.pure [(78, (.bool true)), (81, (.bool (z18.1 == z24.1)))] ⟨sB 10 (by kernel_rfl) (z494 == z500) (by kernel_rfl) hb506, sA 13 (by kernel_rfl) (by kernel_rfl), trivial⟩ (.bool (z18.1 == z24.1)) (fun _ _ => by kernel_rfl) (fun _ => rfl)
              ·exact Owes.pure [(82, (.bool (z18.1 == z24.1)))] ⟨sA 14 (by kernel_rfl) (by kernel_rfl), trivial⟩ (.bool (z18.1 == z24.1)) (fun _ _ => by kernel_rfl) (fun _ => rfl)
              ·exact Owes.pure [(9, (.int .i64 z18.2.1)), (83, (.bool true))] ⟨sS (by kernel_rfl) (by kernel_rfl), sB 15 (by kernel_rfl) (z18.1 == z24.1) (by kernel_rfl) hb507, trivial⟩ (.int .i64 z18.2.1) (fun _ _ => by kernel_rfl) (fun _ => rfl)
              ·exact Owes.pure [(12, (.int .i64 z24.2.1)), (83, (.bool true))] ⟨sS (by kernel_rfl) (by kernel_rfl), sB 15 (by kernel_rfl) (z18.1 == z24.1) (by kernel_rfl) hb507, trivial⟩ (.int .i64 z24.2.1) (fun _ _ => by kernel_rfl) (fun _ => rfl)
              ·exact Owes.pure [(84, (.int .i64 z18.2.1)), (85, (.int .i64 z24.2.1)), (83, (.bool true))] ⟨sA 16 (by kernel_rfl) (by kernel_rfl), sA 17 (by kernel_rfl) (by kernel_rfl), sB 15 (by kernel_rfl) (z18.1 == z24.1) (by kernel_rfl) hb507, trivial⟩ (.bool (z18.2.1 == z24.2.1)) (fun _ _ => by kernel_rfl) (fun _ => rfl)
              ·exact Owes.pure [(83, (.bool true)), (86, (.bool (z18.2.1 == z24.2.1)))] ⟨sB 15 (by kernel_rfl) (z18.1 == z24.1) (by kernel_rfl) hb507, sA 18 (by kernel_rfl) (by kernel_rfl), trivial⟩ (.bool (z18.2.1 == z24.2.1)) (fun _ _ => by kernel_rfl) (fun _ => rfl)
              ·exact Owes.pure [(87, (.bool (z18.2.1 == z24.2.1)))] ⟨sA 19 (by kernel_rfl) (by kernel_rfl), trivial⟩ (.bool (z18.2.1 == z24.2.1)) (fun _ _ => by kernel_rfl) (fun _ => rfl)
              ·exact Owes.pure [(10, (.bool z18.2.2)), (88, (.bool true))] ⟨sS (by kernel_rfl) (by kernel_rfl), sB 20 (by kernel_rfl) (z18.2.1 == z24.2.1) (by kernel_rfl) hb508, trivial⟩ (.bool z18.2.2) (fun _ _ => by kernel_rfl) (fun _ => rfl)
              ·exact Owes.pure [(13, (.bool z24.2.2)), (88, (.bool true))] ⟨sS (by kernel_rfl) (by kernel_rfl), sB 20 (by kernel_rfl) (z18.2.1 == z24.2.1) (by kernel_rfl) hb508, trivial⟩ (.bool z24.2.2) (fun _ _ => by kernel_rfl) (fun _ => rfl)
              ·exact Owes.pure [(89, (.bool z18.2.2)), (90, (.bool z24.2.2)), (88, (.bool true))] ⟨sA 21 (by kernel_rfl) (by kernel_rfl), sA 22 (by kernel_rfl) (by kernel_rfl), sB 20 (by kernel_rfl) (z18.2.1 == z24.2.1) (by kernel_rfl) hb508, trivial⟩ (.bool (z18.2.2 == z24.2.2)) (fun _ _ => by kernel_rfl) (fun _ => rfl)
              ·exact Owes.pure [(88, (.bool true)), (91, (.bool (z18.2.2 == z24.2.2)))] ⟨sB 20 (by kernel_rfl) (z18.2.1 == z24.2.1) (by kernel_rfl) hb508, sA 23 (by kernel_rfl) (by kernel_rfl), trivial⟩ (.bool (z18.2.2 == z24.2.2)) (fun _ _ => by kernel_rfl) (fun _ => rfl)
              ·exact Owes.pure [(92, (.bool (z18.2.2 == z24.2.2)))] ⟨sA 24 (by kernel_rfl) (by kernel_rfl), trivial⟩ (.bool (z18.2.2 == z24.2.2)) (fun _ _ => by kernel_rfl) (fun _ => rfl)
              ·exact Owes.pure [(2, (.string ⟨List.toArray p6⟩)), (93, (.bool true))] ⟨sS (by kernel_rfl) (by kernel_rfl), sB 25 (by kernel_rfl) (z18.2.2 == z24.2.2) (by kernel_rfl) hb509, trivial⟩ (.string ⟨List.toArray p6⟩) (fun _ _ => by kernel_rfl) (fun _ => rfl)
              ·intro ρ' w' hk hs hah
               have e94 := hah 26 94 (by kernel_rfl)
               have e93 := hah 25 93 (by kernel_rfl)
               have hkn : Known ρ' [(94, (.string ⟨List.toArray p6⟩)), (93, (.bool true))] := ⟨e94, (Eq.trans e93 (congrArg Value.bool hb509)), trivial⟩
               refine Step.known _ hkn ?_
               have hs651 := SP.below hs53 hk
               refine Step.callF (f := 18) (fo := (.func 18)) (xs := #[(.tmp 94)]) (tys := #[9]) (first := #[]) (captured := #[]) (d := (some 95)) (k := 27) (by kernel_rfl) rfl (by kernel_rfl) (by kernel_rfl) Tryd.call18 (L_num_Text_walk  p6 w'  z510 hz511) ?_
               rintro e w652 ⟨A654, c655, rfl, hs653⟩
               exact ⟨_, rfl, SP.keeps hs653, _, updO_known hkn, ⟨_, _, rfl, SP.row_of hs653⟩⟩
              ·intro ρ' w' hk hs hah
               obtain ⟨A657, c658, e95, hr659⟩ := hah 27 95 (by kernel_rfl)
               have e93 := hah 25 93 (by kernel_rfl)
               have hkn : Known ρ' [(95, (.slice A657 (List.length z510) c658)), (93, (.bool true))] := ⟨e95, (Eq.trans e93 (congrArg Value.bool hb509)), trivial⟩
               refine Step.known _ hkn ?_
               have hs656 := SP.below hs53 hk
               refine Step.toStr (T := 22) (S' := 9) (E := 5) (x := (.tmp 95)) (A := A657) (c := c658) (l := z510) (d := (some 96)) (k := 28) (by kernel_rfl) rfl (by kernel_rfl) (by kernel_rfl) (by kernel_rfl) (by kernel_rfl) hr659 ?_
               exact ⟨Below.refl _ _, _, updO_known hkn, rfl⟩
              ·exact Owes.pure [(2, (.string ⟨List.toArray p6⟩)), (93, (.bool true))] ⟨sS (by kernel_rfl) (by kernel_rfl), sB 25 (by kernel_rfl) (z18.2.2 == z24.2.2) (by kernel_rfl) hb509, trivial⟩ (.string ⟨List.toArray p6⟩) (fun _ _ => by kernel_rfl) (fun _ => rfl)
              ·intro ρ' w' hk hs hah
               have e97 := hah 29 97 (by kernel_rfl)
               have e93 := hah 25 93 (by kernel_rfl)
               have hkn : Known ρ' [(97, (.string ⟨List.toArray p6⟩)), (93, (.bool true))] := ⟨e97, (Eq.trans e93 (congrArg Value.bool hb509)), trivial⟩
               refine Step.known _ hkn ?_
               have hs660 := SP.below hs53 hk
               refine Step.callF (f := 19) (fo := (.func 19)) (xs := #[(.tmp 97)]) (tys := #[9]) (first := #[]) (captured := #[]) (d := (some 98)) (k := 30) (by kernel_rfl) rfl (by kernel_rfl) (by kernel_rfl) Tryd.call19 (L_subwayref01_Text_walk  p6 w'  z516 hz517) ?_
               rintro e w661 ⟨A663, c664, rfl, hs662⟩
               exact ⟨_, rfl, SP.keeps hs662, _, updO_known hkn, ⟨_, _, rfl, SP.row_of hs662⟩⟩
              ·intro ρ' w' hk hs hah
               obtain ⟨A666, c667, e98, hr668⟩ := hah 30 98 (by kernel_rfl)
               have e93 := hah 25 93 (by kernel_rfl)
               have hkn : Known ρ' [(98, (.slice A666 (List.length z516) c667)), (93, (.bool true))] := ⟨e98, (Eq.trans e93 (congrArg Value.bool hb509)), trivial⟩
               refine Step.known _ hkn ?_
               have hs665 := SP.below hs53 hk
               refine Step.toStr (T := 22) (S' := 9) (E := 5) (x := (.tmp 98)) (A := A666) (c := c667) (l := z516) (d := (some 99)) (k := 31) (by kernel_rfl) rfl (by kernel_rfl) (by kernel_rfl) (by kernel_rfl) (by kernel_rfl) hr668 ?_
               exact ⟨Below.refl _ _, _, updO_known hkn, rfl⟩
              ·intro ρ' w' hk hs hah
               have e96 := hah 28 96 (by kernel_rfl)
               have e99 := hah 31 99 (by kernel_rfl)
               have e93 := hah 25 93 (by kernel_rfl)
               have hkn : Known ρ' [(96, (.string ⟨List.toArray z510⟩)), (99, (.string ⟨List.toArray z516⟩)), (93, (.bool true))] := ⟨e96, e99, (Eq.trans e93 (congrArg Value.bool hb509)), trivial⟩
               refine Step.known _ hkn ?_
               have hs669 := SP.below hs53 hk
               refine Step.strOp (op := .eql) (T := 9) (T' := 9) (x := (.tmp 96)) (y := (.tmp 99)) (a := z510) (b := z516) (r := (.bool (z510 == z516))) (d := (some 100)) (k := 32) (by kernel_rfl) rfl (by kernel_rfl) (by kernel_rfl) rfl ?_
               exact ⟨Below.refl _ _, _, updO_known hkn, rfl⟩
              ·exact Owes.pure [(93, (.bool true)), (100, (.bool (z510 == z516)))] ⟨sB 25 (by kernel_rfl) (z18.2.2 == z24.2.2) (by kernel_rfl) hb509, sA 32 (by kernel_rfl) (by kernel_rfl), trivial⟩ (.bool (z510 == z516)) (fun _ _ => by kernel_rfl) (fun _ => rfl)
              ·exact Owes.pure [(101, (.bool (z510 == z516)))] ⟨sA 33 (by kernel_rfl) (by kernel_rfl), trivial⟩ (.bool (z510 == z516)) (fun _ _ => by kernel_rfl) (fun _ => rfl)
              ·exact Owes.pure [(14, (.string ⟨List.toArray z30.1⟩)), (102, (.bool true))] ⟨sS (by kernel_rfl) (by kernel_rfl), sB 34 (by kernel_rfl) (z510 == z516) (by kernel_rfl) hb522, trivial⟩ (.string ⟨List.toArray z30.1⟩) (fun _ _ => by kernel_rfl) (fun _ => rfl)
              ·exact Owes.pure [(17, (.string ⟨List.toArray z36.1⟩)), (102, (.bool true))] ⟨sS (by kernel_rfl) (by kernel_rfl), sB 34 (by kernel_rfl) (z510 == z516) (by kernel_rfl) hb522, trivial⟩ (.string ⟨List.toArray z36.1⟩) (fun _ _ => by kernel_rfl) (fun _ => rfl)
              ·intro ρ' w' hk hs hah
               have e103 := hah 35 103 (by kernel_rfl)
               have e104 := hah 36 104 (by kernel_rfl)
               have e102 := hah 34 102 (by kernel_rfl)
               have hkn : Known ρ' [(103, (.string ⟨List.toArray z30.1⟩)), (104, (.string ⟨List.toArray z36.1⟩)), (102, (.bool true))] := ⟨e103, e104, (Eq.trans e102 (congrArg Value.bool hb522)), trivial⟩
               refine Step.known _ hkn ?_
               have hs670 := SP.below hs53 hk
               refine Step.strOp (op := .eql) (T := 9) (T' := 9) (x := (.tmp 103)) (y := (.tmp 104)) (a := z30.1) (b := z36.1) (r := (.bool (z30.1 == z36.1))) (d := (some 105)) (k := 37) (by kernel_rfl) rfl (by kernel_rfl) (by kernel_rfl) rfl ?_
               exact ⟨Below.refl _ _, _, updO_known hkn, rfl⟩
              ·exact Owes.pure [(102, (.bool true)), (105, (.bool (z30.1 == z36.1)))] ⟨sB 34 (by kernel_rfl) (z510 == z516) (by kernel_rfl) hb522, sA 37 (by kernel_rfl) (by kernel_rfl), trivial⟩ (.bool (z30.1 == z36.1)) (fun _ _ => by kernel_rfl) (fun _ => rfl)
              ·exact Owes.pure [(106, (.bool (z30.1 == z36.1)))] ⟨sA 38 (by kernel_rfl) (by kernel_rfl), trivial⟩ (.bool (z30.1 == z36.1)) (fun _ _ => by kernel_rfl) (fun _ => rfl)
              ·exact Owes.pure [(15, (.int .i64 z30.2.1)), (107, (.bool true))] ⟨sS (by kernel_rfl) (by kernel_rfl), sB 39 (by kernel_rfl) (z30.1 == z36.1) (by kernel_rfl) hb523, trivial⟩ (.int .i64 z30.2.1) (fun _ _ => by kernel_rfl) (fun _ => rfl)
              ·exact Owes.pure [(18, (.int .i64 z36.2.1)), (107, (.bool true))] ⟨sS (by kernel_rfl) (by kernel_rfl), sB 39 (by kernel_rfl) (z30.1 == z36.1) (by kernel_rfl) hb523, trivial⟩ (.int .i64 z36.2.1) (fun _ _ => by kernel_rfl) (fun _ => rfl)
              ·exact Owes.pure [(108, (.int .i64 z30.2.1)), (109, (.int .i64 z36.2.1)), (107, (.bool true))] ⟨sA 40 (by kernel_rfl) (by kernel_rfl), sA 41 (by kernel_rfl) (by kernel_rfl), sB 39 (by kernel_rfl) (z30.1 == z36.1) (by kernel_rfl) hb523, trivial⟩ (.bool (z30.2.1 == z36.2.1)) (fun _ _ => by kernel_rfl) (fun _ => rfl)
              ·exact Owes.pure [(107, (.bool true)), (110, (.bool (z30.2.1 == z36.2.1)))] ⟨sB 39 (by kernel_rfl) (z30.1 == z36.1) (by kernel_rfl) hb523, sA 42 (by kernel_rfl) (by kernel_rfl), trivial⟩ (.bool (z30.2.1 == z36.2.1)) (fun _ _ => by kernel_rfl) (fun _ => rfl)
              ·exact Owes.pure [(111, (.bool (z30.2.1 == z36.2.1)))] ⟨sA 43 (by kernel_rfl) (by kernel_rfl), trivial⟩ (.bool (z30.2.1 == z36.2.1)) (fun _ _ => by kernel_rfl) (fun _ => rfl)
              ·exact Owes.pure [(16, (.bool z30.2.2)), (112, (.bool true))] ⟨sS (by kernel_rfl) (by kernel_rfl), sB 44 (by kernel_rfl) (z30.2.1 == z36.2.1) (by kernel_rfl) hb524, trivial⟩ (.bool z30.2.2) (fun _ _ => by kernel_rfl) (fun _ => rfl)
              ·exact Owes.pure [(19, (.bool z36.2.2)), (112, (.bool true))] ⟨sS (by kernel_rfl) (by kernel_rfl), sB 44 (by kernel_rfl) (z30.2.1 == z36.2.1) (by kernel_rfl) hb524, trivial⟩ (.bool z36.2.2) (fun _ _ => by kernel_rfl) (fun _ => rfl)
              ·exact Owes.pure [(113, (.bool z30.2.2)), (114, (.bool z36.2.2)), (112, (.bool true))] ⟨sA 45 (by kernel_rfl) (by kernel_rfl), sA 46 (by kernel_rfl) (by kernel_rfl), sB 44 (by kernel_rfl) (z30.2.1 == z36.2.1) (by kernel_rfl) hb524, trivial⟩ (.bool (z30.2.2 == z36.2.2)) (fun _ _ => by kernel_rfl) (fun _ => rfl)
              ·exact Owes.pure [(112, (.bool true)), (115, (.bool (z30.2.2 == z36.2.2)))] ⟨sB 44 (by kernel_rfl) (z30.2.1 == z36.2.1) (by kernel_rfl) hb524, sA 47 (by kernel_rfl) (by kernel_rfl), trivial⟩ (.bool (z30.2.2 == z36.2.2)) (fun _ _ => by kernel_rfl) (fun _ => rfl)
              ·exact Owes.pure [(116, (.bool (z30.2.2 == z36.2.2)))] ⟨sA 48 (by kernel_rfl) (by kernel_rfl), trivial⟩ (.bool (z30.2.2 == z36.2.2)) (fun _ _ => by kernel_rfl) (fun _ => rfl)
              ·exact Owes.pure [(0, (.int .i64 p1)), (117, (.bool true))] ⟨sS (by kernel_rfl) (by kernel_rfl), sB 49 (by kernel_rfl) (z30.2.2 == z36.2.2) (by kernel_rfl) hb525, trivial⟩ (.int .i64 p1) (fun _ _ => by kernel_rfl) (fun _ => rfl)
              ·intro ρ' w' hk hs hah
               have e118 := hah 50 118 (by kernel_rfl)
               have e117 := hah 49 117 (by kernel_rfl)
               have hkn : Known ρ' [(118, (.int .i64 p1)), (117, (.bool true))] := ⟨e118, (Eq.trans e117 (congrArg Value.bool hb525)), trivial⟩
               refine Step.known _ hkn ?_
               have hs671 := SP.below hs53 hk
               refine Step.callF (f := 20) (fo := (.func 20)) (xs := #[(.tmp 118)]) (tys := #[2]) (first := #[]) (captured := #[]) (d := (some 119)) (k := 51) (by kernel_rfl) rfl (by kernel_rfl) (by kernel_rfl) Tryd.call20 (L_num_Decimal_walk  p1 w' (laid_below hL (SP.keeps hs671)) z526 hz527) ?_
               rintro e w672 ⟨rfl, hs673⟩
               exact ⟨_, rfl, SP.keeps hs673, _, updO_known hkn, rfl⟩
              ·exact Owes.pure [(0, (.int .i64 p1)), (117, (.bool true))] ⟨sS (by kernel_rfl) (by kernel_rfl), sB 49 (by kernel_rfl) (z30.2.2 == z36.2.2) (by kernel_rfl) hb525, trivial⟩ (.int .i64 p1) (fun _ _ => by kernel_rfl) (fun _ => rfl)
              ·intro ρ' w' hk hs hah
               have e120 := hah 52 120 (by kernel_rfl)
               have e117 := hah 49 117 (by kernel_rfl)
               have hkn : Known ρ' [(120, (.int .i64 p1)), (117, (.bool true))] := ⟨e120, (Eq.trans e117 (congrArg Value.bool hb525)), trivial⟩
               refine Step.known _ hkn ?_
               have hs674 := SP.below hs53 hk
               refine Step.callF (f := 21) (fo := (.func 21)) (xs := #[(.tmp 120)]) (tys := #[2]) (first := #[]) (captured := #[]) (d := (some 121)) (k := 53) (by kernel_rfl) rfl (by kernel_rfl) (by kernel_rfl) Tryd.call21 (L_subwayref01_Decimal_walk  p1 w'  z530 hz531) ?_
               rintro e w675 ⟨rfl, hs676⟩
               exact ⟨_, rfl, SP.keeps hs676, _, updO_known hkn, rfl⟩
              ·intro ρ' w' hk hs hah
               have e119 := hah 51 119 (by kernel_rfl)
               have e121 := hah 53 121 (by kernel_rfl)
               have e117 := hah 49 117 (by kernel_rfl)
               have hkn : Known ρ' [(119, (.string ⟨List.toArray z526⟩)), (121, (.string ⟨List.toArray z530⟩)), (117, (.bool true))] := ⟨e119, e121, (Eq.trans e117 (congrArg Value.bool hb525)), trivial⟩
               refine Step.known _ hkn ?_
               have hs677 := SP.below hs53 hk
               refine Step.strOp (op := .eql) (T := 9) (T' := 9) (x := (.tmp 119)) (y := (.tmp 121)) (a := z526) (b := z530) (r := (.bool (z526 == z530))) (d := (some 122)) (k := 54) (by kernel_rfl) rfl (by kernel_rfl) (by kernel_rfl) rfl ?_
               exact ⟨Below.refl _ _, _, updO_known hkn, rfl⟩
              ·exact Owes.pure [(117, (.bool true)), (122, (.bool (z526 == z530)))] ⟨sB 49 (by kernel_rfl) (z30.2.2 == z36.2.2) (by kernel_rfl) hb525, sA 54 (by kernel_rfl) (by kernel_rfl), trivial⟩ (.bool (z526 == z530)) (fun _ _ => by kernel_rfl) (fun _ => rfl)
              ·exact Owes.pure [(123, (.bool (z526 == z530)))] ⟨sA 55 (by kernel_rfl) (by kernel_rfl), trivial⟩ (.bool (z526 == z530)) (fun _ _ => by kernel_rfl) (fun _ => rfl)
              ·exact Owes.skip [(124, (.bool false))] ⟨sB 56 (by kernel_rfl) (z526 == z530) (by kernel_rfl) hb534, trivial⟩ (some 125) (fun _ => by kernel_rfl) (by kernel_rfl) (fun _ => rfl)
              ·exact Owes.skip [(124, (.bool false))] ⟨sB 56 (by kernel_rfl) (z526 == z530) (by kernel_rfl) hb534, trivial⟩ (some 126) (fun _ => by kernel_rfl) (by kernel_rfl) (fun _ => rfl)
              ·exact Owes.skip [(124, (.bool false))] ⟨sB 56 (by kernel_rfl) (z526 == z530) (by kernel_rfl) hb534, trivial⟩ (some 127) (fun _ => by kernel_rfl) (by kernel_rfl) (fun _ => rfl)
              ·exact Owes.pure [(124, (.bool false)), (127, undef)] ⟨sB 56 (by kernel_rfl) (z526 == z530) (by kernel_rfl) hb534, sA 59 (by kernel_rfl) (by kernel_rfl), trivial⟩ (.bool false) (fun _ _ => by kernel_rfl) (fun _ => rfl)
              ·exact Owes.pure [(128, (.bool false))] ⟨sA 60 (by kernel_rfl) (by kernel_rfl), trivial⟩ (.bool false) (fun _ _ => by kernel_rfl) (fun _ => rfl)
              ·exact Owes.skip [(129, (.bool false))] ⟨sA 61 (by kernel_rfl) (by kernel_rfl), trivial⟩ (some 130) (fun _ => by kernel_rfl) (by kernel_rfl) (fun _ => rfl)
              ·exact Owes.skip [(129, (.bool false))] ⟨sA 61 (by kernel_rfl) (by kernel_rfl), trivial⟩ (some 131) (fun _ => by kernel_rfl) (by kernel_rfl) (fun _ => rfl)
              ·exact Owes.skip [(129, (.bool false))] ⟨sA 61 (by kernel_rfl) (by kernel_rfl), trivial⟩ (some 132) (fun _ => by kernel_rfl) (by kernel_rfl) (fun _ => rfl)
              ·exact Owes.pure [(129, (.bool false)), (132, undef)] ⟨sA 61 (by kernel_rfl) (by kernel_rfl), sA 64 (by kernel_rfl) (by kernel_rfl), trivial⟩ (.bool false) (fun _ _ => by kernel_rfl) (fun _ => rfl)
              ·exact Owes.pure [(133, (.bool false))] ⟨sA 65 (by kernel_rfl) (by kernel_rfl), trivial⟩ (.bool false) (fun _ _ => by kernel_rfl) (fun _ => rfl)
              ·intro ρ' w' hk hs hf
               have hs679 := SP.below hs53 hk
               obtain ⟨w678, hww678⟩ : ∃ x, w' = x := ⟨_, rfl⟩
               subst hww678
               have e6 := hf 66 6 (by kernel_rfl)
               refine postKnown [(6, (.bool false))] ⟨e6, trivial⟩ ?_
               exact ⟨false, ⟨(by kernel_rfl), trivial⟩, SP.sel hs679 [] rfl rfl, H⟩
            ·have H := cf H hb525
             refine At.draw (by kernel_rfl) (by kernel_rfl) (by kernel_rfl) (by kernel_rfl) (by kernel_rfl) [FEq (.bool z7), FEq (.bool z7), FEq (.int .i64 p1), FRow eU8 z494, FEq (.string ⟨List.toArray z494⟩), FEq (.int .i64 p1), FRow eU8 z500, FEq (.string ⟨List.toArray z500⟩), FEq (.bool (z494 == z500)), FEq (.bool (z494 == z500)), FEq (.bool (z494 == z500)), FEq (.int .i64 z18.1), FEq (.int .i64 z24.1), FEq (.bool (z18.1 == z24.1)), FEq (.bool (z18.1 == z24.1)), FEq (.bool (z18.1 == z24.1)), FEq (.int .i64 z18.2.1), FEq (.int .i64 z24.2.1), FEq (.bool (z18.2.1 == z24.2.1)), FEq (.bool (z18.2.1 == z24.2.1)), FEq (.bool (z18.2.1 == z24.2.1)), FEq (.bool z18.2.2), FEq (.bool z24.2.2), FEq (.bool (z18.2.2 == z24.2.2)), FEq (.bool (z18.2.2 == z24.2.2)), FEq (.bool (z18.2.2 == z24.2.2)), FEq (.string ⟨List.toArray p6⟩), FRow eU8 z510, FEq (.string ⟨List.toArray z510⟩), FEq (.string ⟨List.toArray p6⟩), FRow eU8 z516, FEq (.string ⟨List.toArray z516⟩), FEq (.bool (z510 == z516)), FEq (.bool (z510 == z516)), FEq (.bool (z510 == z516)), FEq (.string ⟨List.toArray z30.1⟩), FEq (.string ⟨List.toArray z36.1⟩), FEq (.bool (z30.1 == z36.1)), FEq (.bool (z30.1 == z36.1)), FEq (.bool (z30.1 == z36.1)), FEq (.int .i64 z30.2.1), FEq (.int .i64 z36.2.1), FEq (.bool (z30.2.1 == z36.2.1)), FEq (.bool (z30.2.1 == z36.2.1)), FEq (.bool (z30.2.1 == z36.2.1)), FEq (.bool z30.2.2), FEq (.bool z36.2.2), FEq (.bool (z30.2.2 == z36.2.2)), FEq (.bool (z30.2.2 == z36.2.2)), FEq (.bool (z30.2.2 == z36.2.2)), FEq undef, FEq undef, FEq undef, FEq undef, FEq undef, FEq (.bool false), FEq (.bool false), FEq undef, FEq undef, FEq undef, FEq (.bool false), FEq (.bool false), FEq undef, FEq undef, FEq undef, FEq (.bool false), FEq (.bool false)] ⟨mono_eq _, mono_eq _, mono_eq _, mono_row _ _, mono_eq _, mono_eq _, mono_row _ _, mono_eq _, mono_eq _, mono_eq _, mono_eq _, mono_eq _, mono_eq _, mono_eq _, mono_eq _, mono_eq _, mono_eq _, mono_eq _, mono_eq _, mono_eq _, mono_eq _, mono_eq _, mono_eq _, mono_eq _, mono_eq _, mono_eq _, mono_eq _, mono_row _ _, mono_eq _, mono_eq _, mono_row _ _, mono_eq _, mono_eq _, mono_eq _, mono_eq _, mono_eq _, mono_eq _, mono_eq _, mono_eq _, mono_eq _, mono_eq _, mono_eq _, mono_eq _, mono_eq _, mono_eq _, mono_eq _, mono_eq _, mono_eq _, mono_eq _, mono_eq _, mono_eq _, mono_eq _, mono_eq _, mono_eq _, mono_eq _, mono_eq _, mono_eq _, mono_eq _, mono_eq _, mono_eq _, mono_eq _, mono_eq _, mono_eq _, mono_eq _, mono_eq _, mono_eq _, mono_eq _, trivial⟩ (N := 67) (by kernel_rfl) ⟨⟨⟨⟨⟨⟨⟨⟨⟨⟨⟨⟨⟨⟨⟨⟨⟨⟨⟨⟨⟨⟨⟨⟨⟨⟨⟨⟨⟨⟨⟨⟨⟨⟨⟨⟨⟨⟨⟨⟨⟨⟨⟨⟨⟨⟨⟨⟨⟨⟨⟨⟨⟨⟨⟨⟨⟨⟨⟨⟨⟨⟨⟨⟨⟨⟨⟨trivial, ?_⟩, ?_⟩, ?_⟩, ?_⟩, ?_⟩, ?_⟩, ?_⟩, ?_⟩, ?_⟩, ?_⟩, ?_⟩, ?_⟩, ?_⟩, ?_⟩, ?_⟩, ?_⟩, ?_⟩, ?_⟩, ?_⟩, ?_⟩, ?_⟩, ?_⟩, ?_⟩, ?_⟩, ?_⟩, ?_⟩, ?_⟩, ?_⟩, ?_⟩, ?_⟩, ?_⟩, ?_⟩, ?_⟩, ?_⟩, ?_⟩, ?_⟩, ?_⟩, ?_⟩, ?_⟩, ?_⟩, ?_⟩, ?_⟩, ?_⟩, ?_⟩, ?_⟩, ?_⟩, ?_⟩, ?_⟩, ?_⟩, ?_⟩, ?_⟩, ?_⟩, ?_⟩, ?_⟩, ?_⟩, ?_⟩, ?_⟩, ?_⟩, ?_⟩, ?_⟩, ?_⟩, ?_⟩, ?_⟩, ?_⟩, ?_⟩, ?_⟩, ?_⟩ ?_
             ·exact Owes.pure [(7, (.bool z7))] ⟨sS (by kernel_rfl) (by kernel_rfl), trivial⟩ (.bool z7) (fun _ _ => by kernel_rfl) (fun _ => rfl)
             ·exact Owes.pure [(68, (.bool z7))] ⟨sA 0 (by kernel_rfl) (by kernel_rfl), trivial⟩ (.bool z7) (fun _ _ => by kernel_rfl) (fun _ => rfl)
             ·exact Owes.pure [(0, (.int .i64 p1)), (69, (.bool true))] ⟨sS (by kernel_rfl) (by kernel_rfl), sB 1 (by kernel_rfl) z7 (by kernel_rfl) hb493, trivial⟩ (.int .i64 p1) (fun _ _ => by kernel_rfl) (fun _ => rfl)
             ·intro ρ' w' hk hs hah
              have e70 := hah 2 70 (by kernel_rfl)
              have e69 := hah 1 69 (by kernel_rfl)
              have hkn : Known ρ' [(70, (.int .i64 p1)), (69, (.bool true))] := ⟨e70, (Eq.trans e69 (congrArg Value.bool hb493)), trivial⟩
              refine Step.known _ hkn ?_
              have hs680 := SP.below hs53 hk
              refine Step.callF (f := 16) (fo := (.func 16)) (xs := #[(.tmp 70)]) (tys := #[2]) (first := #[]) (captured := #[]) (d := (some 71)) (k := 3) (by kernel_rfl) rfl (by kernel_rfl) (by kernel_rfl) Tryd.call16 (L_num_Put_walk  p1 w'  z494 hz495) ?_
              rintro e w681 ⟨A683, c684, rfl, hs682⟩
              exact ⟨_, rfl, SP.keeps hs682, _, updO_known hkn, ⟨_, _, rfl, SP.row_of hs682⟩⟩
             ·intro ρ' w' hk hs hah
              obtain ⟨A686, c687, e71, hr688⟩ := hah 3 71 (by kernel_rfl)
              have e69 := hah 1 69 (by kernel_rfl)
              have hkn : Known ρ' [(71, (.slice A686 (List.length z494) c687)), (69, (.bool true))] := ⟨e71, (Eq.trans e69 (congrArg Value.bool hb493)), trivial⟩
              refine Step.known _ hkn ?_
              have hs685 := SP.below hs53 hk
              refine Step.toStr (T := 22) (S' := 9) (E := 5) (x := (.tmp 71)) (A := A686) (c := c687) (l := z494) (d := (some 72)) (k := 4) (by kernel_rfl) rfl (by kernel_rfl) (by kernel_rfl) (by kernel_rfl) (by kernel_rfl) hr688 ?_
              exact ⟨Below.refl _ _, _, updO_known hkn, rfl⟩
             ·exact Owes.pure [(0, (.int .i64 p1)), (69, (.bool true))] ⟨sS (by kernel_rfl) (by kernel_rfl), sB 1 (by kernel_rfl) z7 (by kernel_rfl) hb493, trivial⟩ (.int .i64 p1) (fun _ _ => by kernel_rfl) (fun _ => rfl)
             ·intro ρ' w' hk hs hah
              have e73 := hah 5 73 (by kernel_rfl)
              have e69 := hah 1 69 (by kernel_rfl)
              have hkn : Known ρ' [(73, (.int .i64 p1)), (69, (.bool true))] := ⟨e73, (Eq.trans e69 (congrArg Value.bool hb493)), trivial⟩
              refine Step.known _ hkn ?_
              have hs689 := SP.below hs53 hk
              refine Step.callF (f := 17) (fo := (.func 17)) (xs := #[(.tmp 73)]) (tys := #[2]) (first := #[]) (captured := #[]) (d := (some 74)) (k := 6) (by kernel_rfl) rfl (by kernel_rfl) (by kernel_rfl) Tryd.call17 (L_subwayref01_Put_walk  p1 w'  z500 hz501) ?_
              rintro e w690 ⟨A692, c693, rfl, hs691⟩
              exact ⟨_, rfl, SP.keeps hs691, _, updO_known hkn, ⟨_, _, rfl, SP.row_of hs691⟩⟩
             ·intro ρ' w' hk hs hah
              obtain ⟨A695, c696, e74, hr697⟩ := hah 6 74 (by kernel_rfl)
              have e69 := hah 1 69 (by kernel_rfl)
              have hkn : Known ρ' [(74, (.slice A695 (List.length z500) c696)), (69, (.bool true))] := ⟨e74, (Eq.trans e69 (congrArg Value.bool hb493)), trivial⟩
              refine Step.known _ hkn ?_
              have hs694 := SP.below hs53 hk
              refine Step.toStr (T := 22) (S' := 9) (E := 5) (x := (.tmp 74)) (A := A695) (c := c696) (l := z500) (d := (some 75)) (k := 7) (by kernel_rfl) rfl (by kernel_rfl) (by kernel_rfl) (by kernel_rfl) (by kernel_rfl) hr697 ?_
              exact ⟨Below.refl _ _, _, updO_known hkn, rfl⟩
             ·intro ρ' w' hk hs hah
              have e72 := hah 4 72 (by kernel_rfl)
              have e75 := hah 7 75 (by kernel_rfl)
              have e69 := hah 1 69 (by kernel_rfl)
              have hkn : Known ρ' [(72, (.string ⟨List.toArray z494⟩)), (75, (.string ⟨List.toArray z500⟩)), (69, (.bool true))] := ⟨e72, e75, (Eq.trans e69 (congrArg Value.bool hb493)), trivial⟩
              refine Step.known _ hkn ?_
              have hs698 := SP.below hs53 hk
              refine Step.strOp (op := .eql) (T := 9) (T' := 9) (x := (.tmp 72)) (y := (.tmp 75)) (a := z494) (b := z500) (r := (.bool (z494 == z500))) (d := (some 76)) (k := 8) (by kernel_rfl) rfl (by kernel_rfl) (by kernel_rfl) rfl ?_
              exact ⟨Below.refl _ _, _, updO_known hkn, rfl⟩
             ·exact Owes.pure [(69, (.bool true)), (76, (.bool (z494 == z500)))] ⟨sB 1 (by kernel_rfl) z7 (by kernel_rfl) hb493, sA 8 (by kernel_rfl) (by kernel_rfl), trivial⟩ (.bool (z494 == z500)) (fun _ _ => by kernel_rfl) (fun _ => rfl)
             ·exact Owes.pure [(77, (.bool (z494 == z500)))] ⟨sA 9 (by kernel_rfl) (by kernel_rfl), trivial⟩ (.bool (z494 == z500)) (fun _ _ => by kernel_rfl) (fun _ => rfl)
             ·exact Owes.pure [(8, (.int .i64 z18.1)), (78, (.bool true))] ⟨sS (by kernel_rfl) (by kernel_rfl), sB 10 (by kernel_rfl) (z494 == z500) (by kernel_rfl) hb506, trivial⟩ (.int .i64 z18.1) (fun _ _ => by kernel_rfl) (fun _ => rfl)
             ·exact Owes.pure [(11, (.int .i64 z24.1)), (78, (.bool true))] ⟨sS (by kernel_rfl) (by kernel_rfl), sB 10 (by kernel_rfl) (z494 == z500) (by kernel_rfl) hb506, trivial⟩ (.int .i64 z24.1) (fun _ _ => by kernel_rfl) (fun _ => rfl)
             ·exact Owes.pure [(79, (.int .i64 z18.1)), (80, (.int .i64 z24.1)), (78, (.bool true))] ⟨sA 11 (by kernel_rfl) (by kernel_rfl), sA 12 (by kernel_rfl) (by kernel_rfl), sB 10 (by kernel_rfl) (z494 == z500) (by kernel_rfl) hb506, trivial⟩ (.bool (z18.1 == z24.1)) (fun _ _ => by kernel_rfl) (fun _ => rfl)
             ·exact Owes.pure [(78, (.bool true)), (81, (.bool (z18.1 == z24.1)))] ⟨sB 10 (by kernel_rfl) (z494 == z500) (by kernel_rfl) hb506, sA 13 (by kernel_rfl) (by kernel_rfl), trivial⟩ (.bool (z18.1 == z24.1)) (fun _ _ => by kernel_rfl) (fun _ => rfl)
             ·exact Owes.pure [(82, (.bool (z18.1 == z24.1)))] ⟨sA 14 (by kernel_rfl) (by kernel_rfl), trivial⟩ (.bool (z18.1 == z24.1)) (fun _ _ => by kernel_rfl) (fun _ => rfl)
             ·exact Owes.pure [(9, (.int .i64 z18.2.1)), (83, (.bool true))] ⟨sS (by kernel_rfl) (by kernel_rfl), sB 15 (by kernel_rfl) (z18.1 == z24.1) (by kernel_rfl) hb507, trivial⟩ (.int .i64 z18.2.1) (fun _ _ => by kernel_rfl) (fun _ => rfl)
             ·exact Owes.pure [(12, (.int .i64 z24.2.1)), (83, (.bool true))] ⟨sS (by kernel_rfl) (by kernel_rfl), sB 15 (by kernel_rfl) (z18.1 == z24.1) (by kernel_rfl) hb507, trivial⟩ (.int .i64 z24.2.1) (fun _ _ => by kernel_rfl) (fun _ => rfl)
             ·exact Owes.pure [(84, (.int .i64 z18.2.1)), (85, (.int .i64 z24.2.1)), (83, (.bool true))] ⟨sA 16 (by kernel_rfl) (by kernel_rfl), sA 17 (by kernel_rfl) (by kernel_rfl), sB 15 (by kernel_rfl) (z18.1 == z24.1) (by kernel_rfl) hb507, trivial⟩ (.bool (z18.2.1 == z24.2.1)) (fun _ _ => by kernel_rfl) (fun _ => rfl)
             ·exact Owes.pure [(83, (.bool true)), (86, (.bool (z18.2.1 == z24.2.1)))] ⟨sB 15 (by kernel_rfl) (z18.1 == z24.1) (by kernel_rfl) hb507, sA 18 (by kernel_rfl) (by kernel_rfl), trivial⟩ (.bool (z18.2.1 == z24.2.1)) (fun _ _ => by kernel_rfl) (fun _ => rfl)
             ·exact Owes.pure [(87, (.bool (z18.2.1 == z24.2.1)))] ⟨sA 19 (by kernel_rfl) (by kernel_rfl), trivial⟩ (.bool (z18.2.1 == z24.2.1)) (fun _ _ => by kernel_rfl) (fun _ => rfl)
             ·exact Owes.pure [(10, (.bool z18.2.2)), (88, (.bool true))] ⟨sS (by kernel_rfl) (by kernel_rfl), sB 20 (by kernel_rfl) (z18.2.1 == z24.2.1) (by kernel_rfl) hb508, trivial⟩ (.bool z18.2.2) (fun _ _ => by kernel_rfl) (fun _ => rfl)
             ·exact Owes.pure [(13, (.bool z24.2.2)), (88, (.bool true))] ⟨sS (by kernel_rfl) (by kernel_rfl), sB 20 (by kernel_rfl) (z18.2.1 == z24.2.1) (by kernel_rfl) hb508, trivial⟩ (.bool z24.2.2) (fun _ _ => by kernel_rfl) (fun _ => rfl)
             ·exact Owes.pure [(89, (.bool z18.2.2)), (90, (.bool z24.2.2)), (88, (.bool true))] ⟨sA 21 (by kernel_rfl) (by kernel_rfl), sA 22 (by kernel_rfl) (by kernel_rfl), sB 20 (by kernel_rfl) (z18.2.1 == z24.2.1) (by kernel_rfl) hb508, trivial⟩ (.bool (z18.2.2 == z24.2.2)) (fun _ _ => by kernel_rfl) (fun _ => rfl)
             ·exact Owes.pure [(88, (.bool true)), (91, (.bool (z18.2.2 == z24.2.2)))] ⟨sB 20 (by kernel_rfl) (z18.2.1 == z24.2.1) (by kernel_rfl) hb508, sA 23 (by kernel_rfl) (by kernel_rfl), trivial⟩ (.bool (z18.2.2 == z24.2.2)) (fun _ _ => by kernel_rfl) (fun _ => rfl)
             ·exact Owes.pure [(92, (.bool (z18.2.2 == z24.2.2)))] ⟨sA 24 (by kernel_rfl) (by kernel_rfl), trivial⟩ (.bool (z18.2.2 == z24.2.2)) (fun _ _ => by kernel_rfl) (fun _ => rfl)
             ·exact Owes.pure [(2, (.string ⟨List.toArray p6⟩)), (93, (.bool true))] ⟨sS (by kernel_rfl) (by kernel_rfl), sB 25 (by kernel_rfl) (z18.2.2 == z24.2.2) (by kernel_rfl) hb509, trivial⟩ (.string ⟨List.toArray p6⟩) (fun _ _ => by kernel_rfl) (fun _ => rfl)
             ·intro ρ' w' hk hs hah
              have e94 := hah 26 94 (by kernel_rfl)
              have e93 := hah 25 93 (by kernel_rfl)
              have hkn : Known ρ' [(94, (.string ⟨List.toArray p6⟩)), (93, (.bool true))] := ⟨e94, (Eq.trans e93 (congrArg Value.bool hb509)), trivial⟩
              refine Step.known _ hkn ?_
              have hs699 := SP.below hs53 hk
              refine Step.callF (f := 18) (fo := (.func 18)) (xs := #[(.tmp 94)]) (tys := #[9]) (first := #[]) (captured := #[]) (d := (some 95)) (k := 27) (by kernel_rfl) rfl (by kernel_rfl) (by kernel_rfl) Tryd.call18 (L_num_Text_walk  p6 w'  z510 hz511) ?_
              rintro e w700 ⟨A702, c703, rfl, hs701⟩
              exact ⟨_, rfl, SP.keeps hs701, _, updO_known hkn, ⟨_, _, rfl, SP.row_of hs701⟩⟩
             ·intro ρ' w' hk hs hah
              obtain ⟨A705, c706, e95, hr707⟩ := hah 27 95 (by kernel_rfl)
              have e93 := hah 25 93 (by kernel_rfl)
              have hkn : Known ρ' [(95, (.slice A705 (List.length z510) c706)), (93, (.bool true))] := ⟨e95, (Eq.trans e93 (congrArg Value.bool hb509)), trivial⟩
              refine Step.known _ hkn ?_
              have hs704 := SP.below hs53 hk
              refine Step.toStr (T := 22) (S' := 9) (E := 5) (x := (.tmp 95)) (A := A705) (c := c706) (l := z510) (d := (some 96)) (k := 28) (by kernel_rfl) rfl (by kernel_rfl) (by kernel_rfl) (by kernel_rfl) (by kernel_rfl) hr707 ?_
              exact ⟨Below.refl _ _, _, updO_known hkn, rfl⟩
             ·exact Owes.pure [(2, (.string ⟨List.toArray p6⟩)), (93, (.bool true))] ⟨sS (by kernel_rfl) (by kernel_rfl), sB 25 (by kernel_rfl) (z18.2.2 == z24.2.2) (by kernel_rfl) hb509, trivial⟩ (.string ⟨List.toArray p6⟩) (fun _ _ => by kernel_rfl) (fun _ => rfl)
             ·intro ρ' w' hk hs hah
              have e97 := hah 29 97 (by kernel_rfl)
              have e93 := hah 25 93 (by kernel_rfl)
              have hkn : Known ρ' [(97, (.string ⟨List.toArray p6⟩)), (93, (.bool true))] := ⟨e97, (Eq.trans e93 (congrArg Value.bool hb509)), trivial⟩
              refine Step.known _ hkn ?_
              have hs708 := SP.below hs53 hk
              refine Step.callF (f := 19) (fo := (.func 19)) (xs := #[(.tmp 97)]) (tys := #[9]) (first := #[]) (captured := #[]) (d := (some 98)) (k := 30) (by kernel_rfl) rfl (by kernel_rfl) (by kernel_rfl) Tryd.call19 (L_subwayref01_Text_walk  p6 w'  z516 hz517) ?_
              rintro e w709 ⟨A711, c712, rfl, hs710⟩
              exact ⟨_, rfl, SP.keeps hs710, _, updO_known hkn, ⟨_, _, rfl, SP.row_of hs710⟩⟩
             ·intro ρ' w' hk hs hah
              obtain ⟨A714, c715, e98, hr716⟩ := hah 30 98 (by kernel_rfl)
              have e93 := hah 25 93 (by kernel_rfl)
              have hkn : Known ρ' [(98, (.slice A714 (List.length z516) c715)), (93, (.bool true))] := ⟨e98, (Eq.trans e93 (congrArg Value.bool hb509)), trivial⟩
              refine Step.known _ hkn ?_
              have hs713 := SP.below hs53 hk
              refine Step.toStr (T := 22) (S' := 9) (E := 5) (x := (.tmp 98)) (A := A714) (c := c715) (l := z516) (d := (some 99)) (k := 31) (by kernel_rfl) rfl (by kernel_rfl) (by kernel_rfl) (by kernel_rfl) (by kernel_rfl) hr716 ?_
              exact ⟨Below.refl _ _, _, updO_known hkn, rfl⟩
             ·intro ρ' w' hk hs hah
              have e96 := hah 28 96 (by kernel_rfl)
              have e99 := hah 31 99 (by kernel_rfl)
              have e93 := hah 25 93 (by kernel_rfl)
              have hkn : Known ρ' [(96, (.string ⟨List.toArray z510⟩)), (99, (.string ⟨List.toArray z516⟩)), (93, (.bool true))] := ⟨e96, e99, (Eq.trans e93 (congrArg Value.bool hb509)), trivial⟩
              refine Step.known _ hkn ?_
              have hs717 := SP.below hs53 hk
              refine Step.strOp (op := .eql) (T := 9) (T' := 9) (x := (.tmp 96)) (y := (.tmp 99)) (a := z510) (b := z516) (r := (.bool (z510 == z516))) (d := (some 100)) (k := 32) (by kernel_rfl) rfl (by kernel_rfl) (by kernel_rfl) rfl ?_
              exact ⟨Below.refl _ _, _, updO_known hkn, rfl⟩
             ·exact Owes.pure [(93, (.bool true)), (100, (.bool (z510 == z516)))] ⟨sB 25 (by kernel_rfl) (z18.2.2 == z24.2.2) (by kernel_rfl) hb509, sA 32 (by kernel_rfl) (by kernel_rfl), trivial⟩ (.bool (z510 == z516)) (fun _ _ => by kernel_rfl) (fun _ => rfl)
             ·exact Owes.pure [(101, (.bool (z510 == z516)))] ⟨sA 33 (by kernel_rfl) (by kernel_rfl), trivial⟩ (.bool (z510 == z516)) (fun _ _ => by kernel_rfl) (fun _ => rfl)
             ·exact Owes.pure [(14, (.string ⟨List.toArray z30.1⟩)), (102, (.bool true))] ⟨sS (by kernel_rfl) (by kernel_rfl), sB 34 (by kernel_rfl) (z510 == z516) (by kernel_rfl) hb522, trivial⟩ (.string ⟨List.toArray z30.1⟩) (fun _ _ => by kernel_rfl) (fun _ => rfl)
             ·exact Owes.pure [(17, (.string ⟨List.toArray z36.1⟩)), (102, (.bool true))] ⟨sS (by kernel_rfl) (by kernel_rfl), sB 34 (by kernel_rfl) (z510 == z516) (by kernel_rfl) hb522, trivial⟩ (.string ⟨List.toArray z36.1⟩) (fun _ _ => by kernel_rfl) (fun _ => rfl)
             ·intro ρ' w' hk hs hah
              have e103 := hah 35 103 (by kernel_rfl)
              have e104 := hah 36 104 (by kernel_rfl)
              have e102 := hah 34 102 (by kernel_rfl)
              have hkn : Known ρ' [(103, (.string ⟨List.toArray z30.1⟩)), (104, (.string ⟨List.toArray z36.1⟩)), (102, (.bool true))] := ⟨e103, e104, (Eq.trans e102 (congrArg Value.bool hb522)), trivial⟩
              refine Step.known _ hkn ?_
              have hs718 := SP.below hs53 hk
              refine Step.strOp (op := .eql) (T := 9) (T' := 9) (x := (.tmp 103)) (y := (.tmp 104)) (a := z30.1) (b := z36.1) (r := (.bool (z30.1 == z36.1))) (d := (some 105)) (k := 37) (by kernel_rfl) rfl (by kernel_rfl) (by kernel_rfl) rfl ?_
              exact ⟨Below.refl _ _, _, updO_known hkn, rfl⟩
             ·exact Owes.pure [(102, (.bool true)), (105, (.bool (z30.1 == z36.1)))] ⟨sB 34 (by kernel_rfl) (z510 == z516) (by kernel_rfl) hb522, sA 37 (by kernel_rfl) (by kernel_rfl), trivial⟩ (.bool (z30.1 == z36.1)) (fun _ _ => by kernel_rfl) (fun _ => rfl)
             ·exact Owes.pure [(106, (.bool (z30.1 == z36.1)))] ⟨sA 38 (by kernel_rfl) (by kernel_rfl), trivial⟩ (.bool (z30.1 == z36.1)) (fun _ _ => by kernel_rfl) (fun _ => rfl)
             ·exact Owes.pure [(15, (.int .i64 z30.2.1)), (107, (.bool true))] ⟨sS (by kernel_rfl) (by kernel_rfl), sB 39 (by kernel_rfl) (z30.1 == z36.1) (by kernel_rfl) hb523, trivial⟩ (.int .i64 z30.2.1) (fun _ _ => by kernel_rfl) (fun _ => rfl)
             ·exact Owes.pure [(18, (.int .i64 z36.2.1)), (107, (.bool true))] ⟨sS (by kernel_rfl) (by kernel_rfl), sB 39 (by kernel_rfl) (z30.1 == z36.1) (by kernel_rfl) hb523, trivial⟩ (.int .i64 z36.2.1) (fun _ _ => by kernel_rfl) (fun _ => rfl)
             ·exact Owes.pure [(108, (.int .i64 z30.2.1)), (109, (.int .i64 z36.2.1)), (107, (.bool true))] ⟨sA 40 (by kernel_rfl) (by kernel_rfl), sA 41 (by kernel_rfl) (by kernel_rfl), sB 39 (by kernel_rfl) (z30.1 == z36.1) (by kernel_rfl) hb523, trivial⟩ (.bool (z30.2.1 == z36.2.1)) (fun _ _ => by kernel_rfl) (fun _ => rfl)
             ·exact Owes.pure [(107, (.bool true)), (110, (.bool (z30.2.1 == z36.2.1)))] ⟨sB 39 (by kernel_rfl) (z30.1 == z36.1) (by kernel_rfl) hb523, sA 42 (by kernel_rfl) (by kernel_rfl), trivial⟩ (.bool (z30.2.1 == z36.2.1)) (fun _ _ => by kernel_rfl) (fun _ => rfl)
             ·exact Owes.pure [(111, (.bool (z30.2.1 == z36.2.1)))] ⟨sA 43 (by kernel_rfl) (by kernel_rfl), trivial⟩ (.bool (z30.2.1 == z36.2.1)) (fun _ _ => by kernel_rfl) (fun _ => rfl)
             ·exact Owes.pure [(16, (.bool z30.2.2)), (112, (.bool true))] ⟨sS (by kernel_rfl) (by kernel_rfl), sB 44 (by kernel_rfl) (z30.2.1 == z36.2.1) (by kernel_rfl) hb524, trivial⟩ (.bool z30.2.2) (fun _ _ => by kernel_rfl) (fun _ => rfl)
             ·exact Owes.pure [(19, (.bool z36.2.2)), (112, (.bool true))] ⟨sS (by kernel_rfl) (by kernel_rfl), sB 44 (by kernel_rfl) (z30.2.1 == z36.2.1) (by kernel_rfl) hb524, trivial⟩ (.bool z36.2.2) (fun _ _ => by kernel_rfl) (fun _ => rfl)
             ·exact Owes.pure [(113, (.bool z30.2.2)), (114, (.bool z36.2.2)), (112, (.bool true))] ⟨sA 45 (by kernel_rfl) (by kernel_rfl), sA 46 (by kernel_rfl) (by kernel_rfl), sB 44 (by kernel_rfl) (z30.2.1 == z36.2.1) (by kernel_rfl) hb524, trivial⟩ (.bool (z30.2.2 == z36.2.2)) (fun _ _ => by kernel_rfl) (fun _ => rfl)
             ·exact Owes.pure [(112, (.bool true)), (115, (.bool (z30.2.2 == z36.2.2)))] ⟨sB 44 (by kernel_rfl) (z30.2.1 == z36.2.1) (by kernel_rfl) hb524, sA 47 (by kernel_rfl) (by kernel_rfl), trivial⟩ (.bool (z30.2.2 == z36.2.2)) (fun _ _ => by kernel_rfl) (fun _ => rfl)
             ·exact Owes.pure [(116, (.bool (z30.2.2 == z36.2.2)))] ⟨sA 48 (by kernel_rfl) (by kernel_rfl), trivial⟩ (.bool (z30.2.2 == z36.2.2)) (fun _ _ => by kernel_rfl) (fun _ => rfl)
             ·exact Owes.skip [(117, (.bool false))] ⟨sB 49 (by kernel_rfl) (z30.2.2 == z36.2.2) (by kernel_rfl) hb525, trivial⟩ (some 118) (fun _ => by kernel_rfl) (by kernel_rfl) (fun _ => rfl)
             ·exact Owes.skip [(117, (.bool false))] ⟨sB 49 (by kernel_rfl) (z30.2.2 == z36.2.2) (by kernel_rfl) hb525, trivial⟩ (some 119) (fun _ => by kernel_rfl) (by kernel_rfl) (fun _ => rfl)
             ·exact Owes.skip [(117, (.bool false))] ⟨sB 49 (by kernel_rfl) (z30.2.2 == z36.2.2) (by kernel_rfl) hb525, trivial⟩ (some 120) (fun _ => by kernel_rfl) (by kernel_rfl) (fun _ => rfl)
             ·exact Owes.skip [(117, (.bool false))] ⟨sB 49 (by kernel_rfl) (z30.2.2 == z36.2.2) (by kernel_rfl) hb525, trivial⟩ (some 121) (fun _ => by kernel_rfl) (by kernel_rfl) (fun _ => rfl)
             ·exact Owes.skip [(117, (.bool false))] ⟨sB 49 (by kernel_rfl) (z30.2.2 == z36.2.2) (by kernel_rfl) hb525, trivial⟩ (some 122) (fun _ => by kernel_rfl) (by kernel_rfl) (fun _ => rfl)
             ·exact Owes.pure [(117, (.bool false)), (122, undef)] ⟨sB 49 (by kernel_rfl) (z30.2.2 == z36.2.2) (by kernel_rfl) hb525, sA 54 (by kernel_rfl) (by kernel_rfl), trivial⟩ (.bool false) (fun _ _ => by kernel_rfl) (fun _ => rfl)
             ·exact Owes.pure [(123, (.bool false))] ⟨sA 55 (by kernel_rfl) (by kernel_rfl), trivial⟩ (.bool false) (fun _ _ => by kernel_rfl) (fun _ => rfl)
             ·exact Owes.skip [(124, (.bool false))] ⟨sA 56 (by kernel_rfl) (by kernel_rfl), trivial⟩ (some 125) (fun _ => by kernel_rfl) (by kernel_rfl) (fun _ => rfl)
             ·exact Owes.skip [(124, (.bool false))] ⟨sA 56 (by kernel_rfl) (by kernel_rfl), trivial⟩ (some 126) (fun _ => by kernel_rfl) (by kernel_rfl) (fun _ => rfl)
             ·exact Owes.skip [(124, (.bool false))] ⟨sA 56 (by kernel_rfl) (by kernel_rfl), trivial⟩ (some 127) (fun _ => by kernel_rfl) (by kernel_rfl) (fun _ => rfl)
             ·exact Owes.pure [(124, (.bool false)), (127, undef)] ⟨sA 56 (by kernel_rfl) (by kernel_rfl), sA 59 (by kernel_rfl) (by kernel_rfl), trivial⟩ (.bool false) (fun _ _ => by kernel_rfl) (fun _ => rfl)
             ·exact Owes.pure [(128, (.bool false))] ⟨sA 60 (by kernel_rfl) (by kernel_rfl), trivial⟩ (.bool false) (fun _ _ => by kernel_rfl) (fun _ => rfl)
             ·exact Owes.skip [(129, (.bool false))] ⟨sA 61 (by kernel_rfl) (by kernel_rfl), trivial⟩ (some 130) (fun _ => by kernel_rfl) (by kernel_rfl) (fun _ => rfl)
             ·exact Owes.skip [(129, (.bool false))] ⟨sA 61 (by kernel_rfl) (by kernel_rfl), trivial⟩ (some 131) (fun _ => by kernel_rfl) (by kernel_rfl) (fun _ => rfl)
             ·exact Owes.skip [(129, (.bool false))] ⟨sA 61 (by kernel_rfl) (by kernel_rfl), trivial⟩ (some 132) (fun _ => by kernel_rfl) (by kernel_rfl) (fun _ => rfl)
             ·exact Owes.pure [(129, (.bool false)), (132, undef)] ⟨sA 61 (by kernel_rfl) (by kernel_rfl), sA 64 (by kernel_rfl) (by kernel_rfl), trivial⟩ (.bool false) (fun _ _ => by kernel_rfl) (fun _ => rfl)
             ·exact Owes.pure [(133, (.bool false))] ⟨sA 65 (by kernel_rfl) (by kernel_rfl), trivial⟩ (.bool false) (fun _ _ => by kernel_rfl) (fun _ => rfl)
             ·intro ρ' w' hk hs hf
              have hs720 := SP.below hs53 hk
              obtain ⟨w719, hww719⟩ : ∃ x, w' = x := ⟨_, rfl⟩
              subst hww719
              have e6 := hf 66 6 (by kernel_rfl)
              refine postKnown [(6, (.bool false))] ⟨e6, trivial⟩ ?_
              exact ⟨false, ⟨(by kernel_rfl), trivial⟩, SP.sel hs720 [] rfl rfl, H⟩
           ·have H := cf H hb524
            refine At.draw (by kernel_rfl) (by kernel_rfl) (by kernel_rfl) (by kernel_rfl) (by kernel_rfl) [FEq (.bool z7), FEq (.bool z7), FEq (.int .i64 p1), FRow eU8 z494, FEq (.string ⟨List.toArray z494⟩), FEq (.int .i64 p1), FRow eU8 z500, FEq (.string ⟨List.toArray z500⟩), FEq (.bool (z494 == z500)), FEq (.bool (z494 == z500)), FEq (.bool (z494 == z500)), FEq (.int .i64 z18.1), FEq (.int .i64 z24.1), FEq (.bool (z18.1 == z24.1)), FEq (.bool (z18.1 == z24.1)), FEq (.bool (z18.1 == z24.1)), FEq (.int .i64 z18.2.1), FEq (.int .i64 z24.2.1), FEq (.bool (z18.2.1 == z24.2.1)), FEq (.bool (z18.2.1 == z24.2.1)), FEq (.bool (z18.2.1 == z24.2.1)), FEq (.bool z18.2.2), FEq (.bool z24.2.2), FEq (.bool (z18.2.2 == z24.2.2)), FEq (.bool (z18.2.2 == z24.2.2)), FEq (.bool (z18.2.2 == z24.2.2)), FEq (.string ⟨List.toArray p6⟩), FRow eU8 z510, FEq (.string ⟨List.toArray z510⟩), FEq (.string ⟨List.toArray p6⟩), FRow eU8 z516, FEq (.string ⟨List.toArray z516⟩), FEq (.bool (z510 == z516)), FEq (.bool (z510 == z516)), FEq (.bool (z510 == z516)), FEq (.string ⟨List.toArray z30.1⟩), FEq (.string ⟨List.toArray z36.1⟩), FEq (.bool (z30.1 == z36.1)), FEq (.bool (z30.1 == z36.1)), FEq (.bool (z30.1 == z36.1)), FEq (.int .i64 z30.2.1), FEq (.int .i64 z36.2.1), FEq (.bool (z30.2.1 == z36.2.1)), FEq (.bool (z30.2.1 == z36.2.1)), FEq (.bool (z30.2.1 == z36.2.1)), FEq undef, FEq undef, FEq undef, FEq (.bool false), FEq (.bool false), FEq undef, FEq undef, FEq undef, FEq undef, FEq undef, FEq (.bool false), FEq (.bool false), FEq undef, FEq undef, FEq undef, FEq (.bool false), FEq (.bool false), FEq undef, FEq undef, FEq undef, FEq (.bool false), FEq (.bool false)] ⟨mono_eq _, mono_eq _, mono_eq _, mono_row _ _, mono_eq _, mono_eq _, mono_row _ _, mono_eq _, mono_eq _, mono_eq _, mono_eq _, mono_eq _, mono_eq _, mono_eq _, mono_eq _, mono_eq _, mono_eq _, mono_eq _, mono_eq _, mono_eq _, mono_eq _, mono_eq _, mono_eq _, mono_eq _, mono_eq _, mono_eq _, mono_eq _, mono_row _ _, mono_eq _, mono_eq _, mono_row _ _, mono_eq _, mono_eq _, mono_eq _, mono_eq _, mono_eq _, mono_eq _, mono_eq _, mono_eq _, mono_eq _, mono_eq _, mono_eq _, mono_eq _, mono_eq _, mono_eq _, mono_eq _, mono_eq _, mono_eq _, mono_eq _, mono_eq _, mono_eq _, mono_eq _, mono_eq _, mono_eq _, mono_eq _, mono_eq _, mono_eq _, mono_eq _, mono_eq _, mono_eq _, mono_eq _, mono_eq _, mono_eq _, mono_eq _, mono_eq _, mono_eq _, mono_eq _, trivial⟩ (N := 67) (by kernel_rfl) ⟨⟨⟨⟨⟨⟨⟨⟨⟨⟨⟨⟨⟨⟨⟨⟨⟨⟨⟨⟨⟨⟨⟨⟨⟨⟨⟨⟨⟨⟨⟨⟨⟨⟨⟨⟨⟨⟨⟨⟨⟨⟨⟨⟨⟨⟨⟨⟨⟨⟨⟨⟨⟨⟨⟨⟨⟨⟨⟨⟨⟨⟨⟨⟨⟨⟨⟨trivial, ?_⟩, ?_⟩, ?_⟩, ?_⟩, ?_⟩, ?_⟩, ?_⟩, ?_⟩, ?_⟩, ?_⟩, ?_⟩, ?_⟩, ?_⟩, ?_⟩, ?_⟩, ?_⟩, ?_⟩, ?_⟩, ?_⟩, ?_⟩, ?_⟩, ?_⟩, ?_⟩, ?_⟩, ?_⟩, ?_⟩, ?_⟩, ?_⟩, ?_⟩, ?_⟩, ?_⟩, ?_⟩, ?_⟩, ?_⟩, ?_⟩, ?_⟩, ?_⟩, ?_⟩, ?_⟩, ?_⟩, ?_⟩, ?_⟩, ?_⟩, ?_⟩, ?_⟩, ?_⟩, ?_⟩, ?_⟩, ?_⟩, ?_⟩, ?_⟩, ?_⟩, ?_⟩, ?_⟩, ?_⟩, ?_⟩, ?_⟩, ?_⟩, ?_⟩, ?_⟩, ?_⟩, ?_⟩, ?_⟩, ?_⟩, ?_⟩, ?_⟩, ?_⟩ ?_
            ·exact Owes.pure [(7, (.bool z7))] ⟨sS (by kernel_rfl) (by kernel_rfl), trivial⟩ (.bool z7) (fun _ _ => by kernel_rfl) (fun _ => rfl)
            ·exact Owes.pure [(68, (.bool z7))] ⟨sA 0 (by kernel_rfl) (by kernel_rfl), trivial⟩ (.bool z7) (fun _ _ => by kernel_rfl) (fun _ => rfl)
            ·exact Owes.pure [(0, (.int .i64 p1)), (69, (.bool true))] ⟨sS (by kernel_rfl) (by kernel_rfl), sB 1 (by kernel_rfl) z7 (by kernel_rfl) hb493, trivial⟩ (.int .i64 p1) (fun _ _ => by kernel_rfl) (fun _ => rfl)
            ·intro ρ' w' hk hs hah
             have e70 := hah 2 70 (by kernel_rfl)
             have e69 := hah 1 69 (by kernel_rfl)
             have hkn : Known ρ' [(70, (.int .i64 p1)), (69, (.bool true))] := ⟨e70, (Eq.trans e69 (congrArg Value.bool hb493)), trivial⟩
             refine Step.known _ hkn ?_
             have hs721 := SP.below hs53 hk
             refine Step.callF (f := 16) (fo := (.func 16)) (xs := #[(.tmp 70)]) (tys := #[2]) (first := #[]) (captured := #[]) (d := (some 71)) (k := 3) (by kernel_rfl) rfl (by kernel_rfl) (by kernel_rfl) Tryd.call16 (L_num_Put_walk  p1 w'  z494 hz495) ?_
             rintro e w722 ⟨A724, c725, rfl, hs723⟩
             exact ⟨_, rfl, SP.keeps hs723, _, updO_known hkn, ⟨_, _, rfl, SP.row_of hs723⟩⟩
            ·intro ρ' w' hk hs hah
             obtain ⟨A727, c728, e71, hr729⟩ := hah 3 71 (by kernel_rfl)
             have e69 := hah 1 69 (by kernel_rfl)
             have hkn : Known ρ' [(71, (.slice A727 (List.length z494) c728)), (69, (.bool true))] := ⟨e71, (Eq.trans e69 (congrArg Value.bool hb493)), trivial⟩
             refine Step.known _ hkn ?_
             have hs726 := SP.below hs53 hk
             refine Step.toStr (T := 22) (S' := 9) (E := 5) (x := (.tmp 71)) (A := A727) (c := c728) (l := z494) (d := (some 72)) (k := 4) (by kernel_rfl) rfl (by kernel_rfl) (by kernel_rfl) (by kernel_rfl) (by kernel_rfl) hr729 ?_
             exact ⟨Below.refl _ _, _, updO_known hkn, rfl⟩
            ·exact Owes.pure [(0, (.int .i64 p1)), (69, (.bool true))] ⟨sS (by kernel_rfl) (by kernel_rfl), sB 1 (by kernel_rfl) z7 (by kernel_rfl) hb493, trivial⟩ (.int .i64 p1) (fun _ _ => by kernel_rfl) (fun _ => rfl)
            ·intro ρ' w' hk hs hah
             have e73 := hah 5 73 (by kernel_rfl)
             have e69 := hah 1 69 (by kernel_rfl)
             have hkn : Known ρ' [(73, (.int .i64 p1)), (69, (.bool true))] := ⟨e73, (Eq.trans e69 (congrArg Value.bool hb493)), trivial⟩
             refine Step.known _ hkn ?_
             have hs730 := SP.below hs53 hk
             refine Step.callF (f := 17) (fo := (.func 17)) (xs := #[(.tmp 73)]) (tys := #[2]) (first := #[]) (captured := #[]) (d := (some 74)) (k := 6) (by kernel_rfl) rfl (by kernel_rfl) (by kernel_rfl) Tryd.call17 (L_subwayref01_Put_walk  p1 w'  z500 hz501) ?_
             rintro e w731 ⟨A733, c734, rfl, hs732⟩
             exact ⟨_, rfl, SP.keeps hs732, _, updO_known hkn, ⟨_, _, rfl, SP.row_of hs732⟩⟩
            ·intro ρ' w' hk hs hah
             obtain ⟨A736, c737, e74, hr738⟩ := hah 6 74 (by kernel_rfl)
             have e69 := hah 1 69 (by kernel_rfl)
             have hkn : Known ρ' [(74, (.slice A736 (List.length z500) c737)), (69, (.bool true))] := ⟨e74, (Eq.trans e69 (congrArg Value.bool hb493)), trivial⟩
             refine Step.known _ hkn ?_
             have hs735 := SP.below hs53 hk
             refine Step.toStr (T := 22) (S' := 9) (E := 5) (x := (.tmp 74)) (A := A736) (c := c737) (l := z500) (d := (some 75)) (k := 7) (by kernel_rfl) rfl (by kernel_rfl) (by kernel_rfl) (by kernel_rfl) (by kernel_rfl) hr738 ?_
             exact ⟨Below.refl _ _, _, updO_known hkn, rfl⟩
            ·intro ρ' w' hk hs hah
             have e72 := hah 4 72 (by kernel_rfl)
             have e75 := hah 7 75 (by kernel_rfl)
             have e69 := hah 1 69 (by kernel_rfl)
             have hkn : Known ρ' [(72, (.string ⟨List.toArray z494⟩)), (75, (.string ⟨List.toArray z500⟩)), (69, (.bool true))] := ⟨e72, e75, (Eq.trans e69 (congrArg Value.bool hb493)), trivial⟩
             refine Step.known _ hkn ?_
             have hs739 := SP.below hs53 hk
             refine Step.strOp (op := .eql) (T := 9) (T' := 9) (x := (.tmp 72)) (y := (.tmp 75)) (a := z494) (b := z500) (r := (.bool (z494 == z500))) (d := (some 76)) (k := 8) (by kernel_rfl) rfl (by kernel_rfl) (by kernel_rfl) rfl ?_
             exact ⟨Below.refl _ _, _, updO_known hkn, rfl⟩
            ·exact Owes.pure [(69, (.bool true)), (76, (.bool (z494 == z500)))] ⟨sB 1 (by kernel_rfl) z7 (by kernel_rfl) hb493, sA 8 (by kernel_rfl) (by kernel_rfl), trivial⟩ (.bool (z494 == z500)) (fun _ _ => by kernel_rfl) (fun _ => rfl)
            ·exact Owes.pure [(77, (.bool (z494 == z500)))] ⟨sA 9 (by kernel_rfl) (by kernel_rfl), trivial⟩ (.bool (z494 == z500)) (fun _ _ => by kernel_rfl) (fun _ => rfl)
            ·exact Owes.pure [(8, (.int .i64 z18.1)), (78, (.bool true))] ⟨sS (by kernel_rfl) (by kernel_rfl), sB 10 (by kernel_rfl) (z494 == z500) (by kernel_rfl) hb506, trivial⟩ (.int .i64 z18.1) (fun _ _ => by kernel_rfl) (fun _ => rfl)
            ·exact Owes.pure [(11, (.int .i64 z24.1)), (78, (.bool true))] ⟨sS (by kernel_rfl) (by kernel_rfl), sB 10 (by kernel_rfl) (z494 == z500) (by kernel_rfl) hb506, trivial⟩ (.int .i64 z24.1) (fun _ _ => by kernel_rfl) (fun _ => rfl)
            ·exact Owes.pure [(79, (.int .i64 z18.1)), (80, (.int .i64 z24.1)), (78, (.bool true))] ⟨sA 11 (by kernel_rfl) (by kernel_rfl), sA 12 (by kernel_rfl) (by kernel_rfl), sB 10 (by kernel_rfl) (z494 == z500) (by kernel_rfl) hb506, trivial⟩ (.bool (z18.1 == z24.1)) (fun _ _ => by kernel_rfl) (fun _ => rfl)
            ·exact Owes.pure [(78, (.bool true)), (81, (.bool (z18.1 == z24.1)))] ⟨sB 10 (by kernel_rfl) (z494 == z500) (by kernel_rfl) hb506, sA 13 (by kernel_rfl) (by kernel_rfl), trivial⟩ (.bool (z18.1 == z24.1)) (fun _ _ => by kernel_rfl) (fun _ => rfl)
            ·exact Owes.pure [(82, (.bool (z18.1 == z24.1)))] ⟨sA 14 (by kernel_rfl) (by kernel_rfl), trivial⟩ (.bool (z18.1 == z24.1)) (fun _ _ => by kernel_rfl) (fun _ => rfl)
            ·exact Owes.pure [(9, (.int .i64 z18.2.1)), (83, (.bool true))] ⟨sS (by kernel_rfl) (by kernel_rfl), sB 15 (by kernel_rfl) (z18.1 == z24.1) (by kernel_rfl) hb507, trivial⟩ (.int .i64 z18.2.1) (fun _ _ => by kernel_rfl) (fun _ => rfl)
            ·exact Owes.pure [(12, (.int .i64 z24.2.1)), (83, (.bool true))] ⟨sS (by kernel_rfl) (by kernel_rfl), sB 15 (by kernel_rfl) (z18.1 == z24.1) (by kernel_rfl) hb507, trivial⟩ (.int .i64 z24.2.1) (fun _ _ => by kernel_rfl) (fun _ => rfl)
            ·exact Owes.pure [(84, (.int .i64 z18.2.1)), (85, (.int .i64 z24.2.1)), (83, (.bool true))] ⟨sA 16 (by kernel_rfl) (by kernel_rfl), sA 17 (by kernel_rfl) (by kernel_rfl), sB 15 (by kernel_rfl) (z18.1 == z24.1) (by kernel_rfl) hb507, trivial⟩ (.bool (z18.2.1 == z24.2.1)) (fun _ _ => by kernel_rfl) (fun _ => rfl)
            ·exact Owes.pure [(83, (.bool true)), (86, (.bool (z18.2.1 == z24.2.1)))] ⟨sB 15 (by kernel_rfl) (z18.1 == z24.1) (by kernel_rfl) hb507, sA 18 (by kernel_rfl) (by kernel_rfl), trivial⟩ (.bool (z18.2.1 == z24.2.1)) (fun _ _ => by kernel_rfl) (fun _ => rfl)
            ·exact Owes.pure [(87, (.bool (z18.2.1 == z24.2.1)))] ⟨sA 19 (by kernel_rfl) (by kernel_rfl), trivial⟩ (.bool (z18.2.1 == z24.2.1)) (fun _ _ => by kernel_rfl) (fun _ => rfl)
            ·exact Owes.pure [(10, (.bool z18.2.2)), (88, (.bool true))] ⟨sS (by kernel_rfl) (by kernel_rfl), sB 20 (by kernel_rfl) (z18.2.1 == z24.2.1) (by kernel_rfl) hb508, trivial⟩ (.bool z18.2.2) (fun _ _ => by kernel_rfl) (fun _ => rfl)
            ·exact Owes.pure [(13, (.bool z24.2.2)), (88, (.bool true))] ⟨sS (by kernel_rfl) (by kernel_rfl), sB 20 (by kernel_rfl) (z18.2.1 == z24.2.1) (by kernel_rfl) hb508, trivial⟩ (.bool z24.2.2) (fun _ _ => by kernel_rfl) (fun _ => rfl)
            ·exact Owes.pure [(89, (.bool z18.2.2)), (90, (.bool z24.2.2)), (88, (.bool true))] ⟨sA 21 (by kernel_rfl) (by kernel_rfl), sA 22 (by kernel_rfl) (by kernel_rfl), sB 20 (by kernel_rfl) (z18.2.1 == z24.2.1) (by kernel_rfl) hb508, trivial⟩ (.bool (z18.2.2 == z24.2.2)) (fun _ _ => by kernel_rfl) (fun _ => rfl)
            ·exact Owes.pure [(88, (.bool true)), (91, (.bool (z18.2.2 == z24.2.2)))] ⟨sB 20 (by kernel_rfl) (z18.2.1 == z24.2.1) (by kernel_rfl) hb508, sA 23 (by kernel_rfl) (by kernel_rfl), trivial⟩ (.bool (z18.2.2 == z24.2.2)) (fun _ _ => by kernel_rfl) (fun _ => rfl)
            ·exact Owes.pure [(92, (.bool (z18.2.2 == z24.2.2)))] ⟨sA 24 (by kernel_rfl) (by kernel_rfl), trivial⟩ (.bool (z18.2.2 == z24.2.2)) (fun _ _ => by kernel_rfl) (fun _ => rfl)
            ·exact Owes.pure [(2, (.string ⟨List.toArray p6⟩)), (93, (.bool true))] ⟨sS (by kernel_rfl) (by kernel_rfl), sB 25 (by kernel_rfl) (z18.2.2 == z24.2.2) (by kernel_rfl) hb509, trivial⟩ (.string ⟨List.toArray p6⟩) (fun _ _ => by kernel_rfl) (fun _ => rfl)
            ·intro ρ' w' hk hs hah
             have e94 := hah 26 94 (by kernel_rfl)
             have e93 := hah 25 93 (by kernel_rfl)
             have hkn : Known ρ' [(94, (.string ⟨List.toArray p6⟩)), (93, (.bool true))] := ⟨e94, (Eq.trans e93 (congrArg Value.bool hb509)), trivial⟩
             refine Step.known _ hkn ?_
             have hs740 := SP.below hs53 hk
             refine Step.callF (f := 18) (fo := (.func 18)) (xs := #[(.tmp 94)]) (tys := #[9]) (first := #[]) (captured := #[]) (d := (some 95)) (k := 27) (by kernel_rfl) rfl (by kernel_rfl) (by kernel_rfl) Tryd.call18 (L_num_Text_walk  p6 w'  z510 hz511) ?_
             rintro e w741 ⟨A743, c744, rfl, hs742⟩
             exact ⟨_, rfl, SP.keeps hs742, _, updO_known hkn, ⟨_, _, rfl, SP.row_of hs742⟩⟩
            ·intro ρ' w' hk hs hah
             obtain ⟨A746, c747, e95, hr748⟩ := hah 27 95 (by kernel_rfl)
             have e93 := hah 25 93 (by kernel_rfl)
             have hkn : Known ρ' [(95, (.slice A746 (List.length z510) c747)), (93, (.bool true))] := ⟨e95, (Eq.trans e93 (congrArg Value.bool hb509)), trivial⟩
             refine Step.known _ hkn ?_
             have hs745 := SP.below hs53 hk
             refine Step.toStr (T := 22) (S' := 9) (E := 5) (x := (.tmp 95)) (A := A746) (c := c747) (l := z510) (d := (some 96)) (k := 28) (by kernel_rfl) rfl (by kernel_rfl) (by kernel_rfl) (by kernel_rfl) (by kernel_rfl) hr748 ?_
             exact ⟨Below.refl _ _, _, updO_known hkn, rfl⟩
            ·exact Owes.pure [(2, (.string ⟨List.toArray p6⟩)), (93, (.bool true))] ⟨sS (by kernel_rfl) (by kernel_rfl), sB 25 (by kernel_rfl) (z18.2.2 == z24.2.2) (by kernel_rfl) hb509, trivial⟩ (.string ⟨List.toArray p6⟩) (fun _ _ => by kernel_rfl) (fun _ => rfl)
            ·intro ρ' w' hk hs hah
             have e97 := hah 29 97 (by kernel_rfl)
             have e93 := hah 25 93 (by kernel_rfl)
             have hkn : Known ρ' [(97, (.string ⟨List.toArray p6⟩)), (93, (.bool true))] := ⟨e97, (Eq.trans e93 (congrArg Value.bool hb509)), trivial⟩
             refine Step.known _ hkn ?_
             have hs749 := SP.below hs53 hk
             refine Step.callF (f := 19) (fo := (.func 19)) (xs := #[(.tmp 97)]) (tys := #[9]) (first := #[]) (captured := #[]) (d := (some 98)) (k := 30) (by kernel_rfl) rfl (by kernel_rfl) (by kernel_rfl) Tryd.call19 (L_subwayref01_Text_walk  p6 w'  z516 hz517) ?_
             rintro e w750 ⟨A752, c753, rfl, hs751⟩
             exact ⟨_, rfl, SP.keeps hs751, _, updO_known hkn, ⟨_, _, rfl, SP.row_of hs751⟩⟩
            ·intro ρ' w' hk hs hah
             obtain ⟨A755, c756, e98, hr757⟩ := hah 30 98 (by kernel_rfl)
             have e93 := hah 25 93 (by kernel_rfl)
             have hkn : Known ρ' [(98, (.slice A755 (List.length z516) c756)), (93, (.bool true))] := ⟨e98, (Eq.trans e93 (congrArg Value.bool hb509)), trivial⟩
             refine Step.known _ hkn ?_
             have hs754 := SP.below hs53 hk
             refine Step.toStr (T := 22) (S' := 9) (E := 5) (x := (.tmp 98)) (A := A755) (c := c756) (l := z516) (d := (some 99)) (k := 31) (by kernel_rfl) rfl (by kernel_rfl) (by kernel_rfl) (by kernel_rfl) (by kernel_rfl) hr757 ?_
             exact ⟨Below.refl _ _, _, updO_known hkn, rfl⟩
            ·intro ρ' w' hk hs hah
             have e96 := hah 28 96 (by kernel_rfl)
             have e99 := hah 31 99 (by kernel_rfl)
             have e93 := hah 25 93 (by kernel_rfl)
             have hkn : Known ρ' [(96, (.string ⟨List.toArray z510⟩)), (99, (.string ⟨List.toArray z516⟩)), (93, (.bool true))] := ⟨e96, e99, (Eq.trans e93 (congrArg Value.bool hb509)), trivial⟩
             refine Step.known _ hkn ?_
             have hs758 := SP.below hs53 hk
             refine Step.strOp (op := .eql) (T := 9) (T' := 9) (x := (.tmp 96)) (y := (.tmp 99)) (a := z510) (b := z516) (r := (.bool (z510 == z516))) (d := (some 100)) (k := 32) (by kernel_rfl) rfl (by kernel_rfl) (by kernel_rfl) rfl ?_
             exact ⟨Below.refl _ _, _, updO_known hkn, rfl⟩
            ·exact Owes.pure [(93, (.bool true)), (100, (.bool (z510 == z516)))] ⟨sB 25 (by kernel_rfl) (z18.2.2 == z24.2.2) (by kernel_rfl) hb509, sA 32 (by kernel_rfl) (by kernel_rfl), trivial⟩ (.bool (z510 == z516)) (fun _ _ => by kernel_rfl) (fun _ => rfl)
            ·exact Owes.pure [(101, (.bool (z510 == z516)))] ⟨sA 33 (by kernel_rfl) (by kernel_rfl), trivial⟩ (.bool (z510 == z516)) (fun _ _ => by kernel_rfl) (fun _ => rfl)
            ·exact Owes.pure [(14, (.string ⟨List.toArray z30.1⟩)), (102, (.bool true))] ⟨sS (by kernel_rfl) (by kernel_rfl), sB 34 (by kernel_rfl) (z510 == z516) (by kernel_rfl) hb522, trivial⟩ (.string ⟨List.toArray z30.1⟩) (fun _ _ => by kernel_rfl) (fun _ => rfl)
            ·exact Owes.pure [(17, (.string ⟨List.toArray z36.1⟩)), (102, (.bool true))] ⟨sS (by kernel_rfl) (by kernel_rfl), sB 34 (by kernel_rfl) (z510 == z516) (by kernel_rfl) hb522, trivial⟩ (.string ⟨List.toArray z36.1⟩) (fun _ _ => by kernel_rfl) (fun _ => rfl)
            ·intro ρ' w' hk hs hah
             have e103 := hah 35 103 (by kernel_rfl)
             have e104 := hah 36 104 (by kernel_rfl)
             have e102 := hah 34 102 (by kernel_rfl)
             have hkn : Known ρ' [(103, (.string ⟨List.toArray z30.1⟩)), (104, (.string ⟨List.toArray z36.1⟩)), (102, (.bool true))] := ⟨e103, e104, (Eq.trans e102 (congrArg Value.bool hb522)), trivial⟩
             refine Step.known _ hkn ?_
             have hs759 := SP.below hs53 hk
             refine Step.strOp (op := .eql) (T := 9) (T' := 9) (x := (.tmp 103)) (y := (.tmp 104)) (a := z30.1) (b := z36.1) (r := (.bool (z30.1 == z36.1))) (d := (some 105)) (k := 37) (by kernel_rfl) rfl (by kernel_rfl) (by kernel_rfl) rfl ?_
             exact ⟨Below.refl _ _, _, updO_known hkn, rfl⟩
            ·exact Owes.pure [(102, (.bool true)), (105, (.bool (z30.1 == z36.1)))] ⟨sB 34 (by kernel_rfl) (z510 == z516) (by kernel_rfl) hb522, sA 37 (by kernel_rfl) (by kernel_rfl), trivial⟩ (.bool (z30.1 == z36.1)) (fun _ _ => by kernel_rfl) (fun _ => rfl)
            ·exact Owes.pure [(106, (.bool (z30.1 == z36.1)))] ⟨sA 38 (by kernel_rfl) (by kernel_rfl), trivial⟩ (.bool (z30.1 == z36.1)) (fun _ _ => by kernel_rfl) (fun _ => rfl)
            ·exact Owes.pure [(15, (.int .i64 z30.2.1)), (107, (.bool true))] ⟨sS (by kernel_rfl) (by kernel_rfl), sB 39 (by kernel_rfl) (z30.1 == z36.1) (by kernel_rfl) hb523, trivial⟩ (.int .i64 z30.2.1) (fun _ _ => by kernel_rfl) (fun _ => rfl)
            ·exact Owes.pure [(18, (.int .i64 z36.2.1)), (107, (.bool true))] ⟨sS (by kernel_rfl) (by kernel_rfl), sB 39 (by kernel_rfl) (z30.1 == z36.1) (by kernel_rfl) hb523, trivial⟩ (.int .i64 z36.2.1) (fun _ _ => by kernel_rfl) (fun _ => rfl)
            ·exact Owes.pure [(108, (.int .i64 z30.2.1)), (109, (.int .i64 z36.2.1)), (107, (.bool true))] ⟨sA 40 (by kernel_rfl) (by kernel_rfl), sA 41 (by kernel_rfl) (by kernel_rfl), sB 39 (by kernel_rfl) (z30.1 == z36.1) (by kernel_rfl) hb523, trivial⟩ (.bool (z30.2.1 == z36.2.1)) (fun _ _ => by kernel_rfl) (fun _ => rfl)
            ·exact Owes.pure [(107, (.bool true)), (110, (.bool (z30.2.1 == z36.2.1)))] ⟨sB 39 (by kernel_rfl) (z30.1 == z36.1) (by kernel_rfl) hb523, sA 42 (by kernel_rfl) (by kernel_rfl), trivial⟩ (.bool (z30.2.1 == z36.2.1)) (fun _ _ => by kernel_rfl) (fun _ => rfl)
            ·exact Owes.pure [(111, (.bool (z30.2.1 == z36.2.1)))] ⟨sA 43 (by kernel_rfl) (by kernel_rfl), trivial⟩ (.bool (z30.2.1 == z36.2.1)) (fun _ _ => by kernel_rfl) (fun _ => rfl)
            ·exact Owes.skip [(112, (.bool false))] ⟨sB 44 (by kernel_rfl) (z30.2.1 == z36.2.1) (by kernel_rfl) hb524, trivial⟩ (some 113) (fun _ => by kernel_rfl) (by kernel_rfl) (fun _ => rfl)
            ·exact Owes.skip [(112, (.bool false))] ⟨sB 44 (by kernel_rfl) (z30.2.1 == z36.2.1) (by kernel_rfl) hb524, trivial⟩ (some 114) (fun _ => by kernel_rfl) (by kernel_rfl) (fun _ => rfl)
            ·exact Owes.skip [(112, (.bool false))] ⟨sB 44 (by kernel_rfl) (z30.2.1 == z36.2.1) (by kernel_rfl) hb524, trivial⟩ (some 115) (fun _ => by kernel_rfl) (by kernel_rfl) (fun _ => rfl)
            ·exact Owes.pure [(112, (.bool false)), (115, undef)] ⟨sB 44 (by kernel_rfl) (z30.2.1 == z36.2.1) (by kernel_rfl) hb524, sA 47 (by kernel_rfl) (by kernel_rfl), trivial⟩ (.bool false) (fun _ _ => by kernel_rfl) (fun _ => rfl)
            ·exact Owes.pure [(116, (.bool false))] ⟨sA 48 (by kernel_rfl) (by kernel_rfl), trivial⟩ (.bool false) (fun _ _ => by kernel_rfl) (fun _ => rfl)
            ·exact Owes.skip [(117, (.bool false))] ⟨sA 49 (by kernel_rfl) (by kernel_rfl), trivial⟩ (some 118) (fun _ => by kernel_rfl) (by kernel_rfl) (fun _ => rfl)
            ·exact Owes.skip [(117, (.bool false))] ⟨sA 49 (by kernel_rfl) (by kernel_rfl), trivial⟩ (some 119) (fun _ => by kernel_rfl) (by kernel_rfl) (fun _ => rfl)
            ·exact Owes.skip [(117, (.bool false))] ⟨sA 49 (by kernel_rfl) (by kernel_rfl), trivial⟩ (some 120) (fun _ => by kernel_rfl) (by kernel_rfl) (fun _ => rfl)
            ·exact Owes.skip [(117, (.bool false))] ⟨sA 49 (by kernel_rfl) (by kernel_rfl), trivial⟩ (some 121) (fun _ => by kernel_rfl) (by kernel_rfl) (fun _ => rfl)
            ·exact Owes.skip [(117, (.bool false))] ⟨sA 49 (by kernel_rfl) (by kernel_rfl), trivial⟩ (some 122) (fun _ => by kernel_rfl) (by kernel_rfl) (fun _ => rfl)
            ·exact Owes.pure [(117, (.bool false)), (122, undef)] ⟨sA 49 (by kernel_rfl) (by kernel_rfl), sA 54 (by kernel_rfl) (by kernel_rfl), trivial⟩ (.bool false) (fun _ _ => by kernel_rfl) (fun _ => rfl)
            ·exact Owes.pure [(123, (.bool false))] ⟨sA 55 (by kernel_rfl) (by kernel_rfl), trivial⟩ (.bool false) (fun _ _ => by kernel_rfl) (fun _ => rfl)
            ·exact Owes.skip [(124, (.bool false))] ⟨sA 56 (by kernel_rfl) (by kernel_rfl), trivial⟩ (some 125) (fun _ => by kernel_rfl) (by kernel_rfl) (fun _ => rfl)
            ·exact Owes.skip [(124, (.bool false))] ⟨sA 56 (by kernel_rfl) (by kernel_rfl), trivial⟩ (some 126) (fun _ => by kernel_rfl) (by kernel_rfl) (fun _ => rfl)
            ·exact Owes.skip [(124, (.bool false))] ⟨sA 56 (by kernel_rfl) (by kernel_rfl), trivial⟩ (some 127) (fun _ => by kernel_rfl) (by kernel_rfl) (fun _ => rfl)
            ·exact Owes.pure [(124, (.bool false)), (127, undef)] ⟨sA 56 (by kernel_rfl) (by kernel_rfl), sA 59 (by kernel_rfl) (by kernel_rfl), trivial⟩ (.bool false) (fun _ _ => by kernel_rfl) (fun _ => rfl)
            ·exact Owes.pure [(128, (.bool false))] ⟨sA 60 (by kernel_rfl) (by kernel_rfl), trivial⟩ (.bool false) (fun _ _ => by kernel_rfl) (fun _ => rfl)
            ·exact Owes.skip [(129, (.bool false))] ⟨sA 61 (by kernel_rfl) (by kernel_rfl), trivial⟩ (some 130) (fun _ => by kernel_rfl) (by kernel_rfl) (fun _ => rfl)
            ·exact Owes.skip [(129, (.bool false))] ⟨sA 61 (by kernel_rfl) (by kernel_rfl), trivial⟩ (some 131) (fun _ => by kernel_rfl) (by kernel_rfl) (fun _ => rfl)
            ·exact Owes.skip [(129, (.bool false))] ⟨sA 61 (by kernel_rfl) (by kernel_rfl), trivial⟩ (some 132) (fun _ => by kernel_rfl) (by kernel_rfl) (fun _ => rfl)
            ·exact Owes.pure [(129, (.bool false)), (132, undef)] ⟨sA 61 (by kernel_rfl) (by kernel_rfl), sA 64 (by kernel_rfl) (by kernel_rfl), trivial⟩ (.bool false) (fun _ _ => by kernel_rfl) (fun _ => rfl)
            ·exact Owes.pure [(133, (.bool false))] ⟨sA 65 (by kernel_rfl) (by kernel_rfl), trivial⟩ (.bool false) (fun _ _ => by kernel_rfl) (fun _ => rfl)
            ·intro ρ' w' hk hs hf
             have hs761 := SP.below hs53 hk
             obtain ⟨w760, hww760⟩ : ∃ x, w' = x := ⟨_, rfl⟩
             subst hww760
             have e6 := hf 66 6 (by kernel_rfl)
             refine postKnown [(6, (.bool false))] ⟨e6, trivial⟩ ?_
             exact ⟨false, ⟨(by kernel_rfl), trivial⟩, SP.sel hs761 [] rfl rfl, H⟩
          ·have H := cf H hb523
           refine At.draw (by kernel_rfl) (by kernel_rfl) (by kernel_rfl) (by kernel_rfl) (by kernel_rfl) [FEq (.bool z7), FEq (.bool z7), FEq (.int .i64 p1), FRow eU8 z494, FEq (.string ⟨List.toArray z494⟩), FEq (.int .i64 p1), FRow eU8 z500, FEq (.string ⟨List.toArray z500⟩), FEq (.bool (z494 == z500)), FEq (.bool (z494 == z500)), FEq (.bool (z494 == z500)), FEq (.int .i64 z18.1), FEq (.int .i64 z24.1), FEq (.bool (z18.1 == z24.1)), FEq (.bool (z18.1 == z24.1)), FEq (.bool (z18.1 == z24.1)), FEq (.int .i64 z18.2.1), FEq (.int .i64 z24.2.1), FEq (.bool (z18.2.1 == z24.2.1)), FEq (.bool (z18.2.1 == z24.2.1)), FEq (.bool (z18.2.1 == z24.2.1)), FEq (.bool z18.2.2), FEq (.bool z24.2.2), FEq (.bool (z18.2.2 == z24.2.2)), FEq (.bool (z18.2.2 == z24.2.2)), FEq (.bool (z18.2.2 == z24.2.2)), FEq (.string ⟨List.toArray p6⟩), FRow eU8 z510, FEq (.string ⟨List.toArray z510⟩), FEq (.string ⟨List.toArray p6⟩), FRow eU8 z516, FEq (.string ⟨List.toArray z516⟩), FEq (.bool (z510 == z516)), FEq (.bool (z510 == z516)), FEq (.bool (z510 == z516)), FEq (.string ⟨List.toArray z30.1⟩), FEq (.string ⟨List.toArray z36.1⟩), FEq (.bool (z30.1 == z36.1)), FEq (.bool (z30.1 == z36.1)), FEq (.bool (z30.1 == z36.1)), FEq undef, FEq undef, FEq undef, FEq (.bool false), FEq (.bool false), FEq undef, FEq undef, FEq undef, FEq (.bool false), FEq (.bool false), FEq undef, FEq undef, FEq undef, FEq undef, FEq undef, FEq (.bool false), FEq (.bool false), FEq undef, FEq undef, FEq undef, FEq (.bool false), FEq (.bool false), FEq undef, FEq undef, FEq undef, FEq (.bool false), FEq (.bool false)] ⟨mono_eq _, mono_eq _, mono_eq _, mono_row _ _, mono_eq _, mono_eq _, mono_row _ _, mono_eq _, mono_eq _, mono_eq _, mono_eq _, mono_eq _, mono_eq _, mono_eq _, mono_eq _, mono_eq _, mono_eq _, mono_eq _, mono_eq _, mono_eq _, mono_eq _, mono_eq _, mono_eq _, mono_eq _, mono_eq _, mono_eq _, mono_eq _, mono_row _ _, mono_eq _, mono_eq _, mono_row _ _, mono_eq _, mono_eq _, mono_eq _, mono_eq _, mono_eq _, mono_eq _, mono_eq _, mono_eq _, mono_eq _, mono_eq _, mono_eq _, mono_eq _, mono_eq _, mono_eq _, mono_eq _, mono_eq _, mono_eq _, mono_eq _, mono_eq _, mono_eq _, mono_eq _, mono_eq _, mono_eq _, mono_eq _, mono_eq _, mono_eq _, mono_eq _, mono_eq _, mono_eq _, mono_eq _, mono_eq _, mono_eq _, mono_eq _, mono_eq _, mono_eq _, mono_eq _, trivial⟩ (N := 67) (by kernel_rfl) ⟨⟨⟨⟨⟨⟨⟨⟨⟨⟨⟨⟨⟨⟨⟨⟨⟨⟨⟨⟨⟨⟨⟨⟨⟨⟨⟨⟨⟨⟨⟨⟨⟨⟨⟨⟨⟨⟨⟨⟨⟨⟨⟨⟨⟨⟨⟨⟨⟨⟨⟨⟨⟨⟨⟨⟨⟨⟨⟨⟨⟨⟨⟨⟨⟨⟨⟨trivial, ?_⟩, ?_⟩, ?_⟩, ?_⟩, ?_⟩, ?_⟩, ?_⟩, ?_⟩, ?_⟩, ?_⟩, ?_⟩, ?_⟩, ?_⟩, ?_⟩, ?_⟩, ?_⟩, ?_⟩, ?_⟩, ?_⟩, ?_⟩, ?_⟩, ?_⟩, ?_⟩, ?_⟩, ?_⟩, ?_⟩, ?_⟩, ?_⟩, ?_⟩, ?_⟩, ?_⟩, ?_⟩, ?_⟩, ?_⟩, ?_⟩, ?_⟩, ?_⟩, ?_⟩, ?_⟩, ?_⟩, ?_⟩, ?_⟩, ?_⟩, ?_⟩, ?_⟩, ?_⟩, ?_⟩, ?_⟩, ?_⟩, ?_⟩, ?_⟩, ?_⟩, ?_⟩, ?_⟩, ?_⟩, ?_⟩, ?_⟩, ?_⟩, ?_⟩, ?_⟩, ?_⟩, ?_⟩, ?_⟩, ?_⟩, ?_⟩, ?_⟩, ?_⟩ ?_
           ·exact Owes.pure [(7, (.bool z7))] ⟨sS (by kernel_rfl) (by kernel_rfl), trivial⟩ (.bool z7) (fun _ _ => by kernel_rfl) (fun _ => rfl)
           ·exact Owes.pure [(68, (.bool z7))] ⟨sA 0 (by kernel_rfl) (by kernel_rfl), trivial⟩ (.bool z7) (fun _ _ => by kernel_rfl) (fun _ => rfl)
           ·exact Owes.pure [(0, (.int .i64 p1)), (69, (.bool true))] ⟨sS (by kernel_rfl) (by kernel_rfl), sB 1 (by kernel_rfl) z7 (by kernel_rfl) hb493, trivial⟩ (.int .i64 p1) (fun _ _ => by kernel_rfl) (fun _ => rfl)
           ·intro ρ' w' hk hs hah
            have e70 := hah 2 70 (by kernel_rfl)
            have e69 := hah 1 69 (by kernel_rfl)
            have hkn : Known ρ' [(70, (.int .i64 p1)), (69, (.bool true))] := ⟨e70, (Eq.trans e69 (congrArg Value.bool hb493)), trivial⟩
            refine Step.known _ hkn ?_
            have hs762 := SP.below hs53 hk
            refine Step.callF (f := 16) (fo := (.func 16)) (xs := #[(.tmp 70)]) (tys := #[2]) (first := #[]) (captured := #[]) (d := (some 71)) (k := 3) (by kernel_rfl) rfl (by kernel_rfl) (by kernel_rfl) Tryd.call16 (L_num_Put_walk  p1 w'  z494 hz495) ?_
            rintro e w763 ⟨A765, c766, rfl, hs764⟩
            exact ⟨_, rfl, SP.keeps hs764, _, updO_known hkn, ⟨_, _, rfl, SP.row_of hs764⟩⟩
           ·intro ρ' w' hk hs hah
            obtain ⟨A768, c769, e71, hr770⟩ := hah 3 71 (by kernel_rfl)
            have e69 := hah 1 69 (by kernel_rfl)
            have hkn : Known ρ' [(71, (.slice A768 (List.length z494) c769)), (69, (.bool true))] := ⟨e71, (Eq.trans e69 (congrArg Value.bool hb493)), trivial⟩
            refine Step.known _ hkn ?_
            have hs767 := SP.below hs53 hk
            refine Step.toStr (T := 22) (S' := 9) (E := 5) (x := (.tmp 71)) (A := A768) (c := c769) (l := z494) (d := (some 72)) (k := 4) (by kernel_rfl) rfl (by kernel_rfl) (by kernel_rfl) (by kernel_rfl) (by kernel_rfl) hr770 ?_
            exact ⟨Below.refl _ _, _, updO_known hkn, rfl⟩
           ·exact Owes.pure [(0, (.int .i64 p1)), (69, (.bool true))] ⟨sS (by kernel_rfl) (by kernel_rfl), sB 1 (by kernel_rfl) z7 (by kernel_rfl) hb493, trivial⟩ (.int .i64 p1) (fun _ _ => by kernel_rfl) (fun _ => rfl)
           ·intro ρ' w' hk hs hah
            have e73 := hah 5 73 (by kernel_rfl)
            have e69 := hah 1 69 (by kernel_rfl)
            have hkn : Known ρ' [(73, (.int .i64 p1)), (69, (.bool true))] := ⟨e73, (Eq.trans e69 (congrArg Value.bool hb493)), trivial⟩
            refine Step.known _ hkn ?_
            have hs771 := SP.below hs53 hk
            refine Step.callF (f := 17) (fo := (.func 17)) (xs := #[(.tmp 73)]) (tys := #[2]) (first := #[]) (captured := #[]) (d := (some 74)) (k := 6) (by kernel_rfl) rfl (by kernel_rfl) (by kernel_rfl) Tryd.call17 (L_subwayref01_Put_walk  p1 w'  z500 hz501) ?_
            rintro e w772 ⟨A774, c775, rfl, hs773⟩
            exact ⟨_, rfl, SP.keeps hs773, _, updO_known hkn, ⟨_, _, rfl, SP.row_of hs773⟩⟩
           ·intro ρ' w' hk hs hah
            obtain ⟨A777, c778, e74, hr779⟩ := hah 6 74 (by kernel_rfl)
            have e69 := hah 1 69 (by kernel_rfl)
            have hkn : Known ρ' [(74, (.slice A777 (List.length z500) c778)), (69, (.bool true))] := ⟨e74, (Eq.trans e69 (congrArg Value.bool hb493)), trivial⟩
            refine Step.known _ hkn ?_
            have hs776 := SP.below hs53 hk
            refine Step.toStr (T := 22) (S' := 9) (E := 5) (x := (.tmp 74)) (A := A777) (c := c778) (l := z500) (d := (some 75)) (k := 7) (by kernel_rfl) rfl (by kernel_rfl) (by kernel_rfl) (by kernel_rfl) (by kernel_rfl) hr779 ?_
            exact ⟨Below.refl _ _, _, updO_known hkn, rfl⟩
           ·intro ρ' w' hk hs hah
            have e72 := hah 4 72 (by kernel_rfl)
            have e75 := hah 7 75 (by kernel_rfl)
            have e69 := hah 1 69 (by kernel_rfl)
            have hkn : Known ρ' [(72, (.string ⟨List.toArray z494⟩)), (75, (.string ⟨List.toArray z500⟩)), (69, (.bool true))] := ⟨e72, e75, (Eq.trans e69 (congrArg Value.bool hb493)), trivial⟩
            refine Step.known _ hkn ?_
            have hs780 := SP.below hs53 hk
            refine Step.strOp (op := .eql) (T := 9) (T' := 9) (x := (.tmp 72)) (y := (.tmp 75)) (a := z494) (b := z500) (r := (.bool (z494 == z500))) (d := (some 76)) (k := 8) (by kernel_rfl) rfl (by kernel_rfl) (by kernel_rfl) rfl ?_
            exact ⟨Below.refl _ _, _, updO_known hkn, rfl⟩
           ·exact Owes.pure [(69, (.bool true)), (76, (.bool (z494 == z500)))] ⟨sB 1 (by kernel_rfl) z7 (by kernel_rfl) hb493, sA 8 (by kernel_rfl) (by kernel_rfl), trivial⟩ (.bool (z494 == z500)) (fun _ _ => by kernel_rfl) (fun _ => rfl)
           ·exact Owes.pure [(77, (.bool (z494 == z500)))] ⟨sA 9 (by kernel_rfl) (by kernel_rfl), trivial⟩ (.bool (z494 == z500)) (fun _ _ => by kernel_rfl) (fun _ => rfl)
           ·exact Owes.pure [(8, (.int .i64 z18.1)), (78, (.bool true))] ⟨sS (by kernel_rfl) (by kernel_rfl), sB 10 (by kernel_rfl) (z494 == z500) (by kernel_rfl) hb506, trivial⟩ (.int .i64 z18.1) (fun _ _ => by kernel_rfl) (fun _ => rfl)
           ·exact Owes.pure [(11, (.int .i64 z24.1)), (78, (.bool true))] ⟨sS (by kernel_rfl) (by kernel_rfl), sB 10 (by kernel_rfl) (z494 == z500) (by kernel_rfl) hb506, trivial⟩ (.int .i64 z24.1) (fun _ _ => by kernel_rfl) (fun _ => rfl)
           ·exact Owes.pure [(79, (.int .i64 z18.1)), (80, (.int .i64 z24.1)), (78, (.bool true))] ⟨sA 11 (by kernel_rfl) (by kernel_rfl), sA 12 (by kernel_rfl) (by kernel_rfl), sB 10 (by kernel_rfl) (z494 == z500) (by kernel_rfl) hb506, trivial⟩ (.bool (z18.1 == z24.1)) (fun _ _ => by kernel_rfl) (fun _ => rfl)
           ·exact Owes.pure [(78, (.bool true)), (81, (.bool (z18.1 == z24.1)))] ⟨sB 10 (by kernel_rfl) (z494 == z500) (by kernel_rfl) hb506, sA 13 (by kernel_rfl) (by kernel_rfl), trivial⟩ (.bool (z18.1 == z24.1)) (fun _ _ => by kernel_rfl) (fun _ => rfl)
           ·exact Owes.pure [(82, (.bool (z18.1 == z24.1)))] ⟨sA 14 (by kernel_rfl) (by kernel_rfl), trivial⟩ (.bool (z18.1 == z24.1)) (fun _ _ => by kernel_rfl) (fun _ => rfl)
           ·exact Owes.pure [(9, (.int .i64 z18.2.1)), (83, (.bool true))] ⟨sS (by kernel_rfl) (by kernel_rfl), sB 15 (by kernel_rfl) (z18.1 == z24.1) (by kernel_rfl) hb507, trivial⟩ (.int .i64 z18.2.1) (fun _ _ => by kernel_rfl) (fun _ => rfl)
           ·exact Owes.pure [(12, (.int .i64 z24.2.1)), (83, (.bool true))] ⟨sS (by kernel_rfl) (by kernel_rfl), sB 15 (by kernel_rfl) (z18.1 == z24.1) (by kernel_rfl) hb507, trivial⟩ (.int .i64 z24.2.1) (fun _ _ => by kernel_rfl) (fun _ => rfl)
           ·exact Owes.pure [(84, (.int .i64 z18.2.1)), (85, (.int .i64 z24.2.1)), (83, (.bool true))] ⟨sA 16 (by kernel_rfl) (by kernel_rfl), sA 17 (by kernel_rfl) (by kernel_rfl), sB 15 (by kernel_rfl) (z18.1 == z24.1) (by kernel_rfl) hb507, trivial⟩ (.bool (z18.2.1 == z24.2.1)) (fun _ _ => by kernel_rfl) (fun _ => rfl)
           ·exact Owes.pure [(83, (.bool true)), (86, (.bool (z18.2.1 == z24.2.1)))] ⟨sB 15 (by kernel_rfl) (z18.1 == z24.1) (by kernel_rfl) hb507, sA 18 (by kernel_rfl) (by kernel_rfl), trivial⟩ (.bool (z18.2.1 == z24.2.1)) (fun _ _ => by kernel_rfl) (fun _ => rfl)
           ·exact Owes.pure [(87, (.bool (z18.2.1 == z24.2.1)))] ⟨sA 19 (by kernel_rfl) (by kernel_rfl), trivial⟩ (.bool (z18.2.1 == z24.2.1)) (fun _ _ => by kernel_rfl) (fun _ => rfl)
           ·exact Owes.pure [(10, (.bool z18.2.2)), (88, (.bool true))] ⟨sS (by kernel_rfl) (by kernel_rfl), sB 20 (by kernel_rfl) (z18.2.1 == z24.2.1) (by kernel_rfl) hb508, trivial⟩ (.bool z18.2.2) (fun _ _ => by kernel_rfl) (fun _ => rfl)
           ·exact Owes.pure [(13, (.bool z24.2.2)), (88, (.bool true))] ⟨sS (by kernel_rfl) (by kernel_rfl), sB 20 (by kernel_rfl) (z18.2.1 == z24.2.1) (by kernel_rfl) hb508, trivial⟩ (.bool z24.2.2) (fun _ _ => by kernel_rfl) (fun _ => rfl)
           ·exact Owes.pure [(89, (.bool z18.2.2)), (90, (.bool z24.2.2)), (88, (.bool true))] ⟨sA 21 (by kernel_rfl) (by kernel_rfl), sA 22 (by kernel_rfl) (by kernel_rfl), sB 20 (by kernel_rfl) (z18.2.1 == z24.2.1) (by kernel_rfl) hb508, trivial⟩ (.bool (z18.2.2 == z24.2.2)) (fun _ _ => by kernel_rfl) (fun _ => rfl)
           ·exact Owes.pure [(88, (.bool true)), (91, (.bool (z18.2.2 == z24.2.2)))] ⟨sB 20 (by kernel_rfl) (z18.2.1 == z24.2.1) (by kernel_rfl) hb508, sA 23 (by kernel_rfl) (by kernel_rfl), trivial⟩ (.bool (z18.2.2 == z24.2.2)) (fun _ _ => by kernel_rfl) (fun _ => rfl)
           ·exact Owes.pure [(92, (.bool (z18.2.2 == z24.2.2)))] ⟨sA 24 (by kernel_rfl) (by kernel_rfl), trivial⟩ (.bool (z18.2.2 == z24.2.2)) (fun _ _ => by kernel_rfl) (fun _ => rfl)
           ·exact Owes.pure [(2, (.string ⟨List.toArray p6⟩)), (93, (.bool true))] ⟨sS (by kernel_rfl) (by kernel_rfl), sB 25 (by kernel_rfl) (z18.2.2 == z24.2.2) (by kernel_rfl) hb509, trivial⟩ (.string ⟨List.toArray p6⟩) (fun _ _ => by kernel_rfl) (fun _ => rfl)
           ·intro ρ' w' hk hs hah
            have e94 := hah 26 94 (by kernel_rfl)
            have e93 := hah 25 93 (by kernel_rfl)
            have hkn : Known ρ' [(94, (.string ⟨List.toArray p6⟩)), (93, (.bool true))] := ⟨e94, (Eq.trans e93 (congrArg Value.bool hb509)), trivial⟩
            refine Step.known _ hkn ?_
            have hs781 := SP.below hs53 hk
            refine Step.callF (f := 18) (fo := (.func 18)) (xs := #[(.tmp 94)]) (tys := #[9]) (first := #[]) (captured := #[]) (d := (some 95)) (k := 27) (by kernel_rfl) rfl (by kernel_rfl) (by kernel_rfl) Tryd.call18 (L_num_Text_walk  p6 w'  z510 hz511) ?_
            rintro e w782 ⟨A784, c785, rfl, hs783⟩
            exact ⟨_, rfl, SP.keeps hs783, _, updO_known hkn, ⟨_, _, rfl, SP.row_of hs783⟩⟩
           ·intro ρ' w' hk hs hah
            obtain ⟨A787, c788, e95, hr789⟩ := hah 27 95 (by kernel_rfl)
            have e93 := hah 25 93 (by kernel_rfl)
            have hkn : Known ρ' [(95, (.slice A787 (List.length z510) c788)), (93, (.bool true))] := ⟨e95, (Eq.trans e93 (congrArg Value.bool hb509)), trivial⟩
            refine Step.known _ hkn ?_
            have hs786 := SP.below hs53 hk
            refine Step.toStr (T := 22) (S' := 9) (E := 5) (x := (.tmp 95)) (A := A787) (c := c788) (l := z510) (d := (some 96)) (k := 28) (by kernel_rfl) rfl (by kernel_rfl) (by kernel_rfl) (by kernel_rfl) (by kernel_rfl) hr789 ?_
            exact ⟨Below.refl _ _, _, updO_known hkn, rfl⟩
           ·exact Owes.pure [(2, (.string ⟨List.toArray p6⟩)), (93, (.bool true))] ⟨sS (by kernel_rfl) (by kernel_rfl), sB 25 (by kernel_rfl) (z18.2.2 == z24.2.2) (by kernel_rfl) hb509, trivial⟩ (.string ⟨List.toArray p6⟩) (fun _ _ => by kernel_rfl) (fun _ => rfl)
           ·intro ρ' w' hk hs hah
            have e97 := hah 29 97 (by kernel_rfl)
            have e93 := hah 25 93 (by kernel_rfl)
            have hkn : Known ρ' [(97, (.string ⟨List.toArray p6⟩)), (93, (.bool true))] := ⟨e97, (Eq.trans e93 (congrArg Value.bool hb509)), trivial⟩
            refine Step.known _ hkn ?_
            have hs790 := SP.below hs53 hk
            refine Step.callF (f := 19) (fo := (.func 19)) (xs := #[(.tmp 97)]) (tys := #[9]) (first := #[]) (captured := #[]) (d := (some 98)) (k := 30) (by kernel_rfl) rfl (by kernel_rfl) (by kernel_rfl) Tryd.call19 (L_subwayref01_Text_walk  p6 w'  z516 hz517) ?_
            rintro e w791 ⟨A793, c794, rfl, hs792⟩
            exact ⟨_, rfl, SP.keeps hs792, _, updO_known hkn, ⟨_, _, rfl, SP.row_of hs792⟩⟩
           ·intro ρ' w' hk hs hah
            obtain ⟨A796, c797, e98, hr798⟩ := hah 30 98 (by kernel_rfl)
            have e93 := hah 25 93 (by kernel_rfl)
            have hkn : Known ρ' [(98, (.slice A796 (List.length z516) c797)), (93, (.bool true))] := ⟨e98, (Eq.trans e93 (congrArg Value.bool hb509)), trivial⟩
            refine Step.known _ hkn ?_
            have hs795 := SP.below hs53 hk
            refine Step.toStr (T := 22) (S' := 9) (E := 5) (x := (.tmp 98)) (A := A796) (c := c797) (l := z516) (d := (some 99)) (k := 31) (by kernel_rfl) rfl (by kernel_rfl) (by kernel_rfl) (by kernel_rfl) (by kernel_rfl) hr798 ?_
            exact ⟨Below.refl _ _, _, updO_known hkn, rfl⟩
           ·intro ρ' w' hk hs hah
            have e96 := hah 28 96 (by kernel_rfl)
            have e99 := hah 31 99 (by kernel_rfl)
            have e93 := hah 25 93 (by kernel_rfl)
            have hkn : Known ρ' [(96, (.string ⟨List.toArray z510⟩)), (99, (.string ⟨List.toArray z516⟩)), (93, (.bool true))] := ⟨e96, e99, (Eq.trans e93 (congrArg Value.bool hb509)), trivial⟩
            refine Step.known _ hkn ?_
            have hs799 := SP.below hs53 hk
            refine Step.strOp (op := .eql) (T := 9) (T' := 9) (x := (.tmp 96)) (y := (.tmp 99)) (a := z510) (b := z516) (r := (.bool (z510 == z516))) (d := (some 100)) (k := 32) (by kernel_rfl) rfl (by kernel_rfl) (by kernel_rfl) rfl ?_
            exact ⟨Below.refl _ _, _, updO_known hkn, rfl⟩
           ·exact Owes.pure [(93, (.bool true)), (100, (.bool (z510 == z516)))] ⟨sB 25 (by kernel_rfl) (z18.2.2 == z24.2.2) (by kernel_rfl) hb509, sA 32 (by kernel_rfl) (by kernel_rfl), trivial⟩ (.bool (z510 == z516)) (fun _ _ => by kernel_rfl) (fun _ => rfl)
           ·exact Owes.pure [(101, (.bool (z510 == z516)))] ⟨sA 33 (by kernel_rfl) (by kernel_rfl), trivial⟩ (.bool (z510 == z516)) (fun _ _ => by kernel_rfl) (fun _ => rfl)
           ·exact Owes.pure [(14, (.string ⟨List.toArray z30.1⟩)), (102, (.bool true))] ⟨sS (by kernel_rfl) (by kernel_rfl), sB 34 (by kernel_rfl) (z510 == z516) (by kernel_rfl) hb522, trivial⟩ (.string ⟨List.toArray z30.1⟩) (fun _ _ => by kernel_rfl) (fun _ => rfl)
           ·exact Owes.pure [(17, (.string ⟨List.toArray z36.1⟩)), (102, (.bool true))] ⟨sS (by kernel_rfl) (by kernel_rfl), sB 34 (by kernel_rfl) (z510 == z516) (by kernel_rfl) hb522, trivial⟩ (.string ⟨List.toArray z36.1⟩) (fun _ _ => by kernel_rfl) (fun _ => rfl)
           ·intro ρ' w' hk hs hah
            have e103 := hah 35 103 (by kernel_rfl)
            have e104 := hah 36 104 (by kernel_rfl)
            have e102 := hah 34 102 (by kernel_rfl)
            have hkn : Known ρ' [(103, (.string ⟨List.toArray z30.1⟩)), (104, (.string ⟨List.toArray z36.1⟩)), (102, (.bool true))] := ⟨e103, e104, (Eq.trans e102 (congrArg Value.bool hb522)), trivial⟩
            refine Step.known _ hkn ?_
            have hs800 := SP.below hs53 hk
            refine Step.strOp (op := .eql) (T := 9) (T' := 9) (x := (.tmp 103)) (y := (.tmp 104)) (a := z30.1) (b := z36.1) (r := (.bool (z30.1 == z36.1))) (d := (some 105)) (k := 37) (by kernel_rfl) rfl (by kernel_rfl) (by kernel_rfl) rfl ?_
            exact ⟨Below.refl _ _, _, updO_known hkn, rfl⟩
           ·exact Owes.pure [(102, (.bool true)), (105, (.bool (z30.1 == z36.1)))] ⟨sB 34 (by kernel_rfl) (z510 == z516) (by kernel_rfl) hb522, sA 37 (by kernel_rfl) (by kernel_rfl), trivial⟩ (.bool (z30.1 == z36.1)) (fun _ _ => by kernel_rfl) (fun _ => rfl)
           ·exact Owes.pure [(106, (.bool (z30.1 == z36.1)))] ⟨sA 38 (by kernel_rfl) (by kernel_rfl), trivial⟩ (.bool (z30.1 == z36.1)) (fun _ _ => by kernel_rfl) (fun _ => rfl)
           ·exact Owes.skip [(107, (.bool false))] ⟨sB 39 (by kernel_rfl) (z30.1 == z36.1) (by kernel_rfl) hb523, trivial⟩ (some 108) (fun _ => by kernel_rfl) (by kernel_rfl) (fun _ => rfl)
           ·exact Owes.skip [(107, (.bool false))] ⟨sB 39 (by kernel_rfl) (z30.1 == z36.1) (by kernel_rfl) hb523, trivial⟩ (some 109) (fun _ => by kernel_rfl) (by kernel_rfl) (fun _ => rfl)
           ·exact Owes.skip [(107, (.bool false))] ⟨sB 39 (by kernel_rfl) (z30.1 == z36.1) (by kernel_rfl) hb523, trivial⟩ (some 110) (fun _ => by kernel_rfl) (by kernel_rfl) (fun _ => rfl)
           ·exact Owes.pure [(107, (.bool false)), (110, undef)] ⟨sB 39 (by kernel_rfl) (z30.1 == z36.1) (by kernel_rfl) hb523, sA 42 (by kernel_rfl) (by kernel_rfl), trivial⟩ (.bool false) (fun _ _ => by kernel_rfl) (fun _ => rfl)
           ·exact Owes.pure [(111, (.bool false))] ⟨sA 43 (by kernel_rfl) (by kernel_rfl), trivial⟩ (.bool false) (fun _ _ => by kernel_rfl) (fun _ => rfl)
           ·exact Owes.skip [(112, (.bool false))] ⟨sA 44 (by kernel_rfl) (by kernel_rfl), trivial⟩ (some 113) (fun _ => by kernel_rfl) (by kernel_rfl) (fun _ => rfl)
           ·exact Owes.skip [(112, (.bool false))] ⟨sA 44 (by kernel_rfl) (by kernel_rfl), trivial⟩ (some 114) (fun _ => by kernel_rfl) (by kernel_rfl) (fun _ => rfl)
           ·exact Owes.skip [(112, (.bool false))] ⟨sA 44 (by kernel_rfl) (by kernel_rfl), trivial⟩ (some 115) (fun _ => by kernel_rfl) (by kernel_rfl) (fun _ => rfl)
           ·exact Owes.pure [(112, (.bool false)), (115, undef)] ⟨sA 44 (by kernel_rfl) (by kernel_rfl), sA 47 (by kernel_rfl) (by kernel_rfl), trivial⟩ (.bool false) (fun _ _ => by kernel_rfl) (fun _ => rfl)
           ·exact Owes.pure [(116, (.bool false))] ⟨sA 48 (by kernel_rfl) (by kernel_rfl), trivial⟩ (.bool false) (fun _ _ => by kernel_rfl) (fun _ => rfl)
           ·exact Owes.skip [(117, (.bool false))] ⟨sA 49 (by kernel_rfl) (by kernel_rfl), trivial⟩ (some 118) (fun _ => by kernel_rfl) (by kernel_rfl) (fun _ => rfl)
           ·exact Owes.skip [(117, (.bool false))] ⟨sA 49 (by kernel_rfl) (by kernel_rfl), trivial⟩ (some 119) (fun _ => by kernel_rfl) (by kernel_rfl) (fun _ => rfl)
           ·exact Owes.skip [(117, (.bool false))] ⟨sA 49 (by kernel_rfl) (by kernel_rfl), trivial⟩ (some 120) (fun _ => by kernel_rfl) (by kernel_rfl) (fun _ => rfl)
           ·exact Owes.skip [(117, (.bool false))] ⟨sA 49 (by kernel_rfl) (by kernel_rfl), trivial⟩ (some 121) (fun _ => by kernel_rfl) (by kernel_rfl) (fun _ => rfl)
           ·exact Owes.skip [(117, (.bool false))] ⟨sA 49 (by kernel_rfl) (by kernel_rfl), trivial⟩ (some 122) (fun _ => by kernel_rfl) (by kernel_rfl) (fun _ => rfl)
           ·exact Owes.pure [(117, (.bool false)), (122, undef)] ⟨sA 49 (by kernel_rfl) (by kernel_rfl), sA 54 (by kernel_rfl) (by kernel_rfl), trivial⟩ (.bool false) (fun _ _ => by kernel_rfl) (fun _ => rfl)
           ·exact Owes.pure [(123, (.bool false))] ⟨sA 55 (by kernel_rfl) (by kernel_rfl), trivial⟩ (.bool false) (fun _ _ => by kernel_rfl) (fun _ => rfl)
           ·exact Owes.skip [(124, (.bool false))] ⟨sA 56 (by kernel_rfl) (by kernel_rfl), trivial⟩ (some 125) (fun _ => by kernel_rfl) (by kernel_rfl) (fun _ => rfl)
           ·exact Owes.skip [(124, (.bool false))] ⟨sA 56 (by kernel_rfl) (by kernel_rfl), trivial⟩ (some 126) (fun _ => by kernel_rfl) (by kernel_rfl) (fun _ => rfl)
           ·exact Owes.skip [(124, (.bool false))] ⟨sA 56 (by kernel_rfl) (by kernel_rfl), trivial⟩ (some 127) (fun _ => by kernel_rfl) (by kernel_rfl) (fun _ => rfl)
           ·exact Owes.pure [(124, (.bool false)), (127, undef)] ⟨sA 56 (by kernel_rfl) (by kernel_rfl), sA 59 (by kernel_rfl) (by kernel_rfl), trivial⟩ (.bool false) (fun _ _ => by kernel_rfl) (fun _ => rfl)
           ·exact Owes.pure [(128, (.bool false))] ⟨sA 60 (by kernel_rfl) (by kernel_rfl), trivial⟩ (.bool false) (fun _ _ => by kernel_rfl) (fun _ => rfl)
           ·exact Owes.skip [(129, (.bool false))] ⟨sA 61 (by kernel_rfl) (by kernel_rfl), trivial⟩ (some 130) (fun _ => by kernel_rfl) (by kernel_rfl) (fun _ => rfl)
           ·exact Owes.skip [(129, (.bool false))] ⟨sA 61 (by kernel_rfl) (by kernel_rfl), trivial⟩ (some 131) (fun _ => by kernel_rfl) (by kernel_rfl) (fun _ => rfl)
           ·exact Owes.skip [(129, (.bool false))] ⟨sA 61 (by kernel_rfl) (by kernel_rfl), trivial⟩ (some 132) (fun _ => by kernel_rfl) (by kernel_rfl) (fun _ => rfl)
           ·exact Owes.pure [(129, (.bool false)), (132, undef)] ⟨sA 61 (by kernel_rfl) (by kernel_rfl), sA 64 (by kernel_rfl) (by kernel_rfl), trivial⟩ (.bool false) (fun _ _ => by kernel_rfl) (fun _ => rfl)
           ·exact Owes.pure [(133, (.bool false))] ⟨sA 65 (by kernel_rfl) (by kernel_rfl), trivial⟩ (.bool false) (fun _ _ => by kernel_rfl) (fun _ => rfl)
           ·intro ρ' w' hk hs hf
            have hs802 := SP.below hs53 hk
            obtain ⟨w801, hww801⟩ : ∃ x, w' = x := ⟨_, rfl⟩
            subst hww801
            have e6 := hf 66 6 (by kernel_rfl)
            refine postKnown [(6, (.bool false))] ⟨e6, trivial⟩ ?_
            exact ⟨false, ⟨(by kernel_rfl), trivial⟩, SP.sel hs802 [] rfl rfl, H⟩
         ·have H := cf H hb522
          refine At.draw (by kernel_rfl) (by kernel_rfl) (by kernel_rfl) (by kernel_rfl) (by kernel_rfl) [FEq (.bool z7), FEq (.bool z7), FEq (.int .i64 p1), FRow eU8 z494, FEq (.string ⟨List.toArray z494⟩), FEq (.int .i64 p1), FRow eU8 z500, FEq (.string ⟨List.toArray z500⟩), FEq (.bool (z494 == z500)), FEq (.bool (z494 == z500)), FEq (.bool (z494 == z500)), FEq (.int .i64 z18.1), FEq (.int .i64 z24.1), FEq (.bool (z18.1 == z24.1)), FEq (.bool (z18.1 == z24.1)), FEq (.bool (z18.1 == z24.1)), FEq (.int .i64 z18.2.1), FEq (.int .i64 z24.2.1), FEq (.bool (z18.2.1 == z24.2.1)), FEq (.bool (z18.2.1 == z24.2.1)), FEq (.bool (z18.2.1 == z24.2.1)), FEq (.bool z18.2.2), FEq (.bool z24.2.2), FEq (.bool (z18.2.2 == z24.2.2)), FEq (.bool (z18.2.2 == z24.2.2)), FEq (.bool (z18.2.2 == z24.2.2)), FEq (.string ⟨List.toArray p6⟩), FRow eU8 z510, FEq (.string ⟨List.toArray z510⟩), FEq (.string ⟨List.toArray p6⟩), FRow eU8 z516, FEq (.string ⟨List.toArray z516⟩), FEq (.bool (z510 == z516)), FEq (.bool (z510 == z516)), FEq (.bool (z510 == z516)), FEq undef, FEq undef, FEq undef, FEq (.bool false), FEq (.bool false), FEq undef, FEq undef, FEq undef, FEq (.bool false), FEq (.bool false), FEq undef, FEq undef, FEq undef, FEq (.bool false), FEq (.bool false), FEq undef, FEq undef, FEq undef, FEq undef, FEq undef, FEq (.bool false), FEq (.bool false), FEq undef, FEq undef, FEq undef, FEq (.bool false), FEq (.bool false), FEq undef, FEq undef, FEq undef, FEq (.bool false), FEq (.bool false)] ⟨mono_eq _, mono_eq _, mono_eq _, mono_row _ _, mono_eq _, mono_eq _, mono_row _ _, mono_eq _, mono_eq _, mono_eq _, mono_eq _, mono_eq _, mono_eq _, mono_eq _, mono_eq _, mono_eq _, mono_eq _, mono_eq _, mono_eq _, mono_eq _, mono_eq _, mono_eq _, mono_eq _, mono_eq _, mono_eq _, mono_eq _, mono_eq _, mono_row _ _, mono_eq _, mono_eq _, mono_row _ _, mono_eq _, mono_eq _, mono_eq _, mono_eq _, mono_eq _, mono_eq _, mono_eq _, mono_eq _, mono_eq _, mono_eq _, mono_eq _, mono_eq _, mono_eq _, mono_eq _, mono_eq _, mono_eq _, mono_eq _, mono_eq _, mono_eq _, mono_eq _, mono_eq _, mono_eq _, mono_eq _, mono_eq _, mono_eq _, mono_eq _, mono_eq _, mono_eq _, mono_eq _, mono_eq _, mono_eq _, mono_eq _, mono_eq _, mono_eq _, mono_eq _, mono_eq _, trivial⟩ (N := 67) (by kernel_rfl) ⟨⟨⟨⟨⟨⟨⟨⟨⟨⟨⟨⟨⟨⟨⟨⟨⟨⟨⟨⟨⟨⟨⟨⟨⟨⟨⟨⟨⟨⟨⟨⟨⟨⟨⟨⟨⟨⟨⟨⟨⟨⟨⟨⟨⟨⟨⟨⟨⟨⟨⟨⟨⟨⟨⟨⟨⟨⟨⟨⟨⟨⟨⟨⟨⟨⟨⟨trivial, ?_⟩, ?_⟩, ?_⟩, ?_⟩, ?_⟩, ?_⟩, ?_⟩, ?_⟩, ?_⟩, ?_⟩, ?_⟩, ?_⟩, ?_⟩, ?_⟩, ?_⟩, ?_⟩, ?_⟩, ?_⟩, ?_⟩, ?_⟩, ?_⟩, ?_⟩, ?_⟩, ?_⟩, ?_⟩, ?_⟩, ?_⟩, ?_⟩, ?_⟩, ?_⟩, ?_⟩, ?_⟩, ?_⟩, ?_⟩, ?_⟩, ?_⟩, ?_⟩, ?_⟩, ?_⟩, ?_⟩, ?_⟩, ?_⟩, ?_⟩, ?_⟩, ?_⟩, ?_⟩, ?_⟩, ?_⟩, ?_⟩, ?_⟩, ?_⟩, ?_⟩, ?_⟩, ?_⟩, ?_⟩, ?_⟩, ?_⟩, ?_⟩, ?_⟩, ?_⟩, ?_⟩, ?_⟩, ?_⟩, ?_⟩, ?_⟩, ?_⟩, ?_⟩ ?_
          ·exact Owes.pure [(7, (.bool z7))] ⟨sS (by kernel_rfl) (by kernel_rfl), trivial⟩ (.bool z7) (fun _ _ => by kernel_rfl) (fun _ => rfl)
          ·exact Owes.pure [(68, (.bool z7))] ⟨sA 0 (by kernel_rfl) (by kernel_rfl), trivial⟩ (.bool z7) (fun _ _ => by kernel_rfl) (fun _ => rfl)
          ·exact Owes.pure [(0, (.int .i64 p1)), (69, (.bool true))] ⟨sS (by kernel_rfl) (by kernel_rfl), sB 1 (by kernel_rfl) z7 (by kernel_rfl) hb493, trivial⟩ (.int .i64 p1) (fun _ _ => by kernel_rfl) (fun _ => rfl)
          ·intro ρ' w' hk hs hah
           have e70 := hah 2 70 (by kernel_rfl)
           have e69 := hah 1 69 (by kernel_rfl)
           have hkn : Known ρ' [(70, (.int .i64 p1)), (69, (.bool true))] := ⟨e70, (Eq.trans e69 (congrArg Value.bool hb493)), trivial⟩
           refine Step.known _ hkn ?_
           have hs803 := SP.below hs53 hk
           refine Step.callF (f := 16) (fo := (.func 16)) (xs := #[(.tmp 70)]) (tys := #[2]) (first := #[]) (captured := #[]) (d := (some 71)) (k := 3) (by kernel_rfl) rfl (by kernel_rfl) (by kernel_rfl) Tryd.call16 (L_num_Put_walk  p1 w'  z494 hz495) ?_
           rintro e w804 ⟨A806, c807, rfl, hs805⟩
           exact ⟨_, rfl, SP.keeps hs805, _, updO_known hkn, ⟨_, _, rfl, SP.row_of hs805⟩⟩
          ·intro ρ' w' hk hs hah
           obtain ⟨A809, c810, e71, hr811⟩ := hah 3 71 (by kernel_rfl)
           have e69 := hah 1 69 (by kernel_rfl)
           have hkn : Known ρ' [(71, (.slice A809 (List.length z494) c810)), (69, (.bool true))] := ⟨e71, (Eq.trans e69 (congrArg Value.bool hb493)), trivial⟩
           refine Step.known _ hkn ?_
           have hs808 := SP.below hs53 hk
           refine Step.toStr (T := 22) (S' := 9) (E := 5) (x := (.tmp 71)) (A := A809) (c := c810) (l := z494) (d := (some 72)) (k := 4) (by kernel_rfl) rfl (by kernel_rfl) (by kernel_rfl) (by kernel_rfl) (by kernel_rfl) hr811 ?_
           exact ⟨Below.refl _ _, _, updO_known hkn, rfl⟩
          ·exact Owes.pure [(0, (.int .i64 p1)), (69, (.bool true))] ⟨sS (by kernel_rfl) (by kernel_rfl), sB 1 (by kernel_rfl) z7 (by kernel_rfl) hb493, trivial⟩ (.int .i64 p1) (fun _ _ => by kernel_rfl) (fun _ => rfl)
          ·intro ρ' w' hk hs hah
           have e73 := hah 5 73 (by kernel_rfl)
           have e69 := hah 1 69 (by kernel_rfl)
           have hkn : Known ρ' [(73, (.int .i64 p1)), (69, (.bool true))] := ⟨e73, (Eq.trans e69 (congrArg Value.bool hb493)), trivial⟩
           refine Step.known _ hkn ?_
           have hs812 := SP.below hs53 hk
           refine Step.callF (f := 17) (fo := (.func 17)) (xs := #[(.tmp 73)]) (tys := #[2]) (first := #[]) (captured := #[]) (d := (some 74)) (k := 6) (by kernel_rfl) rfl (by kernel_rfl) (by kernel_rfl) Tryd.call17 (L_subwayref01_Put_walk  p1 w'  z500 hz501) ?_
           rintro e w813 ⟨A815, c816, rfl, hs814⟩
           exact ⟨_, rfl, SP.keeps hs814, _, updO_known hkn, ⟨_, _, rfl, SP.row_of hs814⟩⟩
          ·intro ρ' w' hk hs hah
           obtain ⟨A818, c819, e74, hr820⟩ := hah 6 74 (by kernel_rfl)
           have e69 := hah 1 69 (by kernel_rfl)
           have hkn : Known ρ' [(74, (.slice A818 (List.length z500) c819)), (69, (.bool true))] := ⟨e74, (Eq.trans e69 (congrArg Value.bool hb493)), trivial⟩
           refine Step.known _ hkn ?_
           have hs817 := SP.below hs53 hk
           refine Step.toStr (T := 22) (S' := 9) (E := 5) (x := (.tmp 74)) (A := A818) (c := c819) (l := z500) (d := (some 75)) (k := 7) (by kernel_rfl) rfl (by kernel_rfl) (by kernel_rfl) (by kernel_rfl) (by kernel_rfl) hr820 ?_
           exact ⟨Below.refl _ _, _, updO_known hkn, rfl⟩
          ·intro ρ' w' hk hs hah
           have e72 := hah 4 72 (by kernel_rfl)
           have e75 := hah 7 75 (by kernel_rfl)
           have e69 := hah 1 69 (by kernel_rfl)
           have hkn : Known ρ' [(72, (.string ⟨List.toArray z494⟩)), (75, (.string ⟨List.toArray z500⟩)), (69, (.bool true))] := ⟨e72, e75, (Eq.trans e69 (congrArg Value.bool hb493)), trivial⟩
           refine Step.known _ hkn ?_
           have hs821 := SP.below hs53 hk
           refine Step.strOp (op := .eql) (T := 9) (T' := 9) (x := (.tmp 72)) (y := (.tmp 75)) (a := z494) (b := z500) (r := (.bool (z494 == z500))) (d := (some 76)) (k := 8) (by kernel_rfl) rfl (by kernel_rfl) (by kernel_rfl) rfl ?_
           exact ⟨Below.refl _ _, _, updO_known hkn, rfl⟩
          ·exact Owes.pure [(69, (.bool true)), (76, (.bool (z494 == z500)))] ⟨sB 1 (by kernel_rfl) z7 (by kernel_rfl) hb493, sA 8 (by kernel_rfl) (by kernel_rfl), trivial⟩ (.bool (z494 == z500)) (fun _ _ => by kernel_rfl) (fun _ => rfl)
          ·exact Owes.pure [(77, (.bool (z494 == z500)))] ⟨sA 9 (by kernel_rfl) (by kernel_rfl), trivial⟩ (.bool (z494 == z500)) (fun _ _ => by kernel_rfl) (fun _ => rfl)
          ·exact Owes.pure [(8, (.int .i64 z18.1)), (78, (.bool true))] ⟨sS (by kernel_rfl) (by kernel_rfl), sB 10 (by kernel_rfl) (z494 == z500) (by kernel_rfl) hb506, trivial⟩ (.int .i64 z18.1) (fun _ _ => by kernel_rfl) (fun _ => rfl)
          ·exact Owes.pure [(11, (.int .i64 z24.1)), (78, (.bool true))] ⟨sS (by kernel_rfl) (by kernel_rfl), sB 10 (by kernel_rfl) (z494 == z500) (by kernel_rfl) hb506, trivial⟩ (.int .i64 z24.1) (fun _ _ => by kernel_rfl) (fun _ => rfl)
          ·exact Owes.pure [(79, (.int .i64 z18.1)), (80, (.int .i64 z24.1)), (78, (.bool true))] ⟨sA 11 (by kernel_rfl) (by kernel_rfl), sA 12 (by kernel_rfl) (by kernel_rfl), sB 10 (by kernel_rfl) (z494 == z500) (by kernel_rfl) hb506, trivial⟩ (.bool (z18.1 == z24.1)) (fun _ _ => by kernel_rfl) (fun _ => rfl)
          ·exact Owes.pure [(78, (.bool true)), (81, (.bool (z18.1 == z24.1)))] ⟨sB 10 (by kernel_rfl) (z494 == z500) (by kernel_rfl) hb506, sA 13 (by kernel_rfl) (by kernel_rfl), trivial⟩ (.bool (z18.1 == z24.1)) (fun _ _ => by kernel_rfl) (fun _ => rfl)
          ·exact Owes.pure [(82, (.bool (z18.1 == z24.1)))] ⟨sA 14 (by kernel_rfl) (by kernel_rfl), trivial⟩ (.bool (z18.1 == z24.1)) (fun _ _ => by kernel_rfl) (fun _ => rfl)
          ·exact Owes.pure [(9, (.int .i64 z18.2.1)), (83, (.bool true))] ⟨sS (by kernel_rfl) (by kernel_rfl), sB 15 (by kernel_rfl) (z18.1 == z24.1) (by kernel_rfl) hb507, trivial⟩ (.int .i64 z18.2.1) (fun _ _ => by kernel_rfl) (fun _ => rfl)
          ·exact Owes.pure [(12, (.int .i64 z24.2.1)), (83, (.bool true))] ⟨sS (by kernel_rfl) (by kernel_rfl), sB 15 (by kernel_rfl) (z18.1 == z24.1) (by kernel_rfl) hb507, trivial⟩ (.int .i64 z24.2.1) (fun _ _ => by kernel_rfl) (fun _ => rfl)
          ·exact Owes.pure [(84, (.int .i64 z18.2.1)), (85, (.int .i64 z24.2.1)), (83, (.bool true))] ⟨sA 16 (by kernel_rfl) (by kernel_rfl), sA 17 (by kernel_rfl) (by kernel_rfl), sB 15 (by kernel_rfl) (z18.1 == z24.1) (by kernel_rfl) hb507, trivial⟩ (.bool (z18.2.1 == z24.2.1)) (fun _ _ => by kernel_rfl) (fun _ => rfl)
          ·exact Owes.pure [(83, (.bool true)), (86, (.bool (z18.2.1 == z24.2.1)))] ⟨sB 15 (by kernel_rfl) (z18.1 == z24.1) (by kernel_rfl) hb507, sA 18 (by kernel_rfl) (by kernel_rfl), trivial⟩ (.bool (z18.2.1 == z24.2.1)) (fun _ _ => by kernel_rfl) (fun _ => rfl)
          ·exact Owes.pure [(87, (.bool (z18.2.1 == z24.2.1)))] ⟨sA 19 (by kernel_rfl) (by kernel_rfl), trivial⟩ (.bool (z18.2.1 == z24.2.1)) (fun _ _ => by kernel_rfl) (fun _ => rfl)
          ·exact Owes.pure [(10, (.bool z18.2.2)), (88, (.bool true))] ⟨sS (by kernel_rfl) (by kernel_rfl), sB 20 (by kernel_rfl) (z18.2.1 == z24.2.1) (by kernel_rfl) hb508, trivial⟩ (.bool z18.2.2) (fun _ _ => by kernel_rfl) (fun _ => rfl)
          ·exact Owes.pure [(13, (.bool z24.2.2)), (88, (.bool true))] ⟨sS (by kernel_rfl) (by kernel_rfl), sB 20 (by kernel_rfl) (z18.2.1 == z24.2.1) (by kernel_rfl) hb508, trivial⟩ (.bool z24.2.2) (fun _ _ => by kernel_rfl) (fun _ => rfl)
          ·exact Owes.pure [(89, (.bool z18.2.2)), (90, (.bool z24.2.2)), (88, (.bool true))] ⟨sA 21 (by kernel_rfl) (by kernel_rfl), sA 22 (by kernel_rfl) (by kernel_rfl), sB 20 (by kernel_rfl) (z18.2.1 == z24.2.1) (by kernel_rfl) hb508, trivial⟩ (.bool (z18.2.2 == z24.2.2)) (fun _ _ => by kernel_rfl) (fun _ => rfl)
          ·exact Owes.pure [(88, (.bool true)), (91, (.bool (z18.2.2 == z24.2.2)))] ⟨sB 20 (by kernel_rfl) (z18.2.1 == z24.2.1) (by kernel_rfl) hb508, sA 23 (by kernel_rfl) (by kernel_rfl), trivial⟩ (.bool (z18.2.2 == z24.2.2)) (fun _ _ => by kernel_rfl) (fun _ => rfl)
          ·exact Owes.pure [(92, (.bool (z18.2.2 == z24.2.2)))] ⟨sA 24 (by kernel_rfl) (by kernel_rfl), trivial⟩ (.bool (z18.2.2 == z24.2.2)) (fun _ _ => by kernel_rfl) (fun _ => rfl)
          ·exact Owes.pure [(2, (.string ⟨List.toArray p6⟩)), (93, (.bool true))] ⟨sS (by kernel_rfl) (by kernel_rfl), sB 25 (by kernel_rfl) (z18.2.2 == z24.2.2) (by kernel_rfl) hb509, trivial⟩ (.string ⟨List.toArray p6⟩) (fun _ _ => by kernel_rfl) (fun _ => rfl)
          ·intro ρ' w' hk hs hah
           have e94 := hah 26 94 (by kernel_rfl)
           have e93 := hah 25 93 (by kernel_rfl)
           have hkn : Known ρ' [(94, (.string ⟨List.toArray p6⟩)), (93, (.bool true))] := ⟨e94, (Eq.trans e93 (congrArg Value.bool hb509)), trivial⟩
           refine Step.known _ hkn ?_
           have hs822 := SP.below hs53 hk
           refine Step.callF (f := 18) (fo := (.func 18)) (xs := #[(.tmp 94)]) (tys := #[9]) (first := #[]) (captured := #[]) (d := (some 95)) (k := 27) (by kernel_rfl) rfl (by kernel_rfl) (by kernel_rfl) Tryd.call18 (L_num_Text_walk  p6 w'  z510 hz511) ?_
           rintro e w823 ⟨A825, c826, rfl, hs824⟩
           exact ⟨_, rfl, SP.keeps hs824, _, updO_known hkn, ⟨_, _, rfl, SP.row_of hs824⟩⟩
          ·intro ρ' w' hk hs hah
           obtain ⟨A828, c829, e95, hr830⟩ := hah 27 95 (by kernel_rfl)
           have e93 := hah 25 93 (by kernel_rfl)
           have hkn : Known ρ' [(95, (.slice A828 (List.length z510) c829)), (93, (.bool true))] := ⟨e95, (Eq.trans e93 (congrArg Value.bool hb509)), trivial⟩
           refine Step.known _ hkn ?_
           have hs827 := SP.below hs53 hk
           refine Step.toStr (T := 22) (S' := 9) (E := 5) (x := (.tmp 95)) (A := A828) (c := c829) (l := z510) (d := (some 96)) (k := 28) (by kernel_rfl) rfl (by kernel_rfl) (by kernel_rfl) (by kernel_rfl) (by kernel_rfl) hr830 ?_
           exact ⟨Below.refl _ _, _, updO_known hkn, rfl⟩
          ·exact Owes.pure [(2, (.string ⟨List.toArray p6⟩)), (93, (.bool true))] ⟨sS (by kernel_rfl) (by kernel_rfl), sB 25 (by kernel_rfl) (z18.2.2 == z24.2.2) (by kernel_rfl) hb509, trivial⟩ (.string ⟨List.toArray p6⟩) (fun _ _ => by kernel_rfl) (fun _ => rfl)
          ·intro ρ' w' hk hs hah
           have e97 := hah 29 97 (by kernel_rfl)
           have e93 := hah 25 93 (by kernel_rfl)
           have hkn : Known ρ' [(97, (.string ⟨List.toArray p6⟩)), (93, (.bool true))] := ⟨e97, (Eq.trans e93 (congrArg Value.bool hb509)), trivial⟩
           refine Step.known _ hkn ?_
           have hs831 := SP.below hs53 hk
           refine Step.callF (f := 19) (fo := (.func 19)) (xs := #[(.tmp 97)]) (tys := #[9]) (first := #[]) (captured := #[]) (d := (some 98)) (k := 30) (by kernel_rfl) rfl (by kernel_rfl) (by kernel_rfl) Tryd.call19 (L_subwayref01_Text_walk  p6 w'  z516 hz517) ?_
           rintro e w832 ⟨A834, c835, rfl, hs833⟩
           exact ⟨_, rfl, SP.keeps hs833, _, updO_known hkn, ⟨_, _, rfl, SP.row_of hs833⟩⟩
          ·intro ρ' w' hk hs hah
           obtain ⟨A837, c838, e98, hr839⟩ := hah 30 98 (by kernel_rfl)
           have e93 := hah 25 93 (by kernel_rfl)
           have hkn : Known ρ' [(98, (.slice A837 (List.length z516) c838)), (93, (.bool true))] := ⟨e98, (Eq.trans e93 (congrArg Value.bool hb509)), trivial⟩
           refine Step.known _ hkn ?_
           have hs836 := SP.below hs53 hk
           refine Step.toStr (T := 22) (S' := 9) (E := 5) (x := (.tmp 98)) (A := A837) (c := c838) (l := z516) (d := (some 99)) (k := 31) (by kernel_rfl) rfl (by kernel_rfl) (by kernel_rfl) (by kernel_rfl) (by kernel_rfl) hr839 ?_
           exact ⟨Below.refl _ _, _, updO_known hkn, rfl⟩
          ·intro ρ' w' hk hs hah
           have e96 := hah 28 96 (by kernel_rfl)
           have e99 := hah 31 99 (by kernel_rfl)
           have e93 := hah 25 93 (by kernel_rfl)
           have hkn : Known ρ' [(96, (.string ⟨List.toArray z510⟩)), (99, (.string ⟨List.toArray z516⟩)), (93, (.bool true))] := ⟨e96, e99, (Eq.trans e93 (congrArg Value.bool hb509)), trivial⟩
           refine Step.known _ hkn ?_
           have hs840 := SP.below hs53 hk
           refine Step.strOp (op := .eql) (T := 9) (T' := 9) (x := (.tmp 96)) (y := (.tmp 99)) (a := z510) (b := z516) (r := (.bool (z510 == z516))) (d := (some 100)) (k := 32) (by kernel_rfl) rfl (by kernel_rfl) (by kernel_rfl) rfl ?_
           exact ⟨Below.refl _ _, _, updO_known hkn, rfl⟩
          ·exact Owes.pure [(93, (.bool true)), (100, (.bool (z510 == z516)))] ⟨sB 25 (by kernel_rfl) (z18.2.2 == z24.2.2) (by kernel_rfl) hb509, sA 32 (by kernel_rfl) (by kernel_rfl), trivial⟩ (.bool (z510 == z516)) (fun _ _ => by kernel_rfl) (fun _ => rfl)
          ·exact Owes.pure [(101, (.bool (z510 == z516)))] ⟨sA 33 (by kernel_rfl) (by kernel_rfl), trivial⟩ (.bool (z510 == z516)) (fun _ _ => by kernel_rfl) (fun _ => rfl)
          ·exact Owes.skip [(102, (.bool false))] ⟨sB 34 (by kernel_rfl) (z510 == z516) (by kernel_rfl) hb522, trivial⟩ (some 103) (fun _ => by kernel_rfl) (by kernel_rfl) (fun _ => rfl)
          ·exact Owes.skip [(102, (.bool false))] ⟨sB 34 (by kernel_rfl) (z510 == z516) (by kernel_rfl) hb522, trivial⟩ (some 104) (fun _ => by kernel_rfl) (by kernel_rfl) (fun _ => rfl)
          ·exact Owes.skip [(102, (.bool false))] ⟨sB 34 (by kernel_rfl) (z510 == z516) (by kernel_rfl) hb522, trivial⟩ (some 105) (fun _ => by kernel_rfl) (by kernel_rfl) (fun _ => rfl)
          ·exact Owes.pure [(102, (.bool false)), (105, undef)] ⟨sB 34 (by kernel_rfl) (z510 == z516) (by kernel_rfl) hb522, sA 37 (by kernel_rfl) (by kernel_rfl), trivial⟩ (.bool false) (fun _ _ => by kernel_rfl) (fun _ => rfl)
          ·exact Owes.pure [(106, (.bool false))] ⟨sA 38 (by kernel_rfl) (by kernel_rfl), trivial⟩ (.bool false) (fun _ _ => by kernel_rfl) (fun _ => rfl)
          ·exact Owes.skip [(107, (.bool false))] ⟨sA 39 (by kernel_rfl) (by kernel_rfl), trivial⟩ (some 108) (fun _ => by kernel_rfl) (by kernel_rfl) (fun _ => rfl)
          ·exact Owes.skip [(107, (.bool false))] ⟨sA 39 (by kernel_rfl) (by kernel_rfl), trivial⟩ (some 109) (fun _ => by kernel_rfl) (by kernel_rfl) (fun _ => rfl)
          ·exact Owes.skip [(107, (.bool false))] ⟨sA 39 (by kernel_rfl) (by kernel_rfl), trivial⟩ (some 110) (fun _ => by kernel_rfl) (by kernel_rfl) (fun _ => rfl)
          ·exact Owes.pure [(107, (.bool false)), (110, undef)] ⟨sA 39 (by kernel_rfl) (by kernel_rfl), sA 42 (by kernel_rfl) (by kernel_rfl), trivial⟩ (.bool false) (fun _ _ => by kernel_rfl) (fun _ => rfl)
          ·exact Owes.pure [(111, (.bool false))] ⟨sA 43 (by kernel_rfl) (by kernel_rfl), trivial⟩ (.bool false) (fun _ _ => by kernel_rfl) (fun _ => rfl)
          ·exact Owes.skip [(112, (.bool false))] ⟨sA 44 (by kernel_rfl) (by kernel_rfl), trivial⟩ (some 113) (fun _ => by kernel_rfl) (by kernel_rfl) (fun _ => rfl)
          ·exact Owes.skip [(112, (.bool false))] ⟨sA 44 (by kernel_rfl) (by kernel_rfl), trivial⟩ (some 114) (fun _ => by kernel_rfl) (by kernel_rfl) (fun _ => rfl)
          ·exact Owes.skip [(112, (.bool false))] ⟨sA 44 (by kernel_rfl) (by kernel_rfl), trivial⟩ (some 115) (fun _ => by kernel_rfl) (by kernel_rfl) (fun _ => rfl)
          ·exact Owes.pure [(112, (.bool false)), (115, undef)] ⟨sA 44 (by kernel_rfl) (by kernel_rfl), sA 47 (by kernel_rfl) (by kernel_rfl), trivial⟩ (.bool false) (fun _ _ => by kernel_rfl) (fun _ => rfl)
          ·exact Owes.pure [(116, (.bool false))] ⟨sA 48 (by kernel_rfl) (by kernel_rfl), trivial⟩ (.bool false) (fun _ _ => by kernel_rfl) (fun _ => rfl)
          ·exact Owes.skip [(117, (.bool false))] ⟨sA 49 (by kernel_rfl) (by kernel_rfl), trivial⟩ (some 118) (fun _ => by kernel_rfl) (by kernel_rfl) (fun _ => rfl)
          ·exact Owes.skip [(117, (.bool false))] ⟨sA 49 (by kernel_rfl) (by kernel_rfl), trivial⟩ (some 119) (fun _ => by kernel_rfl) (by kernel_rfl) (fun _ => rfl)
          ·exact Owes.skip [(117, (.bool false))] ⟨sA 49 (by kernel_rfl) (by kernel_rfl), trivial⟩ (some 120) (fun _ => by kernel_rfl) (by kernel_rfl) (fun _ => rfl)
          ·exact Owes.skip [(117, (.bool false))] ⟨sA 49 (by kernel_rfl) (by kernel_rfl), trivial⟩ (some 121) (fun _ => by kernel_rfl) (by kernel_rfl) (fun _ => rfl)
          ·exact Owes.skip [(117, (.bool false))] ⟨sA 49 (by kernel_rfl) (by kernel_rfl), trivial⟩ (some 122) (fun _ => by kernel_rfl) (by kernel_rfl) (fun _ => rfl)
          ·exact Owes.pure [(117, (.bool false)), (122, undef)] ⟨sA 49 (by kernel_rfl) (by kernel_rfl), sA 54 (by kernel_rfl) (by kernel_rfl), trivial⟩ (.bool false) (fun _ _ => by kernel_rfl) (fun _ => rfl)
          ·exact Owes.pure [(123, (.bool false))] ⟨sA 55 (by kernel_rfl) (by kernel_rfl), trivial⟩ (.bool false) (fun _ _ => by kernel_rfl) (fun _ => rfl)
          ·exact Owes.skip [(124, (.bool false))] ⟨sA 56 (by kernel_rfl) (by kernel_rfl), trivial⟩ (some 125) (fun _ => by kernel_rfl) (by kernel_rfl) (fun _ => rfl)
          ·exact Owes.skip [(124, (.bool false))] ⟨sA 56 (by kernel_rfl) (by kernel_rfl), trivial⟩ (some 126) (fun _ => by kernel_rfl) (by kernel_rfl) (fun _ => rfl)
          ·exact Owes.skip [(124, (.bool false))] ⟨sA 56 (by kernel_rfl) (by kernel_rfl), trivial⟩ (some 127) (fun _ => by kernel_rfl) (by kernel_rfl) (fun _ => rfl)
          ·exact Owes.pure [(124, (.bool false)), (127, undef)] ⟨sA 56 (by kernel_rfl) (by kernel_rfl), sA 59 (by kernel_rfl) (by kernel_rfl), trivial⟩ (.bool false) (fun _ _ => by kernel_rfl) (fun _ => rfl)
          ·exact Owes.pure [(128, (.bool false))] ⟨sA 60 (by kernel_rfl) (by kernel_rfl), trivial⟩ (.bool false) (fun _ _ => by kernel_rfl) (fun _ => rfl)
          ·exact Owes.skip [(129, (.bool false))] ⟨sA 61 (by kernel_rfl) (by kernel_rfl), trivial⟩ (some 130) (fun _ => by kernel_rfl) (by kernel_rfl) (fun _ => rfl)
          ·exact Owes.skip [(129, (.bool false))] ⟨sA 61 (by kernel_rfl) (by kernel_rfl), trivial⟩ (some 131) (fun _ => by kernel_rfl) (by kernel_rfl) (fun _ => rfl)
          ·exact Owes.skip [(129, (.bool false))] ⟨sA 61 (by kernel_rfl) (by kernel_rfl), trivial⟩ (some 132) (fun _ => by kernel_rfl) (by kernel_rfl) (fun _ => rfl)
          ·exact Owes.pure [(129, (.bool false)), (132, undef)] ⟨sA 61 (by kernel_rfl) (by kernel_rfl), sA 64 (by kernel_rfl) (by kernel_rfl), trivial⟩ (.bool false) (fun _ _ => by kernel_rfl) (fun _ => rfl)
          ·exact Owes.pure [(133, (.bool false))] ⟨sA 65 (by kernel_rfl) (by kernel_rfl), trivial⟩ (.bool false) (fun _ _ => by kernel_rfl) (fun _ => rfl)
          ·intro ρ' w' hk hs hf
           have hs842 := SP.below hs53 hk
           obtain ⟨w841, hww841⟩ : ∃ x, w' = x := ⟨_, rfl⟩
           subst hww841
           have e6 := hf 66 6 (by kernel_rfl)
           refine postKnown [(6, (.bool false))] ⟨e6, trivial⟩ ?_
           exact ⟨false, ⟨(by kernel_rfl), trivial⟩, SP.sel hs842 [] rfl rfl, H⟩
        ·have H := cf H hb509
         refine At.draw (by kernel_rfl) (by kernel_rfl) (by kernel_rfl) (by kernel_rfl) (by kernel_rfl) [FEq (.bool z7), FEq (.bool z7), FEq (.int .i64 p1), FRow eU8 z494, FEq (.string ⟨List.toArray z494⟩), FEq (.int .i64 p1), FRow eU8 z500, FEq (.string ⟨List.toArray z500⟩), FEq (.bool (z494 == z500)), FEq (.bool (z494 == z500)), FEq (.bool (z494 == z500)), FEq (.int .i64 z18.1), FEq (.int .i64 z24.1), FEq (.bool (z18.1 == z24.1)), FEq (.bool (z18.1 == z24.1)), FEq (.bool (z18.1 == z24.1)), FEq (.int .i64 z18.2.1), FEq (.int .i64 z24.2.1), FEq (.bool (z18.2.1 == z24.2.1)), FEq (.bool (z18.2.1 == z24.2.1)), FEq (.bool (z18.2.1 == z24.2.1)), FEq (.bool z18.2.2), FEq (.bool z24.2.2), FEq (.bool (z18.2.2 == z24.2.2)), FEq (.bool (z18.2.2 == z24.2.2)), FEq (.bool (z18.2.2 == z24.2.2)), FEq undef, FEq undef, FEq undef, FEq undef, FEq undef, FEq undef, FEq undef, FEq (.bool false), FEq (.bool false), FEq undef, FEq undef, FEq undef, FEq (.bool false), FEq (.bool false), FEq undef, FEq undef, FEq undef, FEq (.bool false), FEq (.bool false), FEq undef, FEq undef, FEq undef, FEq (.bool false), FEq (.bool false), FEq undef, FEq undef, FEq undef, FEq undef, FEq undef, FEq (.bool false), FEq (.bool false), FEq undef, FEq undef, FEq undef, FEq (.bool false), FEq (.bool false), FEq undef, FEq undef, FEq undef, FEq (.bool false), FEq (.bool false)] ⟨mono_eq _, mono_eq _, mono_eq _, mono_row _ _, mono_eq _, mono_eq _, mono_row _ _, mono_eq _, mono_eq _, mono_eq _, mono_eq _, mono_eq _, mono_eq _, mono_eq _, mono_eq _, mono_eq _, mono_eq _, mono_eq _, mono_eq _, mono_eq _, mono_eq _, mono_eq _, mono_eq _, mono_eq _, mono_eq _, mono_eq _, mono_eq _, mono_eq _, mono_eq _, mono_eq _, mono_eq _, mono_eq _, mono_eq _, mono_eq _, mono_eq _, mono_eq _, mono_eq _, mono_eq _, mono_eq _, mono_eq _, mono_eq _, mono_eq _, mono_eq _, mono_eq _, mono_eq _, mono_eq _, mono_eq _, mono_eq _, mono_eq _, mono_eq _, mono_eq _, mono_eq _, mono_eq _, mono_eq _, mono_eq _, mono_eq _, mono_eq _, mono_eq _, mono_eq _, mono_eq _, mono_eq _, mono_eq _, mono_eq _, mono_eq _, mono_eq _, mono_eq _, mono_eq _, trivial⟩ (N := 67) (by kernel_rfl) ⟨⟨⟨⟨⟨⟨⟨⟨⟨⟨⟨⟨⟨⟨⟨⟨⟨⟨⟨⟨⟨⟨⟨⟨⟨⟨⟨⟨⟨⟨⟨⟨⟨⟨⟨⟨⟨⟨⟨⟨⟨⟨⟨⟨⟨⟨⟨⟨⟨⟨⟨⟨⟨⟨⟨⟨⟨⟨⟨⟨⟨⟨⟨⟨⟨⟨⟨trivial, ?_⟩, ?_⟩, ?_⟩, ?_⟩, ?_⟩, ?_⟩, ?_⟩, ?_⟩, ?_⟩, ?_⟩, ?_⟩, ?_⟩, ?_⟩, ?_⟩, ?_⟩, ?_⟩, ?_⟩, ?_⟩, ?_⟩, ?_⟩, ?_⟩, ?_⟩, ?_⟩, ?_⟩, ?_⟩, ?_⟩, ?_⟩, ?_⟩, ?_⟩, ?_⟩, ?_⟩, ?_⟩, ?_⟩, ?_⟩, ?_⟩, ?_⟩, ?_⟩, ?_⟩, ?_⟩, ?_⟩, ?_⟩, ?_⟩, ?_⟩, ?_⟩, ?_⟩, ?_⟩, ?_⟩, ?_⟩, ?_⟩, ?_⟩, ?_⟩, ?_⟩, ?_⟩, ?_⟩, ?_⟩, ?_⟩, ?_⟩, ?_⟩, ?_⟩, ?_⟩, ?_⟩, ?_⟩, ?_⟩, ?_⟩, ?_⟩, ?_⟩, ?_⟩ ?_
         ·exact Owes.pure [(7, (.bool z7))] ⟨sS (by kernel_rfl) (by kernel_rfl), trivial⟩ (.bool z7) (fun _ _ => by kernel_rfl) (fun _ => rfl)
         ·exact Owes.pure [(68, (.bool z7))] ⟨sA 0 (by kernel_rfl) (by kernel_rfl), trivial⟩ (.bool z7) (fun _ _ => by kernel_rfl) (fun _ => rfl)
         ·exact Owes.pure [(0, (.int .i64 p1)), (69, (.bool true))] ⟨sS (by kernel_rfl) (by kernel_rfl), sB 1 (by kernel_rfl) z7 (by kernel_rfl) hb493, trivial⟩ (.int .i64 p1) (fun _ _ => by kernel_rfl) (fun _ => rfl)
         ·intro ρ' w' hk hs hah
          have e70 := hah 2 70 (by kernel_rfl)
          have e69 := hah 1 69 (by kernel_rfl)
          have hkn : Known ρ' [(70, (.int .i64 p1)), (69, (.bool true))] := ⟨e70, (Eq.trans e69 (congrArg Value.bool hb493)), trivial⟩
          refine Step.known _ hkn ?_
          have hs843 := SP.below hs53 hk
          refine Step.callF (f := 16) (fo := (.func 16)) (xs := #[(.tmp 70)]) (tys := #[2]) (first := #[]) (captured := #[]) (d := (some 71)) (k := 3) (by kernel_rfl) rfl (by kernel_rfl) (by kernel_rfl) Tryd.call16 (L_num_Put_walk  p1 w'  z494 hz495) ?_
          rintro e w844 ⟨A846, c847, rfl, hs845⟩
          exact ⟨_, rfl, SP.keeps hs845, _, updO_known hkn, ⟨_, _, rfl, SP.row_of hs845⟩⟩
         ·intro ρ' w' hk hs hah
          obtain ⟨A849, c850, e71, hr851⟩ := hah 3 71 (by kernel_rfl)
          have e69 := hah 1 69 (by kernel_rfl)
          have hkn : Known ρ' [(71, (.slice A849 (List.length z494) c850)), (69, (.bool true))] := ⟨e71, (Eq.trans e69 (congrArg Value.bool hb493)), trivial⟩
          refine Step.known _ hkn ?_
          have hs848 := SP.below hs53 hk
          refine Step.toStr (T := 22) (S' := 9) (E := 5) (x := (.tmp 71)) (A := A849) (c := c850) (l := z494) (d := (some 72)) (k := 4) (by kernel_rfl) rfl (by kernel_rfl) (by kernel_rfl) (by kernel_rfl) (by kernel_rfl) hr851 ?_
          exact ⟨Below.refl _ _, _, updO_known hkn, rfl⟩
         ·exact Owes.pure [(0, (.int .i64 p1)), (69, (.bool true))] ⟨sS (by kernel_rfl) (by kernel_rfl), sB 1 (by kernel_rfl) z7 (by kernel_rfl) hb493, trivial⟩ (.int .i64 p1) (fun _ _ => by kernel_rfl) (fun _ => rfl)
         ·intro ρ' w' hk hs hah
          have e73 := hah 5 73 (by kernel_rfl)
          have e69 := hah 1 69 (by kernel_rfl)
          have hkn : Known ρ' [(73, (.int .i64 p1)), (69, (.bool true))] := ⟨e73, (Eq.trans e69 (congrArg Value.bool hb493)), trivial⟩
          refine Step.known _ hkn ?_
          have hs852 := SP.below hs53 hk
          refine Step.callF (f := 17) (fo := (.func 17)) (xs := #[(.tmp 73)]) (tys := #[2]) (first := #[]) (captured := #[]) (d := (some 74)) (k := 6) (by kernel_rfl) rfl (by kernel_rfl) (by kernel_rfl) Tryd.call17 (L_subwayref01_Put_walk  p1 w'  z500 hz501) ?_
          rintro e w853 ⟨A855, c856, rfl, hs854⟩
          exact ⟨_, rfl, SP.keeps hs854, _, updO_known hkn, ⟨_, _, rfl, SP.row_of hs854⟩⟩
         ·intro ρ' w' hk hs hah
          obtain ⟨A858, c859, e74, hr860⟩ := hah 6 74 (by kernel_rfl)
          have e69 := hah 1 69 (by kernel_rfl)
          have hkn : Known ρ' [(74, (.slice A858 (List.length z500) c859)), (69, (.bool true))] := ⟨e74, (Eq.trans e69 (congrArg Value.bool hb493)), trivial⟩
          refine Step.known _ hkn ?_
          have hs857 := SP.below hs53 hk
          refine Step.toStr (T := 22) (S' := 9) (E := 5) (x := (.tmp 74)) (A := A858) (c := c859) (l := z500) (d := (some 75)) (k := 7) (by kernel_rfl) rfl (by kernel_rfl) (by kernel_rfl) (by kernel_rfl) (by kernel_rfl) hr860 ?_
          exact ⟨Below.refl _ _, _, updO_known hkn, rfl⟩
         ·intro ρ' w' hk hs hah
          have e72 := hah 4 72 (by kernel_rfl)
          have e75 := hah 7 75 (by kernel_rfl)
          have e69 := hah 1 69 (by kernel_rfl)
          have hkn : Known ρ' [(72, (.string ⟨List.toArray z494⟩)), (75, (.string ⟨List.toArray z500⟩)), (69, (.bool true))] := ⟨e72, e75, (Eq.trans e69 (congrArg Value.bool hb493)), trivial⟩
          refine Step.known _ hkn ?_
          have hs861 := SP.below hs53 hk
          refine Step.strOp (op := .eql) (T := 9) (T' := 9) (x := (.tmp 72)) (y := (.tmp 75)) (a := z494) (b := z500) (r := (.bool (z494 == z500))) (d := (some 76)) (k := 8) (by kernel_rfl) rfl (by kernel_rfl) (by kernel_rfl) rfl ?_
          exact ⟨Below.refl _ _, _, updO_known hkn, rfl⟩
         ·exact Owes.pure [(69, (.bool true)), (76, (.bool (z494 == z500)))] ⟨sB 1 (by kernel_rfl) z7 (by kernel_rfl) hb493, sA 8 (by kernel_rfl) (by kernel_rfl), trivial⟩ (.bool (z494 == z500)) (fun _ _ => by kernel_rfl) (fun _ => rfl)
         ·exact Owes.pure [(77, (.bool (z494 == z500)))] ⟨sA 9 (by kernel_rfl) (by kernel_rfl), trivial⟩ (.bool (z494 == z500)) (fun _ _ => by kernel_rfl) (fun _ => rfl)
         ·exact Owes.pure [(8, (.int .i64 z18.1)), (78, (.bool true))] ⟨sS (by kernel_rfl) (by kernel_rfl), sB 10 (by kernel_rfl) (z494 == z500) (by kernel_rfl) hb506, trivial⟩ (.int .i64 z18.1) (fun _ _ => by kernel_rfl) (fun _ => rfl)
         ·exact Owes.pure [(11, (.int .i64 z24.1)), (78, (.bool true))] ⟨sS (by kernel_rfl) (by kernel_rfl), sB 10 (by kernel_rfl) (z494 == z500) (by kernel_rfl) hb506, trivial⟩ (.int .i64 z24.1) (fun _ _ => by kernel_rfl) (fun _ => rfl)
         ·exact Owes.pure [(79, (.int .i64 z18.1)), (80, (.int .i64 z24.1)), (78, (.bool true))] ⟨sA 11 (by kernel_rfl) (by kernel_rfl), sA 12 (by kernel_rfl) (by kernel_rfl), sB 10 (by kernel_rfl) (z494 == z500) (by kernel_rfl) hb506, trivial⟩ (.bool (z18.1 == z24.1)) (fun _ _ => by kernel_rfl) (fun _ => rfl)
         ·exact Owes.pure [(78, (.bool true)), (81, (.bool (z18.1 == z24.1)))] ⟨sB 10 (by kernel_rfl) (z494 == z500) (by kernel_rfl) hb506, sA 13 (by kernel_rfl) (by kernel_rfl), trivial⟩ (.bool (z18.1 == z24.1)) (fun _ _ => by kernel_rfl) (fun _ => rfl)
         ·exact Owes.pure [(82, (.bool (z18.1 == z24.1)))] ⟨sA 14 (by kernel_rfl) (by kernel_rfl), trivial⟩ (.bool (z18.1 == z24.1)) (fun _ _ => by kernel_rfl) (fun _ => rfl)
         ·exact Owes.pure [(9, (.int .i64 z18.2.1)), (83, (.bool true))] ⟨sS (by kernel_rfl) (by kernel_rfl), sB 15 (by kernel_rfl) (z18.1 == z24.1) (by kernel_rfl) hb507, trivial⟩ (.int .i64 z18.2.1) (fun _ _ => by kernel_rfl) (fun _ => rfl)
         ·exact Owes.pure [(12, (.int .i64 z24.2.1)), (83, (.bool true))] ⟨sS (by kernel_rfl) (by kernel_rfl), sB 15 (by kernel_rfl) (z18.1 == z24.1) (by kernel_rfl) hb507, trivial⟩ (.int .i64 z24.2.1) (fun _ _ => by kernel_rfl) (fun _ => rfl)
         ·exact Owes.pure [(84, (.int .i64 z18.2.1)), (85, (.int .i64 z24.2.1)), (83, (.bool true))] ⟨sA 16 (by kernel_rfl) (by kernel_rfl), sA 17 (by kernel_rfl) (by kernel_rfl), sB 15 (by kernel_rfl) (z18.1 == z24.1) (by kernel_rfl) hb507, trivial⟩ (.bool (z18.2.1 == z24.2.1)) (fun _ _ => by kernel_rfl) (fun _ => rfl)
         ·exact Owes.pure [(83, (.bool true)), (86, (.bool (z18.2.1 == z24.2.1)))] ⟨sB 15 (by kernel_rfl) (z18.1 == z24.1) (by kernel_rfl) hb507, sA 18 (by kernel_rfl) (by kernel_rfl), trivial⟩ (.bool (z18.2.1 == z24.2.1)) (fun _ _ => by kernel_rfl) (fun _ => rfl)
         ·exact Owes.pure [(87, (.bool (z18.2.1 == z24.2.1)))] ⟨sA 19 (by kernel_rfl) (by kernel_rfl), trivial⟩ (.bool (z18.2.1 == z24.2.1)) (fun _ _ => by kernel_rfl) (fun _ => rfl)
         ·exact Owes.pure [(10, (.bool z18.2.2)), (88, (.bool true))] ⟨sS (by kernel_rfl) (by kernel_rfl), sB 20 (by kernel_rfl) (z18.2.1 == z24.2.1) (by kernel_rfl) hb508, trivial⟩ (.bool z18.2.2) (fun _ _ => by kernel_rfl) (fun _ => rfl)
         ·exact Owes.pure [(13, (.bool z24.2.2)), (88, (.bool true))] ⟨sS (by kernel_rfl) (by kernel_rfl), sB 20 (by kernel_rfl) (z18.2.1 == z24.2.1) (by kernel_rfl) hb508, trivial⟩ (.bool z24.2.2) (fun _ _ => by kernel_rfl) (fun _ => rfl)
         ·exact Owes.pure [(89, (.bool z18.2.2)), (90, (.bool z24.2.2)), (88, (.bool true))] ⟨sA 21 (by kernel_rfl) (by kernel_rfl), sA 22 (by kernel_rfl) (by kernel_rfl), sB 20 (by kernel_rfl) (z18.2.1 == z24.2.1) (by kernel_rfl) hb508, trivial⟩ (.bool (z18.2.2 == z24.2.2)) (fun _ _ => by kernel_rfl) (fun _ => rfl)
         ·exact Owes.pure [(88, (.bool true)), (91, (.bool (z18.2.2 == z24.2.2)))] ⟨sB 20 (by kernel_rfl) (z18.2.1 == z24.2.1) (by kernel_rfl) hb508, sA 23 (by kernel_rfl) (by kernel_rfl), trivial⟩ (.bool (z18.2.2 == z24.2.2)) (fun _ _ => by kernel_rfl) (fun _ => rfl)
         ·exact Owes.pure [(92, (.bool (z18.2.2 == z24.2.2)))] ⟨sA 24 (by kernel_rfl) (by kernel_rfl), trivial⟩ (.bool (z18.2.2 == z24.2.2)) (fun _ _ => by kernel_rfl) (fun _ => rfl)
         ·exact Owes.skip [(93, (.bool false))] ⟨sB 25 (by kernel_rfl) (z18.2.2 == z24.2.2) (by kernel_rfl) hb509, trivial⟩ (some 94) (fun _ => by kernel_rfl) (by kernel_rfl) (fun _ => rfl)
         ·exact Owes.skip [(93, (.bool false))] ⟨sB 25 (by kernel_rfl) (z18.2.2 == z24.2.2) (by kernel_rfl) hb509, trivial⟩ (some 95) (fun _ => by kernel_rfl) (by kernel_rfl) (fun _ => rfl)
         ·exact Owes.skip [(93, (.bool false))] ⟨sB 25 (by kernel_rfl) (z18.2.2 == z24.2.2) (by kernel_rfl) hb509, trivial⟩ (some 96) (fun _ => by kernel_rfl) (by kernel_rfl) (fun _ => rfl)
         ·exact Owes.skip [(93, (.bool false))] ⟨sB 25 (by kernel_rfl) (z18.2.2 == z24.2.2) (by kernel_rfl) hb509, trivial⟩ (some 97) (fun _ => by kernel_rfl) (by kernel_rfl) (fun _ => rfl)
         ·exact Owes.skip [(93, (.bool false))] ⟨sB 25 (by kernel_rfl) (z18.2.2 == z24.2.2) (by kernel_rfl) hb509, trivial⟩ (some 98) (fun _ => by kernel_rfl) (by kernel_rfl) (fun _ => rfl)
         ·exact Owes.skip [(93, (.bool false))] ⟨sB 25 (by kernel_rfl) (z18.2.2 == z24.2.2) (by kernel_rfl) hb509, trivial⟩ (some 99) (fun _ => by kernel_rfl) (by kernel_rfl) (fun _ => rfl)
         ·exact Owes.skip [(93, (.bool false))] ⟨sB 25 (by kernel_rfl) (z18.2.2 == z24.2.2) (by kernel_rfl) hb509, trivial⟩ (some 100) (fun _ => by kernel_rfl) (by kernel_rfl) (fun _ => rfl)
         ·exact Owes.pure [(93, (.bool false)), (100, undef)] ⟨sB 25 (by kernel_rfl) (z18.2.2 == z24.2.2) (by kernel_rfl) hb509, sA 32 (by kernel_rfl) (by kernel_rfl), trivial⟩ (.bool false) (fun _ _ => by kernel_rfl) (fun _ => rfl)
         ·exact Owes.pure [(101, (.bool false))] ⟨sA 33 (by kernel_rfl) (by kernel_rfl), trivial⟩ (.bool false) (fun _ _ => by kernel_rfl) (fun _ => rfl)
         ·exact Owes.skip [(102, (.bool false))] ⟨sA 34 (by kernel_rfl) (by kernel_rfl), trivial⟩ (some 103) (fun _ => by kernel_rfl) (by kernel_rfl) (fun _ => rfl)
         ·exact Owes.skip [(102, (.bool false))] ⟨sA 34 (by kernel_rfl) (by kernel_rfl), trivial⟩ (some 104) (fun _ => by kernel_rfl) (by kernel_rfl) (fun _ => rfl)
         ·exact Owes.skip [(102, (.bool false))] ⟨sA 34 (by kernel_rfl) (by kernel_rfl), trivial⟩ (some 105) (fun _ => by kernel_rfl) (by kernel_rfl) (fun _ => rfl)
         ·exact Owes.pure [(102, (.bool false)), (105, undef)] ⟨sA 34 (by kernel_rfl) (by kernel_rfl), sA 37 (by kernel_rfl) (by kernel_rfl), trivial⟩ (.bool false) (fun _ _ => by kernel_rfl) (fun _ => rfl)
         ·exact Owes.pure [(106, (.bool false))] ⟨sA 38 (by kernel_rfl) (by kernel_rfl), trivial⟩ (.bool false) (fun _ _ => by kernel_rfl) (fun _ => rfl)
         ·exact Owes.skip [(107, (.bool false))] ⟨sA 39 (by kernel_rfl) (by kernel_rfl), trivial⟩ (some 108) (fun _ => by kernel_rfl) (by kernel_rfl) (fun _ => rfl)
         ·exact Owes.skip [(107, (.bool false))] ⟨sA 39 (by kernel_rfl) (by kernel_rfl), trivial⟩ (some 109) (fun _ => by kernel_rfl) (by kernel_rfl) (fun _ => rfl)
         ·exact Owes.skip [(107, (.bool false))] ⟨sA 39 (by kernel_rfl) (by kernel_rfl), trivial⟩ (some 110) (fun _ => by kernel_rfl) (by kernel_rfl) (fun _ => rfl)
         ·exact Owes.pure [(107, (.bool false)), (110, undef)] ⟨sA 39 (by kernel_rfl) (by kernel_rfl), sA 42 (by kernel_rfl) (by kernel_rfl), trivial⟩ (.bool false) (fun _ _ => by kernel_rfl) (fun _ => rfl)
         ·exact Owes.pure [(111, (.bool false))] ⟨sA 43 (by kernel_rfl) (by kernel_rfl), trivial⟩ (.bool false) (fun _ _ => by kernel_rfl) (fun _ => rfl)
         ·exact Owes.skip [(112, (.bool false))] ⟨sA 44 (by kernel_rfl) (by kernel_rfl), trivial⟩ (some 113) (fun _ => by kernel_rfl) (by kernel_rfl) (fun _ => rfl)
         ·exact Owes.skip [(112, (.bool false))] ⟨sA 44 (by kernel_rfl) (by kernel_rfl), trivial⟩ (some 114) (fun _ => by kernel_rfl) (by kernel_rfl) (fun _ => rfl)
         ·exact Owes.skip [(112, (.bool false))] ⟨sA 44 (by kernel_rfl) (by kernel_rfl), trivial⟩ (some 115) (fun _ => by kernel_rfl) (by kernel_rfl) (fun _ => rfl)
         ·exact Owes.pure [(112, (.bool false)), (115, undef)] ⟨sA 44 (by kernel_rfl) (by kernel_rfl), sA 47 (by kernel_rfl) (by kernel_rfl), trivial⟩ (.bool false) (fun _ _ => by kernel_rfl) (fun _ => rfl)
         ·exact Owes.pure [(116, (.bool false))] ⟨sA 48 (by kernel_rfl) (by kernel_rfl), trivial⟩ (.bool false) (fun _ _ => by kernel_rfl) (fun _ => rfl)
         ·exact Owes.skip [(117, (.bool false))] ⟨sA 49 (by kernel_rfl) (by kernel_rfl), trivial⟩ (some 118) (fun _ => by kernel_rfl) (by kernel_rfl) (fun _ => rfl)
         ·exact Owes.skip [(117, (.bool false))] ⟨sA 49 (by kernel_rfl) (by kernel_rfl), trivial⟩ (some 119) (fun _ => by kernel_rfl) (by kernel_rfl) (fun _ => rfl)
         ·exact Owes.skip [(117, (.bool false))] ⟨sA 49 (by kernel_rfl) (by kernel_rfl), trivial⟩ (some 120) (fun _ => by kernel_rfl) (by kernel_rfl) (fun _ => rfl)
         ·exact Owes.skip [(117, (.bool false))] ⟨sA 49 (by kernel_rfl) (by kernel_rfl), trivial⟩ (some 121) (fun _ => by kernel_rfl) (by kernel_rfl) (fun _ => rfl)
         ·exact Owes.skip [(117, (.bool false))] ⟨sA 49 (by kernel_rfl) (by kernel_rfl), trivial⟩ (some 122) (fun _ => by kernel_rfl) (by kernel_rfl) (fun _ => rfl)
         ·exact Owes.pure [(117, (.bool false)), (122, undef)] ⟨sA 49 (by kernel_rfl) (by kernel_rfl), sA 54 (by kernel_rfl) (by kernel_rfl), trivial⟩ (.bool false) (fun _ _ => by kernel_rfl) (fun _ => rfl)
         ·exact Owes.pure [(123, (.bool false))] ⟨sA 55 (by kernel_rfl) (by kernel_rfl), trivial⟩ (.bool false) (fun _ _ => by kernel_rfl) (fun _ => rfl)
         ·exact Owes.skip [(124, (.bool false))] ⟨sA 56 (by kernel_rfl) (by kernel_rfl), trivial⟩ (some 125) (fun _ => by kernel_rfl) (by kernel_rfl) (fun _ => rfl)
         ·exact Owes.skip [(124, (.bool false))] ⟨sA 56 (by kernel_rfl) (by kernel_rfl), trivial⟩ (some 126) (fun _ => by kernel_rfl) (by kernel_rfl) (fun _ => rfl)
         ·exact Owes.skip [(124, (.bool false))] ⟨sA 56 (by kernel_rfl) (by kernel_rfl), trivial⟩ (some 127) (fun _ => by kernel_rfl) (by kernel_rfl) (fun _ => rfl)
         ·exact Owes.pure [(124, (.bool false)), (127, undef)] ⟨sA 56 (by kernel_rfl) (by kernel_rfl), sA 59 (by kernel_rfl) (by kernel_rfl), trivial⟩ (.bool false) (fun _ _ => by kernel_rfl) (fun _ => rfl)
         ·exact Owes.pure [(128, (.bool false))] ⟨sA 60 (by kernel_rfl) (by kernel_rfl), trivial⟩ (.bool false) (fun _ _ => by kernel_rfl) (fun _ => rfl)
         ·exact Owes.skip [(129, (.bool false))] ⟨sA 61 (by kernel_rfl) (by kernel_rfl), trivial⟩ (some 130) (fun _ => by kernel_rfl) (by kernel_rfl) (fun _ => rfl)
         ·exact Owes.skip [(129, (.bool false))] ⟨sA 61 (by kernel_rfl) (by kernel_rfl), trivial⟩ (some 131) (fun _ => by kernel_rfl) (by kernel_rfl) (fun _ => rfl)
         ·exact Owes.skip [(129, (.bool false))] ⟨sA 61 (by kernel_rfl) (by kernel_rfl), trivial⟩ (some 132) (fun _ => by kernel_rfl) (by kernel_rfl) (fun _ => rfl)
         ·exact Owes.pure [(129, (.bool false)), (132, undef)] ⟨sA 61 (by kernel_rfl) (by kernel_rfl), sA 64 (by kernel_rfl) (by kernel_rfl), trivial⟩ (.bool false) (fun _ _ => by kernel_rfl) (fun _ => rfl)
         ·exact Owes.pure [(133, (.bool false))] ⟨sA 65 (by kernel_rfl) (by kernel_rfl), trivial⟩ (.bool false) (fun _ _ => by kernel_rfl) (fun _ => rfl)
         ·intro ρ' w' hk hs hf
          have hs863 := SP.below hs53 hk
          obtain ⟨w862, hww862⟩ : ∃ x, w' = x := ⟨_, rfl⟩
          subst hww862
          have e6 := hf 66 6 (by kernel_rfl)
          refine postKnown [(6, (.bool false))] ⟨e6, trivial⟩ ?_
          exact ⟨false, ⟨(by kernel_rfl), trivial⟩, SP.sel hs863 [] rfl rfl, H⟩
       ·have H := cf H hb508
        refine At.draw (by kernel_rfl) (by kernel_rfl) (by kernel_rfl) (by kernel_rfl) (by kernel_rfl) [FEq (.bool z7), FEq (.bool z7), FEq (.int .i64 p1), FRow eU8 z494, FEq (.string ⟨List.toArray z494⟩), FEq (.int .i64 p1), FRow eU8 z500, FEq (.string ⟨List.toArray z500⟩), FEq (.bool (z494 == z500)), FEq (.bool (z494 == z500)), FEq (.bool (z494 == z500)), FEq (.int .i64 z18.1), FEq (.int .i64 z24.1), FEq (.bool (z18.1 == z24.1)), FEq (.bool (z18.1 == z24.1)), FEq (.bool (z18.1 == z24.1)), FEq (.int .i64 z18.2.1), FEq (.int .i64 z24.2.1), FEq (.bool (z18.2.1 == z24.2.1)), FEq (.bool (z18.2.1 == z24.2.1)), FEq (.bool (z18.2.1 == z24.2.1)), FEq undef, FEq undef, FEq undef, FEq (.bool false), FEq (.bool false), FEq undef, FEq undef, FEq undef, FEq undef, FEq undef, FEq undef, FEq undef, FEq (.bool false), FEq (.bool false), FEq undef, FEq undef, FEq undef, FEq (.bool false), FEq (.bool false), FEq undef, FEq undef, FEq undef, FEq (.bool false), FEq (.bool false), FEq undef, FEq undef, FEq undef, FEq (.bool false), FEq (.bool false), FEq undef, FEq undef, FEq undef, FEq undef, FEq undef, FEq (.bool false), FEq (.bool false), FEq undef, FEq undef, FEq undef, FEq (.bool false), FEq (.bool false), FEq undef, FEq undef, FEq undef, FEq (.bool false), FEq (.bool false)] ⟨mono_eq _, mono_eq _, mono_eq _, mono_row _ _, mono_eq _, mono_eq _, mono_row _ _, mono_eq _, mono_eq _, mono_eq _, mono_eq _, mono_eq _, mono_eq _, mono_eq _, mono_eq _, mono_eq _, mono_eq _, mono_eq _, mono_eq _, mono_eq _, mono_eq _, mono_eq _, mono_eq _, mono_eq _, mono_eq _, mono_eq _, mono_eq _, mono_eq _, mono_eq _, mono_eq _, mono_eq _, mono_eq _, mono_eq _, mono_eq _, mono_eq _, mono_eq _, mono_eq _, mono_eq _, mono_eq _, mono_eq _, mono_eq _, mono_eq _, mono_eq _, mono_eq _, mono_eq _, mono_eq _, mono_eq _, mono_eq _, mono_eq _, mono_eq _, mono_eq _, mono_eq _, mono_eq _, mono_eq _, mono_eq _, mono_eq _, mono_eq _, mono_eq _, mono_eq _, mono_eq _, mono_eq _, mono_eq _, mono_eq _, mono_eq _, mono_eq _, mono_eq _, mono_eq _, trivial⟩ (N := 67) (by kernel_rfl) ⟨⟨⟨⟨⟨⟨⟨⟨⟨⟨⟨⟨⟨⟨⟨⟨⟨⟨⟨⟨⟨⟨⟨⟨⟨⟨⟨⟨⟨⟨⟨⟨⟨⟨⟨⟨⟨⟨⟨⟨⟨⟨⟨⟨⟨⟨⟨⟨⟨⟨⟨⟨⟨⟨⟨⟨⟨⟨⟨⟨⟨⟨⟨⟨⟨⟨⟨trivial, ?_⟩, ?_⟩, ?_⟩, ?_⟩, ?_⟩, ?_⟩, ?_⟩, ?_⟩, ?_⟩, ?_⟩, ?_⟩, ?_⟩, ?_⟩, ?_⟩, ?_⟩, ?_⟩, ?_⟩, ?_⟩, ?_⟩, ?_⟩, ?_⟩, ?_⟩, ?_⟩, ?_⟩, ?_⟩, ?_⟩, ?_⟩, ?_⟩, ?_⟩, ?_⟩, ?_⟩, ?_⟩, ?_⟩, ?_⟩, ?_⟩, ?_⟩, ?_⟩, ?_⟩, ?_⟩, ?_⟩, ?_⟩, ?_⟩, ?_⟩, ?_⟩, ?_⟩, ?_⟩, ?_⟩, ?_⟩, ?_⟩, ?_⟩, ?_⟩, ?_⟩, ?_⟩, ?_⟩, ?_⟩, ?_⟩, ?_⟩, ?_⟩, ?_⟩, ?_⟩, ?_⟩, ?_⟩, ?_⟩, ?_⟩, ?_⟩, ?_⟩, ?_⟩ ?_
        ·exact Owes.pure [(7, (.bool z7))] ⟨sS (by kernel_rfl) (by kernel_rfl), trivial⟩ (.bool z7) (fun _ _ => by kernel_rfl) (fun _ => rfl)
        ·exact Owes.pure [(68, (.bool z7))] ⟨sA 0 (by kernel_rfl) (by kernel_rfl), trivial⟩ (.bool z7) (fun _ _ => by kernel_rfl) (fun _ => rfl)
        ·exact Owes.pure [(0, (.int .i64 p1)), (69, (.bool true))] ⟨sS (by kernel_rfl) (by kernel_rfl), sB 1 (by kernel_rfl) z7 (by kernel_rfl) hb493, trivial⟩ (.int .i64 p1) (fun _ _ => by kernel_rfl) (fun _ => rfl)
        ·intro ρ' w' hk hs hah
         have e70 := hah 2 70 (by kernel_rfl)
         have e69 := hah 1 69 (by kernel_rfl)
         have hkn : Known ρ' [(70, (.int .i64 p1)), (69, (.bool true))] := ⟨e70, (Eq.trans e69 (congrArg Value.bool hb493)), trivial⟩
         refine Step.known _ hkn ?_
         have hs864 := SP.below hs53 hk
         refine Step.callF (f := 16) (fo := (.func 16)) (xs := #[(.tmp 70)]) (tys := #[2]) (first := #[]) (captured := #[]) (d := (some 71)) (k := 3) (by kernel_rfl) rfl (by kernel_rfl) (by kernel_rfl) Tryd.call16 (L_num_Put_walk  p1 w'  z494 hz495) ?_
         rintro e w865 ⟨A867, c868, rfl, hs866⟩
         exact ⟨_, rfl, SP.keeps hs866, _, updO_known hkn, ⟨_, _, rfl, SP.row_of hs866⟩⟩
        ·intro ρ' w' hk hs hah
         obtain ⟨A870, c871, e71, hr872⟩ := hah 3 71 (by kernel_rfl)
         have e69 := hah 1 69 (by kernel_rfl)
         have hkn : Known ρ' [(71, (.slice A870 (List.length z494) c871)), (69, (.bool true))] := ⟨e71, (Eq.trans e69 (congrArg Value.bool hb493)), trivial⟩
         refine Step.known _ hkn ?_
         have hs869 := SP.below hs53 hk
         refine Step.toStr (T := 22) (S' := 9) (E := 5) (x := (.tmp 71)) (A := A870) (c := c871) (l := z494) (d := (some 72)) (k := 4) (by kernel_rfl) rfl (by kernel_rfl) (by kernel_rfl) (by kernel_rfl) (by kernel_rfl) hr872 ?_
         exact ⟨Below.refl _ _, _, updO_known hkn, rfl⟩
        ·exact Owes.pure [(0, (.int .i64 p1)), (69, (.bool true))] ⟨sS (by kernel_rfl) (by kernel_rfl), sB 1 (by kernel_rfl) z7 (by kernel_rfl) hb493, trivial⟩ (.int .i64 p1) (fun _ _ => by kernel_rfl) (fun _ => rfl)
        ·intro ρ' w' hk hs hah
         have e73 := hah 5 73 (by kernel_rfl)
         have e69 := hah 1 69 (by kernel_rfl)
         have hkn : Known ρ' [(73, (.int .i64 p1)), (69, (.bool true))] := ⟨e73, (Eq.trans e69 (congrArg Value.bool hb493)), trivial⟩
         refine Step.known _ hkn ?_
         have hs873 := SP.below hs53 hk
         refine Step.callF (f := 17) (fo := (.func 17)) (xs := #[(.tmp 73)]) (tys := #[2]) (first := #[]) (captured := #[]) (d := (some 74)) (k := 6) (by kernel_rfl) rfl (by kernel_rfl) (by kernel_rfl) Tryd.call17 (L_subwayref01_Put_walk  p1 w'  z500 hz501) ?_
         rintro e w874 ⟨A876, c877, rfl, hs875⟩
         exact ⟨_, rfl, SP.keeps hs875, _, updO_known hkn, ⟨_, _, rfl, SP.row_of hs875⟩⟩
        ·intro ρ' w' hk hs hah
         obtain ⟨A879, c880, e74, hr881⟩ := hah 6 74 (by kernel_rfl)
         have e69 := hah 1 69 (by kernel_rfl)
         have hkn : Known ρ' [(74, (.slice A879 (List.length z500) c880)), (69, (.bool true))] := ⟨e74, (Eq.trans e69 (congrArg Value.bool hb493)), trivial⟩
         refine Step.known _ hkn ?_
         have hs878 := SP.below hs53 hk
         refine Step.toStr (T := 22) (S' := 9) (E := 5) (x := (.tmp 74)) (A := A879) (c := c880) (l := z500) (d := (some 75)) (k := 7) (by kernel_rfl) rfl (by kernel_rfl) (by kernel_rfl) (by kernel_rfl) (by kernel_rfl) hr881 ?_
         exact ⟨Below.refl _ _, _, updO_known hkn, rfl⟩
        ·intro ρ' w' hk hs hah
         have e72 := hah 4 72 (by kernel_rfl)
         have e75 := hah 7 75 (by kernel_rfl)
         have e69 := hah 1 69 (by kernel_rfl)
         have hkn : Known ρ' [(72, (.string ⟨List.toArray z494⟩)), (75, (.string ⟨List.toArray z500⟩)), (69, (.bool true))] := ⟨e72, e75, (Eq.trans e69 (congrArg Value.bool hb493)), trivial⟩
         refine Step.known _ hkn ?_
         have hs882 := SP.below hs53 hk
         refine Step.strOp (op := .eql) (T := 9) (T' := 9) (x := (.tmp 72)) (y := (.tmp 75)) (a := z494) (b := z500) (r := (.bool (z494 == z500))) (d := (some 76)) (k := 8) (by kernel_rfl) rfl (by kernel_rfl) (by kernel_rfl) rfl ?_
         exact ⟨Below.refl _ _, _, updO_known hkn, rfl⟩
        ·exact Owes.pure [(69, (.bool true)), (76, (.bool (z494 == z500)))] ⟨sB 1 (by kernel_rfl) z7 (by kernel_rfl) hb493, sA 8 (by kernel_rfl) (by kernel_rfl), trivial⟩ (.bool (z494 == z500)) (fun _ _ => by kernel_rfl) (fun _ => rfl)
        ·exact Owes.pure [(77, (.bool (z494 == z500)))] ⟨sA 9 (by kernel_rfl) (by kernel_rfl), trivial⟩ (.bool (z494 == z500)) (fun _ _ => by kernel_rfl) (fun _ => rfl)
        ·exact Owes.pure [(8, (.int .i64 z18.1)), (78, (.bool true))] ⟨sS (by kernel_rfl) (by kernel_rfl), sB 10 (by kernel_rfl) (z494 == z500) (by kernel_rfl) hb506, trivial⟩ (.int .i64 z18.1) (fun _ _ => by kernel_rfl) (fun _ => rfl)
        ·exact Owes.pure [(11, (.int .i64 z24.1)), (78, (.bool true))] ⟨sS (by kernel_rfl) (by kernel_rfl), sB 10 (by kernel_rfl) (z494 == z500) (by kernel_rfl) hb506, trivial⟩ (.int .i64 z24.1) (fun _ _ => by kernel_rfl) (fun _ => rfl)
        ·exact Owes.pure [(79, (.int .i64 z18.1)), (80, (.int .i64 z24.1)), (78, (.bool true))] ⟨sA 11 (by kernel_rfl) (by kernel_rfl), sA 12 (by kernel_rfl) (by kernel_rfl), sB 10 (by kernel_rfl) (z494 == z500) (by kernel_rfl) hb506, trivial⟩ (.bool (z18.1 == z24.1)) (fun _ _ => by kernel_rfl) (fun _ => rfl)
        ·exact Owes.pure [(78, (.bool true)), (81, (.bool (z18.1 == z24.1)))] ⟨sB 10 (by kernel_rfl) (z494 == z500) (by kernel_rfl) hb506, sA 13 (by kernel_rfl) (by kernel_rfl), trivial⟩ (.bool (z18.1 == z24.1)) (fun _ _ => by kernel_rfl) (fun _ => rfl)
        ·exact Owes.pure [(82, (.bool (z18.1 == z24.1)))] ⟨sA 14 (by kernel_rfl) (by kernel_rfl), trivial⟩ (.bool (z18.1 == z24.1)) (fun _ _ => by kernel_rfl) (fun _ => rfl)
        ·exact Owes.pure [(9, (.int .i64 z18.2.1)), (83, (.bool true))] ⟨sS (by kernel_rfl) (by kernel_rfl), sB 15 (by kernel_rfl) (z18.1 == z24.1) (by kernel_rfl) hb507, trivial⟩ (.int .i64 z18.2.1) (fun _ _ => by kernel_rfl) (fun _ => rfl)
        ·exact Owes.pure [(12, (.int .i64 z24.2.1)), (83, (.bool true))] ⟨sS (by kernel_rfl) (by kernel_rfl), sB 15 (by kernel_rfl) (z18.1 == z24.1) (by kernel_rfl) hb507, trivial⟩ (.int .i64 z24.2.1) (fun _ _ => by kernel_rfl) (fun _ => rfl)
        ·exact Owes.pure [(84, (.int .i64 z18.2.1)), (85, (.int .i64 z24.2.1)), (83, (.bool true))] ⟨sA 16 (by kernel_rfl) (by kernel_rfl), sA 17 (by kernel_rfl) (by kernel_rfl), sB 15 (by kernel_rfl) (z18.1 == z24.1) (by kernel_rfl) hb507, trivial⟩ (.bool (z18.2.1 == z24.2.1)) (fun _ _ => by kernel_rfl) (fun _ => rfl)
        ·exact Owes.pure [(83, (.bool true)), (86, (.bool (z18.2.1 == z24.2.1)))] ⟨sB 15 (by kernel_rfl) (z18.1 == z24.1) (by kernel_rfl) hb507, sA 18 (by kernel_rfl) (by kernel_rfl), trivial⟩ (.bool (z18.2.1 == z24.2.1)) (fun _ _ => by kernel_rfl) (fun _ => rfl)
        ·exact Owes.pure [(87, (.bool (z18.2.1 == z24.2.1)))] ⟨sA 19 (by kernel_rfl) (by kernel_rfl), trivial⟩ (.bool (z18.2.1 == z24.2.1)) (fun _ _ => by kernel_rfl) (fun _ => rfl)
        ·exact Owes.skip [(88, (.bool false))] ⟨sB 20 (by kernel_rfl) (z18.2.1 == z24.2.1) (by kernel_rfl) hb508, trivial⟩ (some 89) (fun _ => by kernel_rfl) (by kernel_rfl) (fun _ => rfl)
        ·exact Owes.skip [(88, (.bool false))] ⟨sB 20 (by kernel_rfl) (z18.2.1 == z24.2.1) (by kernel_rfl) hb508, trivial⟩ (some 90) (fun _ => by kernel_rfl) (by kernel_rfl) (fun _ => rfl)
        ·exact Owes.skip [(88, (.bool false))] ⟨sB 20 (by kernel_rfl) (z18.2.1 == z24.2.1) (by kernel_rfl) hb508, trivial⟩ (some 91) (fun _ => by kernel_rfl) (by kernel_rfl) (fun _ => rfl)
        ·exact Owes.pure [(88, (.bool false)), (91, undef)] ⟨sB 20 (by kernel_rfl) (z18.2.1 == z24.2.1) (by kernel_rfl) hb508, sA 23 (by kernel_rfl) (by kernel_rfl), trivial⟩ (.bool false) (fun _ _ => by kernel_rfl) (fun _ => rfl)
        ·exact Owes.pure [(92, (.bool false))] ⟨sA 24 (by kernel_rfl) (by kernel_rfl), trivial⟩ (.bool false) (fun _ _ => by kernel_rfl) (fun _ => rfl)
        ·exact Owes.skip [(93, (.bool false))] ⟨sA 25 (by kernel_rfl) (by kernel_rfl), trivial⟩ (some 94) (fun _ => by kernel_rfl) (by kernel_rfl) (fun _ => rfl)
        ·exact Owes.skip [(93, (.bool false))] ⟨sA 25 (by kernel_rfl) (by kernel_rfl), trivial⟩ (some 95) (fun _ => by kernel_rfl) (by kernel_rfl) (fun _ => rfl)
        ·exact Owes.skip [(93, (.bool false))] ⟨sA 25 (by kernel_rfl) (by kernel_rfl), trivial⟩ (some 96) (fun _ => by kernel_rfl) (by kernel_rfl) (fun _ => rfl)
        ·exact Owes.skip [(93, (.bool false))] ⟨sA 25 (by kernel_rfl) (by kernel_rfl), trivial⟩ (some 97) (fun _ => by kernel_rfl) (by kernel_rfl) (fun _ => rfl)
        ·exact Owes.skip [(93, (.bool false))] ⟨sA 25 (by kernel_rfl) (by kernel_rfl), trivial⟩ (some 98) (fun _ => by kernel_rfl) (by kernel_rfl) (fun _ => rfl)
        ·exact Owes.skip [(93, (.bool false))] ⟨sA 25 (by kernel_rfl) (by kernel_rfl), trivial⟩ (some 99) (fun _ => by kernel_rfl) (by kernel_rfl) (fun _ => rfl)
        ·exact Owes.skip [(93, (.bool false))] ⟨sA 25 (by kernel_rfl) (by kernel_rfl), trivial⟩ (some 100) (fun _ => by kernel_rfl) (by kernel_rfl) (fun _ => rfl)
        ·exact Owes.pure [(93, (.bool false)), (100, undef)] ⟨sA 25 (by kernel_rfl) (by kernel_rfl), sA 32 (by kernel_rfl) (by kernel_rfl), trivial⟩ (.bool false) (fun _ _ => by kernel_rfl) (fun _ => rfl)
        ·exact Owes.pure [(101, (.bool false))] ⟨sA 33 (by kernel_rfl) (by kernel_rfl), trivial⟩ (.bool false) (fun _ _ => by kernel_rfl) (fun _ => rfl)
        ·exact Owes.skip [(102, (.bool false))] ⟨sA 34 (by kernel_rfl) (by kernel_rfl), trivial⟩ (some 103) (fun _ => by kernel_rfl) (by kernel_rfl) (fun _ => rfl)
        ·exact Owes.skip [(102, (.bool false))] ⟨sA 34 (by kernel_rfl) (by kernel_rfl), trivial⟩ (some 104) (fun _ => by kernel_rfl) (by kernel_rfl) (fun _ => rfl)
        ·exact Owes.skip [(102, (.bool false))] ⟨sA 34 (by kernel_rfl) (by kernel_rfl), trivial⟩ (some 105) (fun _ => by kernel_rfl) (by kernel_rfl) (fun _ => rfl)
        ·exact Owes.pure [(102, (.bool false)), (105, undef)] ⟨sA 34 (by kernel_rfl) (by kernel_rfl), sA 37 (by kernel_rfl) (by kernel_rfl), trivial⟩ (.bool false) (fun _ _ => by kernel_rfl) (fun _ => rfl)
        ·exact Owes.pure [(106, (.bool false))] ⟨sA 38 (by kernel_rfl) (by kernel_rfl), trivial⟩ (.bool false) (fun _ _ => by kernel_rfl) (fun _ => rfl)
        ·exact Owes.skip [(107, (.bool false))] ⟨sA 39 (by kernel_rfl) (by kernel_rfl), trivial⟩ (some 108) (fun _ => by kernel_rfl) (by kernel_rfl) (fun _ => rfl)
        ·exact Owes.skip [(107, (.bool false))] ⟨sA 39 (by kernel_rfl) (by kernel_rfl), trivial⟩ (some 109) (fun _ => by kernel_rfl) (by kernel_rfl) (fun _ => rfl)
        ·exact Owes.skip [(107, (.bool false))] ⟨sA 39 (by kernel_rfl) (by kernel_rfl), trivial⟩ (some 110) (fun _ => by kernel_rfl) (by kernel_rfl) (fun _ => rfl)
        ·exact Owes.pure [(107, (.bool false)), (110, undef)] ⟨sA 39 (by kernel_rfl) (by kernel_rfl), sA 42 (by kernel_rfl) (by kernel_rfl), trivial⟩ (.bool false) (fun _ _ => by kernel_rfl) (fun _ => rfl)
        ·exact Owes.pure [(111, (.bool false))] ⟨sA 43 (by kernel_rfl) (by kernel_rfl), trivial⟩ (.bool false) (fun _ _ => by kernel_rfl) (fun _ => rfl)
        ·exact Owes.skip [(112, (.bool false))] ⟨sA 44 (by kernel_rfl) (by kernel_rfl), trivial⟩ (some 113) (fun _ => by kernel_rfl) (by kernel_rfl) (fun _ => rfl)
        ·exact Owes.skip [(112, (.bool false))] ⟨sA 44 (by kernel_rfl) (by kernel_rfl), trivial⟩ (some 114) (fun _ => by kernel_rfl) (by kernel_rfl) (fun _ => rfl)
        ·exact Owes.skip [(112, (.bool false))] ⟨sA 44 (by kernel_rfl) (by kernel_rfl), trivial⟩ (some 115) (fun _ => by kernel_rfl) (by kernel_rfl) (fun _ => rfl)
        ·exact Owes.pure [(112, (.bool false)), (115, undef)] ⟨sA 44 (by kernel_rfl) (by kernel_rfl), sA 47 (by kernel_rfl) (by kernel_rfl), trivial⟩ (.bool false) (fun _ _ => by kernel_rfl) (fun _ => rfl)
        ·exact Owes.pure [(116, (.bool false))] ⟨sA 48 (by kernel_rfl) (by kernel_rfl), trivial⟩ (.bool false) (fun _ _ => by kernel_rfl) (fun _ => rfl)
        ·exact Owes.skip [(117, (.bool false))] ⟨sA 49 (by kernel_rfl) (by kernel_rfl), trivial⟩ (some 118) (fun _ => by kernel_rfl) (by kernel_rfl) (fun _ => rfl)
        ·exact Owes.skip [(117, (.bool false))] ⟨sA 49 (by kernel_rfl) (by kernel_rfl), trivial⟩ (some 119) (fun _ => by kernel_rfl) (by kernel_rfl) (fun _ => rfl)
        ·exact Owes.skip [(117, (.bool false))] ⟨sA 49 (by kernel_rfl) (by kernel_rfl), trivial⟩ (some 120) (fun _ => by kernel_rfl) (by kernel_rfl) (fun _ => rfl)
        ·exact Owes.skip [(117, (.bool false))] ⟨sA 49 (by kernel_rfl) (by kernel_rfl), trivial⟩ (some 121) (fun _ => by kernel_rfl) (by kernel_rfl) (fun _ => rfl)
        ·exact Owes.skip [(117, (.bool false))] ⟨sA 49 (by kernel_rfl) (by kernel_rfl), trivial⟩ (some 122) (fun _ => by kernel_rfl) (by kernel_rfl) (fun _ => rfl)
        ·exact Owes.pure [(117, (.bool false)), (122, undef)] ⟨sA 49 (by kernel_rfl) (by kernel_rfl), sA 54 (by kernel_rfl) (by kernel_rfl), trivial⟩ (.bool false) (fun _ _ => by kernel_rfl) (fun _ => rfl)
        ·exact Owes.pure [(123, (.bool false))] ⟨sA 55 (by kernel_rfl) (by kernel_rfl), trivial⟩ (.bool false) (fun _ _ => by kernel_rfl) (fun _ => rfl)
        ·exact Owes.skip [(124, (.bool false))] ⟨sA 56 (by kernel_rfl) (by kernel_rfl), trivial⟩ (some 125) (fun _ => by kernel_rfl) (by kernel_rfl) (fun _ => rfl)
        ·exact Owes.skip [(124, (.bool false))] ⟨sA 56 (by kernel_rfl) (by kernel_rfl), trivial⟩ (some 126) (fun _ => by kernel_rfl) (by kernel_rfl) (fun _ => rfl)
        ·exact Owes.skip [(124, (.bool false))] ⟨sA 56 (by kernel_rfl) (by kernel_rfl), trivial⟩ (some 127) (fun _ => by kernel_rfl) (by kernel_rfl) (fun _ => rfl)
        ·exact Owes.pure [(124, (.bool false)), (127, undef)] ⟨sA 56 (by kernel_rfl) (by kernel_rfl), sA 59 (by kernel_rfl) (by kernel_rfl), trivial⟩ (.bool false) (fun _ _ => by kernel_rfl) (fun _ => rfl)
        ·exact Owes.pure [(128, (.bool false))] ⟨sA 60 (by kernel_rfl) (by kernel_rfl), trivial⟩ (.bool false) (fun _ _ => by kernel_rfl) (fun _ => rfl)
        ·exact Owes.skip [(129, (.bool false))] ⟨sA 61 (by kernel_rfl) (by kernel_rfl), trivial⟩ (some 130) (fun _ => by kernel_rfl) (by kernel_rfl) (fun _ => rfl)
        ·exact Owes.skip [(129, (.bool false))] ⟨sA 61 (by kernel_rfl) (by kernel_rfl), trivial⟩ (some 131) (fun _ => by kernel_rfl) (by kernel_rfl) (fun _ => rfl)
        ·exact Owes.skip [(129, (.bool false))] ⟨sA 61 (by kernel_rfl) (by kernel_rfl), trivial⟩ (some 132) (fun _ => by kernel_rfl) (by kernel_rfl) (fun _ => rfl)
        ·exact Owes.pure [(129, (.bool false)), (132, undef)] ⟨sA 61 (by kernel_rfl) (by kernel_rfl), sA 64 (by kernel_rfl) (by kernel_rfl), trivial⟩ (.bool false) (fun _ _ => by kernel_rfl) (fun _ => rfl)
        ·exact Owes.pure [(133, (.bool false))] ⟨sA 65 (by kernel_rfl) (by kernel_rfl), trivial⟩ (.bool false) (fun _ _ => by kernel_rfl) (fun _ => rfl)
        ·intro ρ' w' hk hs hf
         have hs884 := SP.below hs53 hk
         obtain ⟨w883, hww883⟩ : ∃ x, w' = x := ⟨_, rfl⟩
         subst hww883
         have e6 := hf 66 6 (by kernel_rfl)
         refine postKnown [(6, (.bool false))] ⟨e6, trivial⟩ ?_
         exact ⟨false, ⟨(by kernel_rfl), trivial⟩, SP.sel hs884 [] rfl rfl, H⟩
      ·have H := cf H hb507
       refine At.draw (by kernel_rfl) (by kernel_rfl) (by kernel_rfl) (by kernel_rfl) (by kernel_rfl) [FEq (.bool z7), FEq (.bool z7), FEq (.int .i64 p1), FRow eU8 z494, FEq (.string ⟨List.toArray z494⟩), FEq (.int .i64 p1), FRow eU8 z500, FEq (.string ⟨List.toArray z500⟩), FEq (.bool (z494 == z500)), FEq (.bool (z494 == z500)), FEq (.bool (z494 == z500)), FEq (.int .i64 z18.1), FEq (.int .i64 z24.1), FEq (.bool (z18.1 == z24.1)), FEq (.bool (z18.1 == z24.1)), FEq (.bool (z18.1 == z24.1)), FEq undef, FEq undef, FEq undef, FEq (.bool false), FEq (.bool false), FEq undef, FEq undef, FEq undef, FEq (.bool false), FEq (.bool false), FEq undef, FEq undef, FEq undef, FEq undef, FEq undef, FEq undef, FEq undef, FEq (.bool false), FEq (.bool false), FEq undef, FEq undef, FEq undef, FEq (.bool false), FEq (.bool false), FEq undef, FEq undef, FEq undef, FEq (.bool false), FEq (.bool false), FEq undef, FEq undef, FEq undef, FEq (.bool false), FEq (.bool false), FEq undef, FEq undef, FEq undef, FEq undef, FEq undef, FEq (.bool false), FEq (.bool false), FEq undef, FEq undef, FEq undef, FEq (.bool false), FEq (.bool false), FEq undef, FEq undef, FEq undef, FEq (.bool false), FEq (.bool false)] ⟨mono_eq _, mono_eq _, mono_eq _, mono_row _ _, mono_eq _, mono_eq _, mono_row _ _, mono_eq _, mono_eq _, mono_eq _, mono_eq _, mono_eq _, mono_eq _, mono_eq _, mono_eq _, mono_eq _, mono_eq _, mono_eq _, mono_eq _, mono_eq _, mono_eq _, mono_eq _, mono_eq _, mono_eq _, mono_eq _, mono_eq _, mono_eq _, mono_eq _, mono_eq _, mono_eq _, mono_eq _, mono_eq _, mono_eq _, mono_eq _, mono_eq _, mono_eq _, mono_eq _, mono_eq _, mono_eq _, mono_eq _, mono_eq _, mono_eq _, mono_eq _, mono_eq _, mono_eq _, mono_eq _, mono_eq _, mono_eq _, mono_eq _, mono_eq _, mono_eq _, mono_eq _, mono_eq _, mono_eq _, mono_eq _, mono_eq _, mono_eq _, mono_eq _, mono_eq _, mono_eq _, mono_eq _, mono_eq _, mono_eq _, mono_eq _, mono_eq _, mono_eq _, mono_eq _, trivial⟩ (N := 67) (by kernel_rfl) ⟨⟨⟨⟨⟨⟨⟨⟨⟨⟨⟨⟨⟨⟨⟨⟨⟨⟨⟨⟨⟨⟨⟨⟨⟨⟨⟨⟨⟨⟨⟨⟨⟨⟨⟨⟨⟨⟨⟨⟨⟨⟨⟨⟨⟨⟨⟨⟨⟨⟨⟨⟨⟨⟨⟨⟨⟨⟨⟨⟨⟨⟨⟨⟨⟨⟨⟨trivial, ?_⟩, ?_⟩, ?_⟩, ?_⟩, ?_⟩, ?_⟩, ?_⟩, ?_⟩, ?_⟩, ?_⟩, ?_⟩, ?_⟩, ?_⟩, ?_⟩, ?_⟩, ?_⟩, ?_⟩, ?_⟩, ?_⟩, ?_⟩, ?_⟩, ?_⟩, ?_⟩, ?_⟩, ?_⟩, ?_⟩, ?_⟩, ?_⟩, ?_⟩, ?_⟩, ?_⟩, ?_⟩, ?_⟩, ?_⟩, ?_⟩, ?_⟩, ?_⟩, ?_⟩, ?_⟩, ?_⟩, ?_⟩, ?_⟩, ?_⟩, ?_⟩, ?_⟩, ?_⟩, ?_⟩, ?_⟩, ?_⟩, ?_⟩, ?_⟩, ?_⟩, ?_⟩, ?_⟩, ?_⟩, ?_⟩, ?_⟩, ?_⟩, ?_⟩, ?_⟩, ?_⟩, ?_⟩, ?_⟩, ?_⟩, ?_⟩, ?_⟩, ?_⟩ ?_
       ·exact Owes.pure [(7, (.bool z7))] ⟨sS (by kernel_rfl) (by kernel_rfl), trivial⟩ (.bool z7) (fun _ _ => by kernel_rfl) (fun _ => rfl)
       ·exact Owes.pure [(68, (.bool z7))] ⟨sA 0 (by kernel_rfl) (by kernel_rfl), trivial⟩ (.bool z7) (fun _ _ => by kernel_rfl) (fun _ => rfl)
       ·exact Owes.pure [(0, (.int .i64 p1)), (69, (.bool true))] ⟨sS (by kernel_rfl) (by kernel_rfl), sB 1 (by kernel_rfl) z7 (by kernel_rfl) hb493, trivial⟩ (.int .i64 p1) (fun _ _ => by kernel_rfl) (fun _ => rfl)
       ·intro ρ' w' hk hs hah
        have e70 := hah 2 70 (by kernel_rfl)
        have e69 := hah 1 69 (by kernel_rfl)
        have hkn : Known ρ' [(70, (.int .i64 p1)), (69, (.bool true))] := ⟨e70, (Eq.trans e69 (congrArg Value.bool hb493)), trivial⟩
        refine Step.known _ hkn ?_
        have hs885 := SP.below hs53 hk
        refine Step.callF (f := 16) (fo := (.func 16)) (xs := #[(.tmp 70)]) (tys := #[2]) (first := #[]) (captured := #[]) (d := (some 71)) (k := 3) (by kernel_rfl) rfl (by kernel_rfl) (by kernel_rfl) Tryd.call16 (L_num_Put_walk  p1 w'  z494 hz495) ?_
        rintro e w886 ⟨A888, c889, rfl, hs887⟩
        exact ⟨_, rfl, SP.keeps hs887, _, updO_known hkn, ⟨_, _, rfl, SP.row_of hs887⟩⟩
       ·intro ρ' w' hk hs hah
        obtain ⟨A891, c892, e71, hr893⟩ := hah 3 71 (by kernel_rfl)
        have e69 := hah 1 69 (by kernel_rfl)
        have hkn : Known ρ' [(71, (.slice A891 (List.length z494) c892)), (69, (.bool true))] := ⟨e71, (Eq.trans e69 (congrArg Value.bool hb493)), trivial⟩
        refine Step.known _ hkn ?_
        have hs890 := SP.below hs53 hk
        refine Step.toStr (T := 22) (S' := 9) (E := 5) (x := (.tmp 71)) (A := A891) (c := c892) (l := z494) (d := (some 72)) (k := 4) (by kernel_rfl) rfl (by kernel_rfl) (by kernel_rfl) (by kernel_rfl) (by kernel_rfl) hr893 ?_
        exact ⟨Below.refl _ _, _, updO_known hkn, rfl⟩
       ·exact Owes.pure [(0, (.int .i64 p1)), (69, (.bool true))] ⟨sS (by kernel_rfl) (by kernel_rfl), sB 1 (by kernel_rfl) z7 (by kernel_rfl) hb493, trivial⟩ (.int .i64 p1) (fun _ _ => by kernel_rfl) (fun _ => rfl)
       ·intro ρ' w' hk hs hah
        have e73 := hah 5 73 (by kernel_rfl)
        have e69 := hah 1 69 (by kernel_rfl)
        have hkn : Known ρ' [(73, (.int .i64 p1)), (69, (.bool true))] := ⟨e73, (Eq.trans e69 (congrArg Value.bool hb493)), trivial⟩
        refine Step.known _ hkn ?_
        have hs894 := SP.below hs53 hk
        refine Step.callF (f := 17) (fo := (.func 17)) (xs := #[(.tmp 73)]) (tys := #[2]) (first := #[]) (captured := #[]) (d := (some 74)) (k := 6) (by kernel_rfl) rfl (by kernel_rfl) (by kernel_rfl) Tryd.call17 (L_subwayref01_Put_walk  p1 w'  z500 hz501) ?_
        rintro e w895 ⟨A897, c898, rfl, hs896⟩
        exact ⟨_, rfl, SP.keeps hs896, _, updO_known hkn, ⟨_, _, rfl, SP.row_of hs896⟩⟩
       ·intro ρ' w' hk hs hah
        obtain ⟨A900, c901, e74, hr902⟩ := hah 6 74 (by kernel_rfl)
        have e69 := hah 1 69 (by kernel_rfl)
        have hkn : Known ρ' [(74, (.slice A900 (List.length z500) c901)), (69, (.bool true))] := ⟨e74, (Eq.trans e69 (congrArg Value.bool hb493)), trivial⟩
        refine Step.known _ hkn ?_
        have hs899 := SP.below hs53 hk
        refine Step.toStr (T := 22) (S' := 9) (E := 5) (x := (.tmp 74)) (A := A900) (c := c901) (l := z500) (d := (some 75)) (k := 7) (by kernel_rfl) rfl (by kernel_rfl) (by kernel_rfl) (by kernel_rfl) (by kernel_rfl) hr902 ?_
        exact ⟨Below.refl _ _, _, updO_known hkn, rfl⟩
       ·intro ρ' w' hk hs hah
        have e72 := hah 4 72 (by kernel_rfl)
        have e75 := hah 7 75 (by kernel_rfl)
        have e69 := hah 1 69 (by kernel_rfl)
        have hkn : Known ρ' [(72, (.string ⟨List.toArray z494⟩)), (75, (.string ⟨List.toArray z500⟩)), (69, (.bool true))] := ⟨e72, e75, (Eq.trans e69 (congrArg Value.bool hb493)), trivial⟩
        refine Step.known _ hkn ?_
        have hs903 := SP.below hs53 hk
        refine Step.strOp (op := .eql) (T := 9) (T' := 9) (x := (.tmp 72)) (y := (.tmp 75)) (a := z494) (b := z500) (r := (.bool (z494 == z500))) (d := (some 76)) (k := 8) (by kernel_rfl) rfl (by kernel_rfl) (by kernel_rfl) rfl ?_
        exact ⟨Below.refl _ _, _, updO_known hkn, rfl⟩
       ·exact Owes.pure [(69, (.bool true)), (76, (.bool (z494 == z500)))] ⟨sB 1 (by kernel_rfl) z7 (by kernel_rfl) hb493, sA 8 (by kernel_rfl) (by kernel_rfl), trivial⟩ (.bool (z494 == z500)) (fun _ _ => by kernel_rfl) (fun _ => rfl)
       ·exact Owes.pure [(77, (.bool (z494 == z500)))] ⟨sA 9 (by kernel_rfl) (by kernel_rfl), trivial⟩ (.bool (z494 == z500)) (fun _ _ => by kernel_rfl) (fun _ => rfl)
       ·exact Owes.pure [(8, (.int .i64 z18.1)), (78, (.bool true))] ⟨sS (by kernel_rfl) (by kernel_rfl), sB 10 (by kernel_rfl) (z494 == z500) (by kernel_rfl) hb506, trivial⟩ (.int .i64 z18.1) (fun _ _ => by kernel_rfl) (fun _ => rfl)
       ·exact Owes.pure [(11, (.int .i64 z24.1)), (78, (.bool true))] ⟨sS (by kernel_rfl) (by kernel_rfl), sB 10 (by kernel_rfl) (z494 == z500) (by kernel_rfl) hb506, trivial⟩ (.int .i64 z24.1) (fun _ _ => by kernel_rfl) (fun _ => rfl)
       ·exact Owes.pure [(79, (.int .i64 z18.1)), (80, (.int .i64 z24.1)), (78, (.bool true))] ⟨sA 11 (by kernel_rfl) (by kernel_rfl), sA 12 (by kernel_rfl) (by kernel_rfl), sB 10 (by kernel_rfl) (z494 == z500) (by kernel_rfl) hb506, trivial⟩ (.bool (z18.1 == z24.1)) (fun _ _ => by kernel_rfl) (fun _ => rfl)
       ·exact Owes.pure [(78, (.bool true)), (81, (.bool (z18.1 == z24.1)))] ⟨sB 10 (by kernel_rfl) (z494 == z500) (by kernel_rfl) hb506, sA 13 (by kernel_rfl) (by kernel_rfl), trivial⟩ (.bool (z18.1 == z24.1)) (fun _ _ => by kernel_rfl) (fun _ => rfl)
       ·exact Owes.pure [(82, (.bool (z18.1 == z24.1)))] ⟨sA 14 (by kernel_rfl) (by kernel_rfl), trivial⟩ (.bool (z18.1 == z24.1)) (fun _ _ => by kernel_rfl) (fun _ => rfl)
       ·exact Owes.skip [(83, (.bool false))] ⟨sB 15 (by kernel_rfl) (z18.1 == z24.1) (by kernel_rfl) hb507, trivial⟩ (some 84) (fun _ => by kernel_rfl) (by kernel_rfl) (fun _ => rfl)
       ·exact Owes.skip [(83, (.bool false))] ⟨sB 15 (by kernel_rfl) (z18.1 == z24.1) (by kernel_rfl) hb507, trivial⟩ (some 85) (fun _ => by kernel_rfl) (by kernel_rfl) (fun _ => rfl)
       ·exact Owes.skip [(83, (.bool false))] ⟨sB 15 (by kernel_rfl) (z18.1 == z24.1) (by kernel_rfl) hb507, trivial⟩ (some 86) (fun _ => by kernel_rfl) (by kernel_rfl) (fun _ => rfl)
       ·exact Owes.pure [(83, (.bool false)), (86, undef)] ⟨sB 15 (by kernel_rfl) (z18.1 == z24.1) (by kernel_rfl) hb507, sA 18 (by kernel_rfl) (by kernel_rfl), trivial⟩ (.bool false) (fun _ _ => by kernel_rfl) (fun _ => rfl)
       ·exact Owes.pure [(87, (.bool false))] ⟨sA 19 (by kernel_rfl) (by kernel_rfl), trivial⟩ (.bool false) (fun _ _ => by kernel_rfl) (fun _ => rfl)
       ·exact Owes.skip [(88, (.bool false))] ⟨sA 20 (by kernel_rfl) (by kernel_rfl), trivial⟩ (some 89) (fun _ => by kernel_rfl) (by kernel_rfl) (fun _ => rfl)
       ·exact Owes.skip [(88, (.bool false))] ⟨sA 20 (by kernel_rfl) (by kernel_rfl), trivial⟩ (some 90) (fun _ => by kernel_rfl) (by kernel_rfl) (fun _ => rfl)
       ·exact Owes.skip [(88, (.bool false))] ⟨sA 20 (by kernel_rfl) (by kernel_rfl), trivial⟩ (some 91) (fun _ => by kernel_rfl) (by kernel_rfl) (fun _ => rfl)
       ·exact Owes.pure [(88, (.bool false)), (91, undef)] ⟨sA 20 (by kernel_rfl) (by kernel_rfl), sA 23 (by kernel_rfl) (by kernel_rfl), trivial⟩ (.bool false) (fun _ _ => by kernel_rfl) (fun _ => rfl)
       ·exact Owes.pure [(92, (.bool false))] ⟨sA 24 (by kernel_rfl) (by kernel_rfl), trivial⟩ (.bool false) (fun _ _ => by kernel_rfl) (fun _ => rfl)
       ·exact Owes.skip [(93, (.bool false))] ⟨sA 25 (by kernel_rfl) (by kernel_rfl), trivial⟩ (some 94) (fun _ => by kernel_rfl) (by kernel_rfl) (fun _ => rfl)
       ·exact Owes.skip [(93, (.bool false))] ⟨sA 25 (by kernel_rfl) (by kernel_rfl), trivial⟩ (some 95) (fun _ => by kernel_rfl) (by kernel_rfl) (fun _ => rfl)
       ·exact Owes.skip [(93, (.bool false))] ⟨sA 25 (by kernel_rfl) (by kernel_rfl), trivial⟩ (some 96) (fun _ => by kernel_rfl) (by kernel_rfl) (fun _ => rfl)
       ·exact Owes.skip [(93, (.bool false))] ⟨sA 25 (by kernel_rfl) (by kernel_rfl), trivial⟩ (some 97) (fun _ => by kernel_rfl) (by kernel_rfl) (fun _ => rfl)
       ·exact Owes.skip [(93, (.bool false))] ⟨sA 25 (by kernel_rfl) (by kernel_rfl), trivial⟩ (some 98) (fun _ => by kernel_rfl) (by kernel_rfl) (fun _ => rfl)
       ·exact Owes.skip [(93, (.bool false))] ⟨sA 25 (by kernel_rfl) (by kernel_rfl), trivial⟩ (some 99) (fun _ => by kernel_rfl) (by kernel_rfl) (fun _ => rfl)
       ·exact Owes.skip [(93, (.bool false))] ⟨sA 25 (by kernel_rfl) (by kernel_rfl), trivial⟩ (some 100) (fun _ => by kernel_rfl) (by kernel_rfl) (fun _ => rfl)
       ·exact Owes.pure [(93, (.bool false)), (100, undef)] ⟨sA 25 (by kernel_rfl) (by kernel_rfl), sA 32 (by kernel_rfl) (by kernel_rfl), trivial⟩ (.bool false) (fun _ _ => by kernel_rfl) (fun _ => rfl)
       ·exact Owes.pure [(101, (.bool false))] ⟨sA 33 (by kernel_rfl) (by kernel_rfl), trivial⟩ (.bool false) (fun _ _ => by kernel_rfl) (fun _ => rfl)
       ·exact Owes.skip [(102, (.bool false))] ⟨sA 34 (by kernel_rfl) (by kernel_rfl), trivial⟩ (some 103) (fun _ => by kernel_rfl) (by kernel_rfl) (fun _ => rfl)
       ·exact Owes.skip [(102, (.bool false))] ⟨sA 34 (by kernel_rfl) (by kernel_rfl), trivial⟩ (some 104) (fun _ => by kernel_rfl) (by kernel_rfl) (fun _ => rfl)
       ·exact Owes.skip [(102, (.bool false))] ⟨sA 34 (by kernel_rfl) (by kernel_rfl), trivial⟩ (some 105) (fun _ => by kernel_rfl) (by kernel_rfl) (fun _ => rfl)
       ·exact Owes.pure [(102, (.bool false)), (105, undef)] ⟨sA 34 (by kernel_rfl) (by kernel_rfl), sA 37 (by kernel_rfl) (by kernel_rfl), trivial⟩ (.bool false) (fun _ _ => by kernel_rfl) (fun _ => rfl)
       ·exact Owes.pure [(106, (.bool false))] ⟨sA 38 (by kernel_rfl) (by kernel_rfl), trivial⟩ (.bool false) (fun _ _ => by kernel_rfl) (fun _ => rfl)
       ·exact Owes.skip [(107, (.bool false))] ⟨sA 39 (by kernel_rfl) (by kernel_rfl), trivial⟩ (some 108) (fun _ => by kernel_rfl) (by kernel_rfl) (fun _ => rfl)
       ·exact Owes.skip [(107, (.bool false))] ⟨sA 39 (by kernel_rfl) (by kernel_rfl), trivial⟩ (some 109) (fun _ => by kernel_rfl) (by kernel_rfl) (fun _ => rfl)
       ·exact Owes.skip [(107, (.bool false))] ⟨sA 39 (by kernel_rfl) (by kernel_rfl), trivial⟩ (some 110) (fun _ => by kernel_rfl) (by kernel_rfl) (fun _ => rfl)
       ·exact Owes.pure [(107, (.bool false)), (110, undef)] ⟨sA 39 (by kernel_rfl) (by kernel_rfl), sA 42 (by kernel_rfl) (by kernel_rfl), trivial⟩ (.bool false) (fun _ _ => by kernel_rfl) (fun _ => rfl)
       ·exact Owes.pure [(111, (.bool false))] ⟨sA 43 (by kernel_rfl) (by kernel_rfl), trivial⟩ (.bool false) (fun _ _ => by kernel_rfl) (fun _ => rfl)
       ·exact Owes.skip [(112, (.bool false))] ⟨sA 44 (by kernel_rfl) (by kernel_rfl), trivial⟩ (some 113) (fun _ => by kernel_rfl) (by kernel_rfl) (fun _ => rfl)
       ·exact Owes.skip [(112, (.bool false))] ⟨sA 44 (by kernel_rfl) (by kernel_rfl), trivial⟩ (some 114) (fun _ => by kernel_rfl) (by kernel_rfl) (fun _ => rfl)
       ·exact Owes.skip [(112, (.bool false))] ⟨sA 44 (by kernel_rfl) (by kernel_rfl), trivial⟩ (some 115) (fun _ => by kernel_rfl) (by kernel_rfl) (fun _ => rfl)
       ·exact Owes.pure [(112, (.bool false)), (115, undef)] ⟨sA 44 (by kernel_rfl) (by kernel_rfl), sA 47 (by kernel_rfl) (by kernel_rfl), trivial⟩ (.bool false) (fun _ _ => by kernel_rfl) (fun _ => rfl)
       ·exact Owes.pure [(116, (.bool false))] ⟨sA 48 (by kernel_rfl) (by kernel_rfl), trivial⟩ (.bool false) (fun _ _ => by kernel_rfl) (fun _ => rfl)
       ·exact Owes.skip [(117, (.bool false))] ⟨sA 49 (by kernel_rfl) (by kernel_rfl), trivial⟩ (some 118) (fun _ => by kernel_rfl) (by kernel_rfl) (fun _ => rfl)
       ·exact Owes.skip [(117, (.bool false))] ⟨sA 49 (by kernel_rfl) (by kernel_rfl), trivial⟩ (some 119) (fun _ => by kernel_rfl) (by kernel_rfl) (fun _ => rfl)
       ·exact Owes.skip [(117, (.bool false))] ⟨sA 49 (by kernel_rfl) (by kernel_rfl), trivial⟩ (some 120) (fun _ => by kernel_rfl) (by kernel_rfl) (fun _ => rfl)
       ·exact Owes.skip [(117, (.bool false))] ⟨sA 49 (by kernel_rfl) (by kernel_rfl), trivial⟩ (some 121) (fun _ => by kernel_rfl) (by kernel_rfl) (fun _ => rfl)
       ·exact Owes.skip [(117, (.bool false))] ⟨sA 49 (by kernel_rfl) (by kernel_rfl), trivial⟩ (some 122) (fun _ => by kernel_rfl) (by kernel_rfl) (fun _ => rfl)
       ·exact Owes.pure [(117, (.bool false)), (122, undef)] ⟨sA 49 (by kernel_rfl) (by kernel_rfl), sA 54 (by kernel_rfl) (by kernel_rfl), trivial⟩ (.bool false) (fun _ _ => by kernel_rfl) (fun _ => rfl)
       ·exact Owes.pure [(123, (.bool false))] ⟨sA 55 (by kernel_rfl) (by kernel_rfl), trivial⟩ (.bool false) (fun _ _ => by kernel_rfl) (fun _ => rfl)
       ·exact Owes.skip [(124, (.bool false))] ⟨sA 56 (by kernel_rfl) (by kernel_rfl), trivial⟩ (some 125) (fun _ => by kernel_rfl) (by kernel_rfl) (fun _ => rfl)
       ·exact Owes.skip [(124, (.bool false))] ⟨sA 56 (by kernel_rfl) (by kernel_rfl), trivial⟩ (some 126) (fun _ => by kernel_rfl) (by kernel_rfl) (fun _ => rfl)
       ·exact Owes.skip [(124, (.bool false))] ⟨sA 56 (by kernel_rfl) (by kernel_rfl), trivial⟩ (some 127) (fun _ => by kernel_rfl) (by kernel_rfl) (fun _ => rfl)
       ·exact Owes.pure [(124, (.bool false)), (127, undef)] ⟨sA 56 (by kernel_rfl) (by kernel_rfl), sA 59 (by kernel_rfl) (by kernel_rfl), trivial⟩ (.bool false) (fun _ _ => by kernel_rfl) (fun _ => rfl)
       ·exact Owes.pure [(128, (.bool false))] ⟨sA 60 (by kernel_rfl) (by kernel_rfl), trivial⟩ (.bool false) (fun _ _ => by kernel_rfl) (fun _ => rfl)
       ·exact Owes.skip [(129, (.bool false))] ⟨sA 61 (by kernel_rfl) (by kernel_rfl), trivial⟩ (some 130) (fun _ => by kernel_rfl) (by kernel_rfl) (fun _ => rfl)
       ·exact Owes.skip [(129, (.bool false))] ⟨sA 61 (by kernel_rfl) (by kernel_rfl), trivial⟩ (some 131) (fun _ => by kernel_rfl) (by kernel_rfl) (fun _ => rfl)
       ·exact Owes.skip [(129, (.bool false))] ⟨sA 61 (by kernel_rfl) (by kernel_rfl), trivial⟩ (some 132) (fun _ => by kernel_rfl) (by kernel_rfl) (fun _ => rfl)
       ·exact Owes.pure [(129, (.bool false)), (132, undef)] ⟨sA 61 (by kernel_rfl) (by kernel_rfl), sA 64 (by kernel_rfl) (by kernel_rfl), trivial⟩ (.bool false) (fun _ _ => by kernel_rfl) (fun _ => rfl)
       ·exact Owes.pure [(133, (.bool false))] ⟨sA 65 (by kernel_rfl) (by kernel_rfl), trivial⟩ (.bool false) (fun _ _ => by kernel_rfl) (fun _ => rfl)
       ·intro ρ' w' hk hs hf
        have hs905 := SP.below hs53 hk
        obtain ⟨w904, hww904⟩ : ∃ x, w' = x := ⟨_, rfl⟩
        subst hww904
        have e6 := hf 66 6 (by kernel_rfl)
        refine postKnown [(6, (.bool false))] ⟨e6, trivial⟩ ?_
        exact ⟨false, ⟨(by kernel_rfl), trivial⟩, SP.sel hs905 [] rfl rfl, H⟩
     ·have H := cf H hb506
      refine At.draw (by kernel_rfl) (by kernel_rfl) (by kernel_rfl) (by kernel_rfl) (by kernel_rfl) [FEq (.bool z7), FEq (.bool z7), FEq (.int .i64 p1), FRow eU8 z494, FEq (.string ⟨List.toArray z494⟩), FEq (.int .i64 p1), FRow eU8 z500, FEq (.string ⟨List.toArray z500⟩), FEq (.bool (z494 == z500)), FEq (.bool (z494 == z500)), FEq (.bool (z494 == z500)), FEq undef, FEq undef, FEq undef, FEq (.bool false), FEq (.bool false), FEq undef, FEq undef, FEq undef, FEq (.bool false), FEq (.bool false), FEq undef, FEq undef, FEq undef, FEq (.bool false), FEq (.bool false), FEq undef, FEq undef, FEq undef, FEq undef, FEq undef, FEq undef, FEq undef, FEq (.bool false), FEq (.bool false), FEq undef, FEq undef, FEq undef, FEq (.bool false), FEq (.bool false), FEq undef, FEq undef, FEq undef, FEq (.bool false), FEq (.bool false), FEq undef, FEq undef, FEq undef, FEq (.bool false), FEq (.bool false), FEq undef, FEq undef, FEq undef, FEq undef, FEq undef, FEq (.bool false), FEq (.bool false), FEq undef, FEq undef, FEq undef, FEq (.bool false), FEq (.bool false), FEq undef, FEq undef, FEq undef, FEq (.bool false), FEq (.bool false)] ⟨mono_eq _, mono_eq _, mono_eq _, mono_row _ _, mono_eq _, mono_eq _, mono_row _ _, mono_eq _, mono_eq _, mono_eq _, mono_eq _, mono_eq _, mono_eq _, mono_eq _, mono_eq _, mono_eq _, mono_eq _, mono_eq _, mono_eq _, mono_eq _, mono_eq _, mono_eq _, mono_eq _, mono_eq _, mono_eq _, mono_eq _, mono_eq _, mono_eq _, mono_eq _, mono_eq _, mono_eq _, mono_eq _, mono_eq _, mono_eq _, mono_eq _, mono_eq _, mono_eq _, mono_eq _, mono_eq _, mono_eq _, mono_eq _, mono_eq _, mono_eq _, mono_eq _, mono_eq _, mono_eq _, mono_eq _, mono_eq _, mono_eq _, mono_eq _, mono_eq _, mono_eq _, mono_eq _, mono_eq _, mono_eq _, mono_eq _, mono_eq _, mono_eq _, mono_eq _, mono_eq _, mono_eq _, mono_eq _, mono_eq _, mono_eq _, mono_eq _, mono_eq _, mono_eq _, trivial⟩ (N := 67) (by kernel_rfl) ⟨⟨⟨⟨⟨⟨⟨⟨⟨⟨⟨⟨⟨⟨⟨⟨⟨⟨⟨⟨⟨⟨⟨⟨⟨⟨⟨⟨⟨⟨⟨⟨⟨⟨⟨⟨⟨⟨⟨⟨⟨⟨⟨⟨⟨⟨⟨⟨⟨⟨⟨⟨⟨⟨⟨⟨⟨⟨⟨⟨⟨⟨⟨⟨⟨⟨⟨trivial, ?_⟩, ?_⟩, ?_⟩, ?_⟩, ?_⟩, ?_⟩, ?_⟩, ?_⟩, ?_⟩, ?_⟩, ?_⟩, ?_⟩, ?_⟩, ?_⟩, ?_⟩, ?_⟩, ?_⟩, ?_⟩, ?_⟩, ?_⟩, ?_⟩, ?_⟩, ?_⟩, ?_⟩, ?_⟩, ?_⟩, ?_⟩, ?_⟩, ?_⟩, ?_⟩, ?_⟩, ?_⟩, ?_⟩, ?_⟩, ?_⟩, ?_⟩, ?_⟩, ?_⟩, ?_⟩, ?_⟩, ?_⟩, ?_⟩, ?_⟩, ?_⟩, ?_⟩, ?_⟩, ?_⟩, ?_⟩, ?_⟩, ?_⟩, ?_⟩, ?_⟩, ?_⟩, ?_⟩, ?_⟩, ?_⟩, ?_⟩, ?_⟩, ?_⟩, ?_⟩, ?_⟩, ?_⟩, ?_⟩, ?_⟩, ?_⟩, ?_⟩, ?_⟩ ?_
      ·exact Owes.pure [(7, (.bool z7))] ⟨sS (by kernel_rfl) (by kernel_rfl), trivial⟩ (.bool z7) (fun _ _ => by kernel_rfl) (fun _ => rfl)
      ·exact Owes.pure [(68, (.bool z7))] ⟨sA 0 (by kernel_rfl) (by kernel_rfl), trivial⟩ (.bool z7) (fun _ _ => by kernel_rfl) (fun _ => rfl)
      ·exact Owes.pure [(0, (.int .i64 p1)), (69, (.bool true))] ⟨sS (by kernel_rfl) (by kernel_rfl), sB 1 (by kernel_rfl) z7 (by kernel_rfl) hb493, trivial⟩ (.int .i64 p1) (fun _ _ => by kernel_rfl) (fun _ => rfl)
      ·intro ρ' w' hk hs hah
       have e70 := hah 2 70 (by kernel_rfl)
       have e69 := hah 1 69 (by kernel_rfl)
       have hkn : Known ρ' [(70, (.int .i64 p1)), (69, (.bool true))] := ⟨e70, (Eq.trans e69 (congrArg Value.bool hb493)), trivial⟩
       refine Step.known _ hkn ?_
       have hs906 := SP.below hs53 hk
       refine Step.callF (f := 16) (fo := (.func 16)) (xs := #[(.tmp 70)]) (tys := #[2]) (first := #[]) (captured := #[]) (d := (some 71)) (k := 3) (by kernel_rfl) rfl (by kernel_rfl) (by kernel_rfl) Tryd.call16 (L_num_Put_walk  p1 w'  z494 hz495) ?_
       rintro e w907 ⟨A909, c910, rfl, hs908⟩
       exact ⟨_, rfl, SP.keeps hs908, _, updO_known hkn, ⟨_, _, rfl, SP.row_of hs908⟩⟩
      ·intro ρ' w' hk hs hah
       obtain ⟨A912, c913, e71, hr914⟩ := hah 3 71 (by kernel_rfl)
       have e69 := hah 1 69 (by kernel_rfl)
       have hkn : Known ρ' [(71, (.slice A912 (List.length z494) c913)), (69, (.bool true))] := ⟨e71, (Eq.trans e69 (congrArg Value.bool hb493)), trivial⟩
       refine Step.known _ hkn ?_
       have hs911 := SP.below hs53 hk
       refine Step.toStr (T := 22) (S' := 9) (E := 5) (x := (.tmp 71)) (A := A912) (c := c913) (l := z494) (d := (some 72)) (k := 4) (by kernel_rfl) rfl (by kernel_rfl) (by kernel_rfl) (by kernel_rfl) (by kernel_rfl) hr914 ?_
       exact ⟨Below.refl _ _, _, updO_known hkn, rfl⟩
      ·exact Owes.pure [(0, (.int .i64 p1)), (69, (.bool true))] ⟨sS (by kernel_rfl) (by kernel_rfl), sB 1 (by kernel_rfl) z7 (by kernel_rfl) hb493, trivial⟩ (.int .i64 p1) (fun _ _ => by kernel_rfl) (fun _ => rfl)
      ·intro ρ' w' hk hs hah
       have e73 := hah 5 73 (by kernel_rfl)
       have e69 := hah 1 69 (by kernel_rfl)
       have hkn : Known ρ' [(73, (.int .i64 p1)), (69, (.bool true))] := ⟨e73, (Eq.trans e69 (congrArg Value.bool hb493)), trivial⟩
       refine Step.known _ hkn ?_
       have hs915 := SP.below hs53 hk
       refine Step.callF (f := 17) (fo := (.func 17)) (xs := #[(.tmp 73)]) (tys := #[2]) (first := #[]) (captured := #[]) (d := (some 74)) (k := 6) (by kernel_rfl) rfl (by kernel_rfl) (by kernel_rfl) Tryd.call17 (L_subwayref01_Put_walk  p1 w'  z500 hz501) ?_
       rintro e w916 ⟨A918, c919, rfl, hs917⟩
       exact ⟨_, rfl, SP.keeps hs917, _, updO_known hkn, ⟨_, _, rfl, SP.row_of hs917⟩⟩
      ·intro ρ' w' hk hs hah
       obtain ⟨A921, c922, e74, hr923⟩ := hah 6 74 (by kernel_rfl)
       have e69 := hah 1 69 (by kernel_rfl)
       have hkn : Known ρ' [(74, (.slice A921 (List.length z500) c922)), (69, (.bool true))] := ⟨e74, (Eq.trans e69 (congrArg Value.bool hb493)), trivial⟩
       refine Step.known _ hkn ?_
       have hs920 := SP.below hs53 hk
       refine Step.toStr (T := 22) (S' := 9) (E := 5) (x := (.tmp 74)) (A := A921) (c := c922) (l := z500) (d := (some 75)) (k := 7) (by kernel_rfl) rfl (by kernel_rfl) (by kernel_rfl) (by kernel_rfl) (by kernel_rfl) hr923 ?_
       exact ⟨Below.refl _ _, _, updO_known hkn, rfl⟩
      ·intro ρ' w' hk hs hah
       have e72 := hah 4 72 (by kernel_rfl)
       have e75 := hah 7 75 (by kernel_rfl)
       have e69 := hah 1 69 (by kernel_rfl)
       have hkn : Known ρ' [(72, (.string ⟨List.toArray z494⟩)), (75, (.string ⟨List.toArray z500⟩)), (69, (.bool true))] := ⟨e72, e75, (Eq.trans e69 (congrArg Value.bool hb493)), trivial⟩
       refine Step.known _ hkn ?_
       have hs924 := SP.below hs53 hk
       refine Step.strOp (op := .eql) (T := 9) (T' := 9) (x := (.tmp 72)) (y := (.tmp 75)) (a := z494) (b := z500) (r := (.bool (z494 == z500))) (d := (some 76)) (k := 8) (by kernel_rfl) rfl (by kernel_rfl) (by kernel_rfl) rfl ?_
       exact ⟨Below.refl _ _, _, updO_known hkn, rfl⟩
      ·exact Owes.pure [(69, (.bool true)), (76, (.bool (z494 == z500)))] ⟨sB 1 (by kernel_rfl) z7 (by kernel_rfl) hb493, sA 8 (by kernel_rfl) (by kernel_rfl), trivial⟩ (.bool (z494 == z500)) (fun _ _ => by kernel_rfl) (fun _ => rfl)
      ·exact Owes.pure [(77, (.bool (z494 == z500)))] ⟨sA 9 (by kernel_rfl) (by kernel_rfl), trivial⟩ (.bool (z494 == z500)) (fun _ _ => by kernel_rfl) (fun _ => rfl)
      ·exact Owes.skip [(78, (.bool false))] ⟨sB 10 (by kernel_rfl) (z494 == z500) (by kernel_rfl) hb506, trivial⟩ (some 79) (fun _ => by kernel_rfl) (by kernel_rfl) (fun _ => rfl)
      ·exact Owes.skip [(78, (.bool false))] ⟨sB 10 (by kernel_rfl) (z494 == z500) (by kernel_rfl) hb506, trivial⟩ (some 80) (fun _ => by kernel_rfl) (by kernel_rfl) (fun _ => rfl)
      ·exact Owes.skip [(78, (.bool false))] ⟨sB 10 (by kernel_rfl) (z494 == z500) (by kernel_rfl) hb506, trivial⟩ (some 81) (fun _ => by kernel_rfl) (by kernel_rfl) (fun _ => rfl)
      ·exact Owes.pure [(78, (.bool false)), (81, undef)] ⟨sB 10 (by kernel_rfl) (z494 == z500) (by kernel_rfl) hb506, sA 13 (by kernel_rfl) (by kernel_rfl), trivial⟩ (.bool false) (fun _ _ => by kernel_rfl) (fun _ => rfl)
      ·exact Owes.pure [(82, (.bool false))] ⟨sA 14 (by kernel_rfl) (by kernel_rfl), trivial⟩ (.bool false) (fun _ _ => by kernel_rfl) (fun _ => rfl)
      ·exact Owes.skip [(83, (.bool false))] ⟨sA 15 (by kernel_rfl) (by kernel_rfl), trivial⟩ (some 84) (fun _ => by kernel_rfl) (by kernel_rfl) (fun _ => rfl)
      ·exact Owes.skip [(83, (.bool false))] ⟨sA 15 (by kernel_rfl) (by kernel_rfl), trivial⟩ (some 85) (fun _ => by kernel_rfl) (by kernel_rfl) (fun _ => rfl)
      ·exact Owes.skip [(83, (.bool false))] ⟨sA 15 (by kernel_rfl) (by kernel_rfl), trivial⟩ (some 86) (fun _ => by kernel_rfl) (by kernel_rfl) (fun _ => rfl)
      ·exact Owes.pure [(83, (.bool false)), (86, undef)] ⟨sA 15 (by kernel_rfl) (by kernel_rfl), sA 18 (by kernel_rfl) (by kernel_rfl), trivial⟩ (.bool false) (fun _ _ => by kernel_rfl) (fun _ => rfl)
      ·exact Owes.pure [(87, (.bool false))] ⟨sA 19 (by kernel_rfl) (by kernel_rfl), trivial⟩ (.bool false) (fun _ _ => by kernel_rfl) (fun _ => rfl)
      ·exact Owes.skip [(88, (.bool false))] ⟨sA 20 (by kernel_rfl) (by kernel_rfl), trivial⟩ (some 89) (fun _ => by kernel_rfl) (by kernel_rfl) (fun _ => rfl)
      ·exact Owes.skip [(88, (.bool false))] ⟨sA 20 (by kernel_rfl) (by kernel_rfl), trivial⟩ (some 90) (fun _ => by kernel_rfl) (by kernel_rfl) (fun _ => rfl)
      ·exact Owes.skip [(88, (.bool false))] ⟨sA 20 (by kernel_rfl) (by kernel_rfl), trivial⟩ (some 91) (fun _ => by kernel_rfl) (by kernel_rfl) (fun _ => rfl)
      ·exact Owes.pure [(88, (.bool false)), (91, undef)] ⟨sA 20 (by kernel_rfl) (by kernel_rfl), sA 23 (by kernel_rfl) (by kernel_rfl), trivial⟩ (.bool false) (fun _ _ => by kernel_rfl) (fun _ => rfl)
      ·exact Owes.pure [(92, (.bool false))] ⟨sA 24 (by kernel_rfl) (by kernel_rfl), trivial⟩ (.bool false) (fun _ _ => by kernel_rfl) (fun _ => rfl)
      ·exact Owes.skip [(93, (.bool false))] ⟨sA 25 (by kernel_rfl) (by kernel_rfl), trivial⟩ (some 94) (fun _ => by kernel_rfl) (by kernel_rfl) (fun _ => rfl)
      ·exact Owes.skip [(93, (.bool false))] ⟨sA 25 (by kernel_rfl) (by kernel_rfl), trivial⟩ (some 95) (fun _ => by kernel_rfl) (by kernel_rfl) (fun _ => rfl)
      ·exact Owes.skip [(93, (.bool false))] ⟨sA 25 (by kernel_rfl) (by kernel_rfl), trivial⟩ (some 96) (fun _ => by kernel_rfl) (by kernel_rfl) (fun _ => rfl)
      ·exact Owes.skip [(93, (.bool false))] ⟨sA 25 (by kernel_rfl) (by kernel_rfl), trivial⟩ (some 97) (fun _ => by kernel_rfl) (by kernel_rfl) (fun _ => rfl)
      ·exact Owes.skip [(93, (.bool false))] ⟨sA 25 (by kernel_rfl) (by kernel_rfl), trivial⟩ (some 98) (fun _ => by kernel_rfl) (by kernel_rfl) (fun _ => rfl)
      ·exact Owes.skip [(93, (.bool false))] ⟨sA 25 (by kernel_rfl) (by kernel_rfl), trivial⟩ (some 99) (fun _ => by kernel_rfl) (by kernel_rfl) (fun _ => rfl)
      ·exact Owes.skip [(93, (.bool false))] ⟨sA 25 (by kernel_rfl) (by kernel_rfl), trivial⟩ (some 100) (fun _ => by kernel_rfl) (by kernel_rfl) (fun _ => rfl)
      ·exact Owes.pure [(93, (.bool false)), (100, undef)] ⟨sA 25 (by kernel_rfl) (by kernel_rfl), sA 32 (by kernel_rfl) (by kernel_rfl), trivial⟩ (.bool false) (fun _ _ => by kernel_rfl) (fun _ => rfl)
      ·exact Owes.pure [(101, (.bool false))] ⟨sA 33 (by kernel_rfl) (by kernel_rfl), trivial⟩ (.bool false) (fun _ _ => by kernel_rfl) (fun _ => rfl)
      ·exact Owes.skip [(102, (.bool false))] ⟨sA 34 (by kernel_rfl) (by kernel_rfl), trivial⟩ (some 103) (fun _ => by kernel_rfl) (by kernel_rfl) (fun _ => rfl)
      ·exact Owes.skip [(102, (.bool false))] ⟨sA 34 (by kernel_rfl) (by kernel_rfl), trivial⟩ (some 104) (fun _ => by kernel_rfl) (by kernel_rfl) (fun _ => rfl)
      ·exact Owes.skip [(102, (.bool false))] ⟨sA 34 (by kernel_rfl) (by kernel_rfl), trivial⟩ (some 105) (fun _ => by kernel_rfl) (by kernel_rfl) (fun _ => rfl)
      ·exact Owes.pure [(102, (.bool false)), (105, undef)] ⟨sA 34 (by kernel_rfl) (by kernel_rfl), sA 37 (by kernel_rfl) (by kernel_rfl), trivial⟩ (.bool false) (fun _ _ => by kernel_rfl) (fun _ => rfl)
      ·exact Owes.pure [(106, (.bool false))] ⟨sA 38 (by kernel_rfl) (by kernel_rfl), trivial⟩ (.bool false) (fun _ _ => by kernel_rfl) (fun _ => rfl)
      ·exact Owes.skip [(107, (.bool false))] ⟨sA 39 (by kernel_rfl) (by kernel_rfl), trivial⟩ (some 108) (fun _ => by kernel_rfl) (by kernel_rfl) (fun _ => rfl)
      ·exact Owes.skip [(107, (.bool false))] ⟨sA 39 (by kernel_rfl) (by kernel_rfl), trivial⟩ (some 109) (fun _ => by kernel_rfl) (by kernel_rfl) (fun _ => rfl)
      ·exact Owes.skip [(107, (.bool false))] ⟨sA 39 (by kernel_rfl) (by kernel_rfl), trivial⟩ (some 110) (fun _ => by kernel_rfl) (by kernel_rfl) (fun _ => rfl)
      ·exact Owes.pure [(107, (.bool false)), (110, undef)] ⟨sA 39 (by kernel_rfl) (by kernel_rfl), sA 42 (by kernel_rfl) (by kernel_rfl), trivial⟩ (.bool false) (fun _ _ => by kernel_rfl) (fun _ => rfl)
      ·exact Owes.pure [(111, (.bool false))] ⟨sA 43 (by kernel_rfl) (by kernel_rfl), trivial⟩ (.bool false) (fun _ _ => by kernel_rfl) (fun _ => rfl)
      ·exact Owes.skip [(112, (.bool false))] ⟨sA 44 (by kernel_rfl) (by kernel_rfl), trivial⟩ (some 113) (fun _ => by kernel_rfl) (by kernel_rfl) (fun _ => rfl)
      ·exact Owes.skip [(112, (.bool false))] ⟨sA 44 (by kernel_rfl) (by kernel_rfl), trivial⟩ (some 114) (fun _ => by kernel_rfl) (by kernel_rfl) (fun _ => rfl)
      ·exact Owes.skip [(112, (.bool false))] ⟨sA 44 (by kernel_rfl) (by kernel_rfl), trivial⟩ (some 115) (fun _ => by kernel_rfl) (by kernel_rfl) (fun _ => rfl)
      ·exact Owes.pure [(112, (.bool false)), (115, undef)] ⟨sA 44 (by kernel_rfl) (by kernel_rfl), sA 47 (by kernel_rfl) (by kernel_rfl), trivial⟩ (.bool false) (fun _ _ => by kernel_rfl) (fun _ => rfl)
      ·exact Owes.pure [(116, (.bool false))] ⟨sA 48 (by kernel_rfl) (by kernel_rfl), trivial⟩ (.bool false) (fun _ _ => by kernel_rfl) (fun _ => rfl)
      ·exact Owes.skip [(117, (.bool false))] ⟨sA 49 (by kernel_rfl) (by kernel_rfl), trivial⟩ (some 118) (fun _ => by kernel_rfl) (by kernel_rfl) (fun _ => rfl)
      ·exact Owes.skip [(117, (.bool false))] ⟨sA 49 (by kernel_rfl) (by kernel_rfl), trivial⟩ (some 119) (fun _ => by kernel_rfl) (by kernel_rfl) (fun _ => rfl)
      ·exact Owes.skip [(117, (.bool false))] ⟨sA 49 (by kernel_rfl) (by kernel_rfl), trivial⟩ (some 120) (fun _ => by kernel_rfl) (by kernel_rfl) (fun _ => rfl)
      ·exact Owes.skip [(117, (.bool false))] ⟨sA 49 (by kernel_rfl) (by kernel_rfl), trivial⟩ (some 121) (fun _ => by kernel_rfl) (by kernel_rfl) (fun _ => rfl)
      ·exact Owes.skip [(117, (.bool false))] ⟨sA 49 (by kernel_rfl) (by kernel_rfl), trivial⟩ (some 122) (fun _ => by kernel_rfl) (by kernel_rfl) (fun _ => rfl)
      ·exact Owes.pure [(117, (.bool false)), (122, undef)] ⟨sA 49 (by kernel_rfl) (by kernel_rfl), sA 54 (by kernel_rfl) (by kernel_rfl), trivial⟩ (.bool false) (fun _ _ => by kernel_rfl) (fun _ => rfl)
      ·exact Owes.pure [(123, (.bool false))] ⟨sA 55 (by kernel_rfl) (by kernel_rfl), trivial⟩ (.bool false) (fun _ _ => by kernel_rfl) (fun _ => rfl)
      ·exact Owes.skip [(124, (.bool false))] ⟨sA 56 (by kernel_rfl) (by kernel_rfl), trivial⟩ (some 125) (fun _ => by kernel_rfl) (by kernel_rfl) (fun _ => rfl)
      ·exact Owes.skip [(124, (.bool false))] ⟨sA 56 (by kernel_rfl) (by kernel_rfl), trivial⟩ (some 126) (fun _ => by kernel_rfl) (by kernel_rfl) (fun _ => rfl)
      ·exact Owes.skip [(124, (.bool false))] ⟨sA 56 (by kernel_rfl) (by kernel_rfl), trivial⟩ (some 127) (fun _ => by kernel_rfl) (by kernel_rfl) (fun _ => rfl)
      ·exact Owes.pure [(124, (.bool false)), (127, undef)] ⟨sA 56 (by kernel_rfl) (by kernel_rfl), sA 59 (by kernel_rfl) (by kernel_rfl), trivial⟩ (.bool false) (fun _ _ => by kernel_rfl) (fun _ => rfl)
      ·exact Owes.pure [(128, (.bool false))] ⟨sA 60 (by kernel_rfl) (by kernel_rfl), trivial⟩ (.bool false) (fun _ _ => by kernel_rfl) (fun _ => rfl)
      ·exact Owes.skip [(129, (.bool false))] ⟨sA 61 (by kernel_rfl) (by kernel_rfl), trivial⟩ (some 130) (fun _ => by kernel_rfl) (by kernel_rfl) (fun _ => rfl)
      ·exact Owes.skip [(129, (.bool false))] ⟨sA 61 (by kernel_rfl) (by kernel_rfl), trivial⟩ (some 131) (fun _ => by kernel_rfl) (by kernel_rfl) (fun _ => rfl)
      ·exact Owes.skip [(129, (.bool false))] ⟨sA 61 (by kernel_rfl) (by kernel_rfl), trivial⟩ (some 132) (fun _ => by kernel_rfl) (by kernel_rfl) (fun _ => rfl)
      ·exact Owes.pure [(129, (.bool false)), (132, undef)] ⟨sA 61 (by kernel_rfl) (by kernel_rfl), sA 64 (by kernel_rfl) (by kernel_rfl), trivial⟩ (.bool false) (fun _ _ => by kernel_rfl) (fun _ => rfl)
      ·exact Owes.pure [(133, (.bool false))] ⟨sA 65 (by kernel_rfl) (by kernel_rfl), trivial⟩ (.bool false) (fun _ _ => by kernel_rfl) (fun _ => rfl)
      ·intro ρ' w' hk hs hf
       have hs926 := SP.below hs53 hk
       obtain ⟨w925, hww925⟩ : ∃ x, w' = x := ⟨_, rfl⟩
       subst hww925
       have e6 := hf 66 6 (by kernel_rfl)
       refine postKnown [(6, (.bool false))] ⟨e6, trivial⟩ ?_
       exact ⟨false, ⟨(by kernel_rfl), trivial⟩, SP.sel hs926 [] rfl rfl, H⟩
    ·have H := cf H hb493
     refine At.draw (by kernel_rfl) (by kernel_rfl) (by kernel_rfl) (by kernel_rfl) (by kernel_rfl) [FEq (.bool z7), FEq (.bool z7), FEq undef, FEq undef, FEq undef, FEq undef, FEq undef, FEq undef, FEq undef, FEq (.bool false), FEq (.bool false), FEq undef, FEq undef, FEq undef, FEq (.bool false), FEq (.bool false), FEq undef, FEq undef, FEq undef, FEq (.bool false), FEq (.bool false), FEq undef, FEq undef, FEq undef, FEq (.bool false), FEq (.bool false), FEq undef, FEq undef, FEq undef, FEq undef, FEq undef, FEq undef, FEq undef, FEq (.bool false), FEq (.bool false), FEq undef, FEq undef, FEq undef, FEq (.bool false), FEq (.bool false), FEq undef, FEq undef, FEq undef, FEq (.bool false), FEq (.bool false), FEq undef, FEq undef, FEq undef, FEq (.bool false), FEq (.bool false), FEq undef, FEq undef, FEq undef, FEq undef, FEq undef, FEq (.bool false), FEq (.bool false), FEq undef, FEq undef, FEq undef, FEq (.bool false), FEq (.bool false), FEq undef, FEq undef, FEq undef, FEq (.bool false), FEq (.bool false)] ⟨mono_eq _, mono_eq _, mono_eq _, mono_eq _, mono_eq _, mono_eq _, mono_eq _, mono_eq _, mono_eq _, mono_eq _, mono_eq _, mono_eq _, mono_eq _, mono_eq _, mono_eq _, mono_eq _, mono_eq _, mono_eq _, mono_eq _, mono_eq _, mono_eq _, mono_eq _, mono_eq _, mono_eq _, mono_eq _, mono_eq _, mono_eq _, mono_eq _, mono_eq _, mono_eq _, mono_eq _, mono_eq _, mono_eq _, mono_eq _, mono_eq _, mono_eq _, mono_eq _, mono_eq _, mono_eq _, mono_eq _, mono_eq _, mono_eq _, mono_eq _, mono_eq _, mono_eq _, mono_eq _, mono_eq _, mono_eq _, mono_eq _, mono_eq _, mono_eq _, mono_eq _, mono_eq _, mono_eq _, mono_eq _, mono_eq _, mono_eq _, mono_eq _, mono_eq _, mono_eq _, mono_eq _, mono_eq _, mono_eq _, mono_eq _, mono_eq _, mono_eq _, mono_eq _, trivial⟩ (N := 67) (by kernel_rfl) ⟨⟨⟨⟨⟨⟨⟨⟨⟨⟨⟨⟨⟨⟨⟨⟨⟨⟨⟨⟨⟨⟨⟨⟨⟨⟨⟨⟨⟨⟨⟨⟨⟨⟨⟨⟨⟨⟨⟨⟨⟨⟨⟨⟨⟨⟨⟨⟨⟨⟨⟨⟨⟨⟨⟨⟨⟨⟨⟨⟨⟨⟨⟨⟨⟨⟨⟨trivial, ?_⟩, ?_⟩, ?_⟩, ?_⟩, ?_⟩, ?_⟩, ?_⟩, ?_⟩, ?_⟩, ?_⟩, ?_⟩, ?_⟩, ?_⟩, ?_⟩, ?_⟩, ?_⟩, ?_⟩, ?_⟩, ?_⟩, ?_⟩, ?_⟩, ?_⟩, ?_⟩, ?_⟩, ?_⟩, ?_⟩, ?_⟩, ?_⟩, ?_⟩, ?_⟩, ?_⟩, ?_⟩, ?_⟩, ?_⟩, ?_⟩, ?_⟩, ?_⟩, ?_⟩, ?_⟩, ?_⟩, ?_⟩, ?_⟩, ?_⟩, ?_⟩, ?_⟩, ?_⟩, ?_⟩, ?_⟩, ?_⟩, ?_⟩, ?_⟩, ?_⟩, ?_⟩, ?_⟩, ?_⟩, ?_⟩, ?_⟩, ?_⟩, ?_⟩, ?_⟩, ?_⟩, ?_⟩, ?_⟩, ?_⟩, ?_⟩, ?_⟩, ?_⟩ ?_
     ·exact Owes.pure [(7, (.bool z7))] ⟨sS (by kernel_rfl) (by kernel_rfl), trivial⟩ (.bool z7) (fun _ _ => by kernel_rfl) (fun _ => rfl)
     ·exact Owes.pure [(68, (.bool z7))] ⟨sA 0 (by kernel_rfl) (by kernel_rfl), trivial⟩ (.bool z7) (fun _ _ => by kernel_rfl) (fun _ => rfl)
     ·exact Owes.skip [(69, (.bool false))] ⟨sB 1 (by kernel_rfl) z7 (by kernel_rfl) hb493, trivial⟩ (some 70) (fun _ => by kernel_rfl) (by kernel_rfl) (fun _ => rfl)
     ·exact Owes.skip [(69, (.bool false))] ⟨sB 1 (by kernel_rfl) z7 (by kernel_rfl) hb493, trivial⟩ (some 71) (fun _ => by kernel_rfl) (by kernel_rfl) (fun _ => rfl)
     ·exact Owes.skip [(69, (.bool false))] ⟨sB 1 (by kernel_rfl) z7 (by kernel_rfl) hb493, trivial⟩ (some 72) (fun _ => by kernel_rfl) (by kernel_rfl) (fun _ => rfl)
     ·exact Owes.skip [(69, (.bool false))] ⟨sB 1 (by kernel_rfl) z7 (by kernel_rfl) hb493, trivial⟩ (some 73) (fun _ => by kernel_rfl) (by kernel_rfl) (fun _ => rfl)
     ·exact Owes.skip [(69, (.bool false))] ⟨sB 1 (by kernel_rfl) z7 (by kernel_rfl) hb493, trivial⟩ (some 74) (fun _ => by kernel_rfl) (by kernel_rfl) (fun _ => rfl)
     ·exact Owes.skip [(69, (.bool false))] ⟨sB 1 (by kernel_rfl) z7 (by kernel_rfl) hb493, trivial⟩ (some 75) (fun _ => by kernel_rfl) (by kernel_rfl) (fun _ => rfl)
     ·exact Owes.skip [(69, (.bool false))] ⟨sB 1 (by kernel_rfl) z7 (by kernel_rfl) hb493, trivial⟩ (some 76) (fun _ => by kernel_rfl) (by kernel_rfl) (fun _ => rfl)
     ·exact Owes.pure [(69, (.bool false)), (76, undef)] ⟨sB 1 (by kernel_rfl) z7 (by kernel_rfl) hb493, sA 8 (by kernel_rfl) (by kernel_rfl), trivial⟩ (.bool false) (fun _ _ => by kernel_rfl) (fun _ => rfl)
     ·exact Owes.pure [(77, (.bool false))] ⟨sA 9 (by kernel_rfl) (by kernel_rfl), trivial⟩ (.bool false) (fun _ _ => by kernel_rfl) (fun _ => rfl)
     ·exact Owes.skip [(78, (.bool false))] ⟨sA 10 (by kernel_rfl) (by kernel_rfl), trivial⟩ (some 79) (fun _ => by kernel_rfl) (by kernel_rfl) (fun _ => rfl)
     ·exact Owes.skip [(78, (.bool false))] ⟨sA 10 (by kernel_rfl) (by kernel_rfl), trivial⟩ (some 80) (fun _ => by kernel_rfl) (by kernel_rfl) (fun _ => rfl)
     ·exact Owes.skip [(78, (.bool false))] ⟨sA 10 (by kernel_rfl) (by kernel_rfl), trivial⟩ (some 81) (fun _ => by kernel_rfl) (by kernel_rfl) (fun _ => rfl)
     ·exact Owes.pure [(78, (.bool false)), (81, undef)] ⟨sA 10 (by kernel_rfl) (by kernel_rfl), sA 13 (by kernel_rfl) (by kernel_rfl), trivial⟩ (.bool false) (fun _ _ => by kernel_rfl) (fun _ => rfl)
     ·exact Owes.pure [(82, (.bool false))] ⟨sA 14 (by kernel_rfl) (by kernel_rfl), trivial⟩ (.bool false) (fun _ _ => by kernel_rfl) (fun _ => rfl)
     ·exact Owes.skip [(83, (.bool false))] ⟨sA 15 (by kernel_rfl) (by kernel_rfl), trivial⟩ (some 84) (fun _ => by kernel_rfl) (by kernel_rfl) (fun _ => rfl)
     ·exact Owes.skip [(83, (.bool false))] ⟨sA 15 (by kernel_rfl) (by kernel_rfl), trivial⟩ (some 85) (fun _ => by kernel_rfl) (by kernel_rfl) (fun _ => rfl)
     ·exact Owes.skip [(83, (.bool false))] ⟨sA 15 (by kernel_rfl) (by kernel_rfl), trivial⟩ (some 86) (fun _ => by kernel_rfl) (by kernel_rfl) (fun _ => rfl)
     ·exact Owes.pure [(83, (.bool false)), (86, undef)] ⟨sA 15 (by kernel_rfl) (by kernel_rfl), sA 18 (by kernel_rfl) (by kernel_rfl), trivial⟩ (.bool false) (fun _ _ => by kernel_rfl) (fun _ => rfl)
     ·exact Owes.pure [(87, (.bool false))] ⟨sA 19 (by kernel_rfl) (by kernel_rfl), trivial⟩ (.bool false) (fun _ _ => by kernel_rfl) (fun _ => rfl)
     ·exact Owes.skip [(88, (.bool false))] ⟨sA 20 (by kernel_rfl) (by kernel_rfl), trivial⟩ (some 89) (fun _ => by kernel_rfl) (by kernel_rfl) (fun _ => rfl)
     ·exact Owes.skip [(88, (.bool false))] ⟨sA 20 (by kernel_rfl) (by kernel_rfl), trivial⟩ (some 90) (fun _ => by kernel_rfl) (by kernel_rfl) (fun _ => rfl)
     ·exact Owes.skip [(88, (.bool false))] ⟨sA 20 (by kernel_rfl) (by kernel_rfl), trivial⟩ (some 91) (fun _ => by kernel_rfl) (by kernel_rfl) (fun _ => rfl)
     ·exact Owes.pure [(88, (.bool false)), (91, undef)] ⟨sA 20 (by kernel_rfl) (by kernel_rfl), sA 23 (by kernel_rfl) (by kernel_rfl), trivial⟩ (.bool false) (fun _ _ => by kernel_rfl) (fun _ => rfl)
     ·exact Owes.pure [(92, (.bool false))] ⟨sA 24 (by kernel_rfl) (by kernel_rfl), trivial⟩ (.bool false) (fun _ _ => by kernel_rfl) (fun _ => rfl)
     ·exact Owes.skip [(93, (.bool false))] ⟨sA 25 (by kernel_rfl) (by kernel_rfl), trivial⟩ (some 94) (fun _ => by kernel_rfl) (by kernel_rfl) (fun _ => rfl)
     ·exact Owes.skip [(93, (.bool false))] ⟨sA 25 (by kernel_rfl) (by kernel_rfl), trivial⟩ (some 95) (fun _ => by kernel_rfl) (by kernel_rfl) (fun _ => rfl)
     ·exact Owes.skip [(93, (.bool false))] ⟨sA 25 (by kernel_rfl) (by kernel_rfl), trivial⟩ (some 96) (fun _ => by kernel_rfl) (by kernel_rfl) (fun _ => rfl)
     ·exact Owes.skip [(93, (.bool false))] ⟨sA 25 (by kernel_rfl) (by kernel_rfl), trivial⟩ (some 97) (fun _ => by kernel_rfl) (by kernel_rfl) (fun _ => rfl)
     ·exact Owes.skip [(93, (.bool false))] ⟨sA 25 (by kernel_rfl) (by kernel_rfl), trivial⟩ (some 98) (fun _ => by kernel_rfl) (by kernel_rfl) (fun _ => rfl)
     ·exact Owes.skip [(93, (.bool false))] ⟨sA 25 (by kernel_rfl) (by kernel_rfl), trivial⟩ (some 99) (fun _ => by kernel_rfl) (by kernel_rfl) (fun _ => rfl)
     ·exact Owes.skip [(93, (.bool false))] ⟨sA 25 (by kernel_rfl) (by kernel_rfl), trivial⟩ (some 100) (fun _ => by kernel_rfl) (by kernel_rfl) (fun _ => rfl)
     ·exact Owes.pure [(93, (.bool false)), (100, undef)] ⟨sA 25 (by kernel_rfl) (by kernel_rfl), sA 32 (by kernel_rfl) (by kernel_rfl), trivial⟩ (.bool false) (fun _ _ => by kernel_rfl) (fun _ => rfl)
     ·exact Owes.pure [(101, (.bool false))] ⟨sA 33 (by kernel_rfl) (by kernel_rfl), trivial⟩ (.bool false) (fun _ _ => by kernel_rfl) (fun _ => rfl)
     ·exact Owes.skip [(102, (.bool false))] ⟨sA 34 (by kernel_rfl) (by kernel_rfl), trivial⟩ (some 103) (fun _ => by kernel_rfl) (by kernel_rfl) (fun _ => rfl)
     ·exact Owes.skip [(102, (.bool false))] ⟨sA 34 (by kernel_rfl) (by kernel_rfl), trivial⟩ (some 104) (fun _ => by kernel_rfl) (by kernel_rfl) (fun _ => rfl)
     ·exact Owes.skip [(102, (.bool false))] ⟨sA 34 (by kernel_rfl) (by kernel_rfl), trivial⟩ (some 105) (fun _ => by kernel_rfl) (by kernel_rfl) (fun _ => rfl)
     ·exact Owes.pure [(102, (.bool false)), (105, undef)] ⟨sA 34 (by kernel_rfl) (by kernel_rfl), sA 37 (by kernel_rfl) (by kernel_rfl), trivial⟩ (.bool false) (fun _ _ => by kernel_rfl) (fun _ => rfl)
     ·exact Owes.pure [(106, (.bool false))] ⟨sA 38 (by kernel_rfl) (by kernel_rfl), trivial⟩ (.bool false) (fun _ _ => by kernel_rfl) (fun _ => rfl)
     ·exact Owes.skip [(107, (.bool false))] ⟨sA 39 (by kernel_rfl) (by kernel_rfl), trivial⟩ (some 108) (fun _ => by kernel_rfl) (by kernel_rfl) (fun _ => rfl)
     ·exact Owes.skip [(107, (.bool false))] ⟨sA 39 (by kernel_rfl) (by kernel_rfl), trivial⟩ (some 109) (fun _ => by kernel_rfl) (by kernel_rfl) (fun _ => rfl)
     ·exact Owes.skip [(107, (.bool false))] ⟨sA 39 (by kernel_rfl) (by kernel_rfl), trivial⟩ (some 110) (fun _ => by kernel_rfl) (by kernel_rfl) (fun _ => rfl)
     ·exact Owes.pure [(107, (.bool false)), (110, undef)] ⟨sA 39 (by kernel_rfl) (by kernel_rfl), sA 42 (by kernel_rfl) (by kernel_rfl), trivial⟩ (.bool false) (fun _ _ => by kernel_rfl) (fun _ => rfl)
     ·exact Owes.pure [(111, (.bool false))] ⟨sA 43 (by kernel_rfl) (by kernel_rfl), trivial⟩ (.bool false) (fun _ _ => by kernel_rfl) (fun _ => rfl)
     ·exact Owes.skip [(112, (.bool false))] ⟨sA 44 (by kernel_rfl) (by kernel_rfl), trivial⟩ (some 113) (fun _ => by kernel_rfl) (by kernel_rfl) (fun _ => rfl)
     ·exact Owes.skip [(112, (.bool false))] ⟨sA 44 (by kernel_rfl) (by kernel_rfl), trivial⟩ (some 114) (fun _ => by kernel_rfl) (by kernel_rfl) (fun _ => rfl)
     ·exact Owes.skip [(112, (.bool false))] ⟨sA 44 (by kernel_rfl) (by kernel_rfl), trivial⟩ (some 115) (fun _ => by kernel_rfl) (by kernel_rfl) (fun _ => rfl)
     ·exact Owes.pure [(112, (.bool false)), (115, undef)] ⟨sA 44 (by kernel_rfl) (by kernel_rfl), sA 47 (by kernel_rfl) (by kernel_rfl), trivial⟩ (.bool false) (fun _ _ => by kernel_rfl) (fun _ => rfl)
     ·exact Owes.pure [(116, (.bool false))] ⟨sA 48 (by kernel_rfl) (by kernel_rfl), trivial⟩ (.bool false) (fun _ _ => by kernel_rfl) (fun _ => rfl)
     ·exact Owes.skip [(117, (.bool false))] ⟨sA 49 (by kernel_rfl) (by kernel_rfl), trivial⟩ (some 118) (fun _ => by kernel_rfl) (by kernel_rfl) (fun _ => rfl)
     ·exact Owes.skip [(117, (.bool false))] ⟨sA 49 (by kernel_rfl) (by kernel_rfl), trivial⟩ (some 119) (fun _ => by kernel_rfl) (by kernel_rfl) (fun _ => rfl)
     ·exact Owes.skip [(117, (.bool false))] ⟨sA 49 (by kernel_rfl) (by kernel_rfl), trivial⟩ (some 120) (fun _ => by kernel_rfl) (by kernel_rfl) (fun _ => rfl)
     ·exact Owes.skip [(117, (.bool false))] ⟨sA 49 (by kernel_rfl) (by kernel_rfl), trivial⟩ (some 121) (fun _ => by kernel_rfl) (by kernel_rfl) (fun _ => rfl)
     ·exact Owes.skip [(117, (.bool false))] ⟨sA 49 (by kernel_rfl) (by kernel_rfl), trivial⟩ (some 122) (fun _ => by kernel_rfl) (by kernel_rfl) (fun _ => rfl)
     ·exact Owes.pure [(117, (.bool false)), (122, undef)] ⟨sA 49 (by kernel_rfl) (by kernel_rfl), sA 54 (by kernel_rfl) (by kernel_rfl), trivial⟩ (.bool false) (fun _ _ => by kernel_rfl) (fun _ => rfl)
     ·exact Owes.pure [(123, (.bool false))] ⟨sA 55 (by kernel_rfl) (by kernel_rfl), trivial⟩ (.bool false) (fun _ _ => by kernel_rfl) (fun _ => rfl)
     ·exact Owes.skip [(124, (.bool false))] ⟨sA 56 (by kernel_rfl) (by kernel_rfl), trivial⟩ (some 125) (fun _ => by kernel_rfl) (by kernel_rfl) (fun _ => rfl)
     ·exact Owes.skip [(124, (.bool false))] ⟨sA 56 (by kernel_rfl) (by kernel_rfl), trivial⟩ (some 126) (fun _ => by kernel_rfl) (by kernel_rfl) (fun _ => rfl)
     ·exact Owes.skip [(124, (.bool false))] ⟨sA 56 (by kernel_rfl) (by kernel_rfl), trivial⟩ (some 127) (fun _ => by kernel_rfl) (by kernel_rfl) (fun _ => rfl)
     ·exact Owes.pure [(124, (.bool false)), (127, undef)] ⟨sA 56 (by kernel_rfl) (by kernel_rfl), sA 59 (by kernel_rfl) (by kernel_rfl), trivial⟩ (.bool false) (fun _ _ => by kernel_rfl) (fun _ => rfl)
     ·exact Owes.pure [(128, (.bool false))] ⟨sA 60 (by kernel_rfl) (by kernel_rfl), trivial⟩ (.bool false) (fun _ _ => by kernel_rfl) (fun _ => rfl)
     ·exact Owes.skip [(129, (.bool false))] ⟨sA 61 (by kernel_rfl) (by kernel_rfl), trivial⟩ (some 130) (fun _ => by kernel_rfl) (by kernel_rfl) (fun _ => rfl)
     ·exact Owes.skip [(129, (.bool false))] ⟨sA 61 (by kernel_rfl) (by kernel_rfl), trivial⟩ (some 131) (fun _ => by kernel_rfl) (by kernel_rfl) (fun _ => rfl)
     ·exact Owes.skip [(129, (.bool false))] ⟨sA 61 (by kernel_rfl) (by kernel_rfl), trivial⟩ (some 132) (fun _ => by kernel_rfl) (by kernel_rfl) (fun _ => rfl)
     ·exact Owes.pure [(129, (.bool false)), (132, undef)] ⟨sA 61 (by kernel_rfl) (by kernel_rfl), sA 64 (by kernel_rfl) (by kernel_rfl), trivial⟩ (.bool false) (fun _ _ => by kernel_rfl) (fun _ => rfl)
     ·exact Owes.pure [(133, (.bool false))] ⟨sA 65 (by kernel_rfl) (by kernel_rfl), trivial⟩ (.bool false) (fun _ _ => by kernel_rfl) (fun _ => rfl)
     ·intro ρ' w' hk hs hf
      have hs928 := SP.below hs53 hk
      obtain ⟨w927, hww927⟩ : ∃ x, w' = x := ⟨_, rfl⟩
      subst hww927
      have e6 := hf 66 6 (by kernel_rfl)
      refine postKnown [(6, (.bool false))] ⟨e6, trivial⟩ ?_
      exact ⟨false, ⟨(by kernel_rfl), trivial⟩, SP.sel hs928 [] rfl rfl, H⟩
   ·rintro ρ w491 ⟨v490, hk, hs492, H⟩
    unfold L_subwaylaw01_NumTells_k2 at H
    refine At.known [(6, (.bool v490))] hk ?_
    refine At.ret (by kernel_rfl) ?_
    refine ⟨(.bool v490), by kernel_rfl, ?_⟩
    obtain rfl := some_elim H
    exact ⟨rfl, SP.sel hs492 [] rfl rfl⟩
end Go.Proofs.YtjpchjbbfbmjgaaDoor
