/- LIFTED BY PROGRAM (tools/lift.py): what functions compute, and that they do. -/
import Derived.Test.YthnakiihenbcjaaDoorLSH
namespace Go.Proofs.YthnakiihenbcjaaDoor
set_option linter.unusedSimpArgs false
set_option linter.unusedVariables false
open Go.RowKit

/-! L_subwaylaw04_SyntaxIn -/
def L_subwaylaw04_SyntaxIn_k2 (v198 : Bool) : Option (Bool) :=
  (some (v198))
def L_subwaylaw04_SyntaxIn_k1 (p1 : Int) (p2 : UInt8) (p3 : UInt8) (z4 : (Bool)) (v35 : Bool) : Option (Bool) :=
  (cond v35 (some (false)) (cond ((IntKind.wrap .i64 (Int.tmod ((p2).toNat : Int) 33)) == 0) (some (z4)) ((chk (!((IntKind.wrap .i64 (Int.tmod ((p2).toNat : Int) 33)) == 0))).bind fun _ => (cond z4 ((L_subwaylaw04_net p1 (IntKind.wrap .i64 (Int.tmod ((p2).toNat : Int) 33))).bind fun z202 => ((chk (decide (0 ≤ (IntKind.wrap .i64 (31 - (Int.tmod (IntKind.wrap .i64 ((p3).toNat : Int)) (IntKind.wrap .i64 (Int.tmod ((p2).toNat : Int) 33)))))))).bind fun _ => ((L_syntax_In z202.1 z202.2 (bXor .u32 p1 (bShl .u32 1 (IntKind.wrap .i64 (31 - (Int.tmod (IntKind.wrap .i64 ((p3).toNat : Int)) (IntKind.wrap .i64 (Int.tmod ((p2).toNat : Int) 33)))))))).bind fun z209 => (cond (!z209) ((L_subwaylaw04_net p1 (Int.tmod (IntKind.wrap .i64 ((p3).toNat : Int)) (IntKind.wrap .i64 (Int.tmod ((p2).toNat : Int) 33)))).bind fun z216 => ((chk (decide (0 ≤ (IntKind.wrap .i64 (31 - (Int.tmod (IntKind.wrap .i64 ((p3).toNat : Int)) (IntKind.wrap .i64 (Int.tmod ((p2).toNat : Int) 33)))))))).bind fun _ => ((L_syntax_In z216.1 z216.2 (bXor .u32 p1 (bShl .u32 1 (IntKind.wrap .i64 (31 - (Int.tmod (IntKind.wrap .i64 ((p3).toNat : Int)) (IntKind.wrap .i64 (Int.tmod ((p2).toNat : Int) 33)))))))).bind fun z223 => (L_subwaylaw04_SyntaxIn_k2 z223)))) (L_subwaylaw04_SyntaxIn_k2 false))))) (L_subwaylaw04_SyntaxIn_k2 false)))))
def L_subwaylaw04_SyntaxIn (p1 : Int) (p2 : UInt8) (p3 : UInt8) : Option (Bool) :=
  ((L_subwaylaw04_head ).bind fun z4 => ((L_subwaylaw04_net p1 (IntKind.wrap .i64 (Int.tmod ((p2).toNat : Int) 33))).bind fun z358 => ((L_syntax_In z358.1 z358.2 p1).bind fun z364 => (cond (!z364) (L_subwaylaw04_SyntaxIn_k1 p1 p2 p3 z4 true) ((L_subwaylaw04_net 0 0).bind fun z371 => ((L_syntax_In z371.1 z371.2 p1).bind fun z377 => (L_subwaylaw04_SyntaxIn_k1 p1 p2 p3 z4 (!z377))))))))
set_option maxRecDepth 100000 in
set_option maxHeartbeats 4000000 in
theorem L_subwaylaw04_SyntaxIn_walk  (p1 : Int) (p2 : UInt8) (p3 : UInt8) (w0 : World) (hL : LaidW w0)  (r : (Bool)) (H : L_subwaylaw04_SyntaxIn p1 p2 p3 = some r) :
  Calls Tryd.prog 6 #[(.int .u32 p1), (.int .u8 ((p2).toNat : Int)), (.int .u8 ((p3).toNat : Int))] w0 (fun e w' => e = .returned (.bool r) ∧ SP [] w0 w' []) := by
 unfold L_subwaylaw04_SyntaxIn at H
 refine calls_start (n := 57) Tryd.func6 (by kernel_rfl) (by kernel_rfl) (by kernel_rfl) ?_
 have hs0 := SP.start [] w0
 refine At.seq (by kernel_rfl) (p0 := [false]) (p1 := [true]) rfl rfl ?_
 refine At.region (by kernel_rfl) (by kernel_rfl) ?_
 refine In.run' 1 (k' := 1) rfl [(6, (.bool false))] (by kernel_rfl) ?_
 refine In.fin (by kernel_rfl) ?_
 refine At.seq (by kernel_rfl) (p0 := [true, false]) (p1 := [true, true]) rfl rfl ?_
 refine At.region (by kernel_rfl) (by kernel_rfl) ?_
 obtain ⟨z4, hz5, H⟩ := bind_elim H
 refine In.step (k' := 1) rfl (by kernel_rfl) ?_
 refine Step.callF (f := 10) (fo := (.func 10)) (xs := #[]) (tys := #[]) (first := #[]) (captured := #[]) (d := (some 10)) (k := 0) (by kernel_rfl) rfl (by kernel_rfl) (by kernel_rfl) Tryd.call10 (L_subwaylaw04_head_walk   w0 (laid_below hL (SP.keeps hs0)) z4 hz5) ?_
 rintro e w6 ⟨rfl, hs7⟩
 refine ⟨_, rfl, ?_⟩
 have hs8 := SP.call hs0 hs7
 clear hs7
 have hs9 : SP [] w0 w6 [] := hs8
 clear hs8
 refine In.run' 1 (k' := 2) rfl [(7, (.bool z4))] (by kernel_rfl) ?_
 refine In.fin (by kernel_rfl) ?_
 refine At.seq (by kernel_rfl) (p0 := [true, true, false]) (p1 := [true, true, true]) rfl rfl ?_
 refine At.region (by kernel_rfl) (by kernel_rfl) ?_
 refine In.run' 4 (k' := 4) rfl [(11, (.int .u8 ((p2).toNat : Int))), (12, (.int .u8 (Int.tmod ((p2).toNat : Int) 33))), (13, (.int .i64 (IntKind.wrap .i64 (Int.tmod ((p2).toNat : Int) 33)))), (8, (.int .i64 (IntKind.wrap .i64 (Int.tmod ((p2).toNat : Int) 33))))] (by kernel_rfl) ?_
 refine In.fin (by kernel_rfl) ?_
 refine At.seq (by kernel_rfl) (p0 := [true, true, true, false]) (p1 := [true, true, true, true]) rfl rfl ?_
 refine At.seq (by kernel_rfl) (p0 := [true, true, true, false, false]) (p1 := [true, true, true, false, true]) rfl rfl ?_
 refine At.join (fun ρ w => ∃ (v35 : Bool), Known ρ [(0, (.int .u32 p1)), (2, (.int .u8 ((p3).toNat : Int))), (7, (.bool z4)), (8, (.int .i64 (IntKind.wrap .i64 (Int.tmod ((p2).toNat : Int) 33)))), (25, (.bool v35))] ∧ SP [] w0 w [] ∧ L_subwaylaw04_SyntaxIn_k1 p1 p2 p3 z4 v35 = some r) ?_ ?_
 ·refine At.region (by kernel_rfl) (by kernel_rfl) ?_
  refine In.run' 2 (k' := 2) rfl [(14, (.int .u32 p1)), (15, (.int .i64 (IntKind.wrap .i64 (Int.tmod ((p2).toNat : Int) 33))))] (by kernel_rfl) ?_
  obtain ⟨z358, hz359, H⟩ := bind_elim H
  refine In.step (k' := 3) rfl (by kernel_rfl) ?_
  refine Step.callF (f := 23) (fo := (.func 23)) (xs := #[(.tmp 14), (.tmp 15)]) (tys := #[22, 3]) (first := #[]) (captured := #[]) (d := (some 16)) (k := 2) (by kernel_rfl) rfl (by kernel_rfl) (by kernel_rfl) Tryd.call23 (L_subwaylaw04_net_walk  p1 (IntKind.wrap .i64 (Int.tmod ((p2).toNat : Int) 33)) w6  z358 hz359) ?_
  rintro e w360 ⟨rfl, hs361⟩
  refine ⟨_, rfl, ?_⟩
  have hs362 := SP.call hs9 hs361
  clear hs361
  have hs363 : SP [] w0 w360 [] := hs362
  clear hs362
  refine In.run' 1 (k' := 4) rfl [(17, (.int .u32 p1))] (by kernel_rfl) ?_
  obtain ⟨z364, hz365, H⟩ := bind_elim H
  refine In.step (k' := 5) rfl (by kernel_rfl) ?_
  refine Step.callF (f := 21) (fo := (.func 21)) (xs := #[(.tmp 16), (.tmp 17)]) (tys := #[24, 22]) (first := #[]) (captured := #[]) (d := (some 18)) (k := 4) (by kernel_rfl) rfl (by kernel_rfl) (by kernel_rfl) Tryd.call21 (L_syntax_In_walk  z358.1 z358.2 p1 w360  z364 hz365) ?_
  rintro e w366 ⟨rfl, hs367⟩
  refine ⟨_, rfl, ?_⟩
  have hs368 := SP.call hs363 hs367
  clear hs367
  have hs369 : SP [] w0 w366 [] := hs368
  clear hs368
  refine In.run' 2 (k' := 7) rfl [(19, (.bool (!z364))), (20, (.bool (!z364)))] (by kernel_rfl) ?_
  refine In.guard (t := 20) (b := (!z364)) (by kernel_rfl) (fun hb370 => ?_) (fun hb370 => ?_)
  ·have H := ct H hb370
   refine In.run' 5 (k' := 12) rfl [(21, undef), (22, undef), (23, undef), (24, undef), (25, (.bool true))] (by kernel_rfl) ?_
   refine In.fin (by kernel_rfl) ?_
   exact ⟨true, ⟨(by kernel_rfl), (by kernel_rfl), (by kernel_rfl), (by kernel_rfl), (by kernel_rfl), trivial⟩, SP.sel hs369 [] rfl rfl, H⟩
  ·have H := cf H hb370
   obtain ⟨z371, hz372, H⟩ := bind_elim H
   refine In.step (k' := 8) rfl (by kernel_rfl) ?_
   refine Step.callF (f := 23) (fo := (.func 23)) (xs := #[(.const (.int .u32 (0))), (.const (.int .i64 (0)))]) (tys := #[22, 3]) (first := #[]) (captured := #[]) (d := (some 21)) (k := 7) (by kernel_rfl) rfl (by kernel_rfl) (by kernel_rfl) Tryd.call23 (L_subwaylaw04_net_walk  0 0 w366  z371 hz372) ?_
   rintro e w373 ⟨rfl, hs374⟩
   refine ⟨_, rfl, ?_⟩
   have hs375 := SP.call hs369 hs374
   clear hs374
   have hs376 : SP [] w0 w373 [] := hs375
   clear hs375
   refine In.run' 1 (k' := 9) rfl [(22, (.int .u32 p1))] (by kernel_rfl) ?_
   obtain ⟨z377, hz378, H⟩ := bind_elim H
   refine In.step (k' := 10) rfl (by kernel_rfl) ?_
   refine Step.callF (f := 21) (fo := (.func 21)) (xs := #[(.tmp 21), (.tmp 22)]) (tys := #[24, 22]) (first := #[]) (captured := #[]) (d := (some 23)) (k := 9) (by kernel_rfl) rfl (by kernel_rfl) (by kernel_rfl) Tryd.call21 (L_syntax_In_walk  z371.1 z371.2 p1 w373  z377 hz378) ?_
   rintro e w379 ⟨rfl, hs380⟩
   refine ⟨_, rfl, ?_⟩
   have hs381 := SP.call hs376 hs380
   clear hs380
   have hs382 : SP [] w0 w379 [] := hs381
   clear hs381
   refine In.run' 2 (k' := 12) rfl [(24, (.bool (!z377))), (25, (.bool (!z377)))] (by kernel_rfl) ?_
   refine In.fin (by kernel_rfl) ?_
   exact ⟨(!z377), ⟨(by kernel_rfl), (by kernel_rfl), (by kernel_rfl), (by kernel_rfl), (by kernel_rfl), trivial⟩, SP.sel hs382 [] rfl rfl, H⟩
 ·rintro ρ w36 ⟨v35, hk, hs37, H⟩
  unfold L_subwaylaw04_SyntaxIn_k1 at H
  refine At.known [(0, (.int .u32 p1)), (2, (.int .u8 ((p3).toNat : Int))), (7, (.bool z4)), (8, (.int .i64 (IntKind.wrap .i64 (Int.tmod ((p2).toNat : Int) 33)))), (25, (.bool v35))] hk ?_
  refine At.cond (by kernel_rfl) (o := (.tmp 25)) (by kernel_rfl) (b := v35) (by kernel_rfl) (p0 := [true, true, true, false, true, false]) (p1 := [true, true, true, false, true, true]) rfl rfl (fun hb38 => ?_) (fun hb38 => ?_)
  ·have H := ct H hb38
   refine At.seq (by kernel_rfl) (p0 := [true, true, true, false, true, false, false]) (p1 := [true, true, true, false, true, false, true]) rfl rfl ?_
   refine At.region (by kernel_rfl) (by kernel_rfl) ?_
   refine In.run' 1 (k' := 1) rfl [(6, (.bool false))] (by kernel_rfl) ?_
   refine In.fin (by kernel_rfl) ?_
   refine At.ret (by kernel_rfl) ?_
   refine ⟨(.bool false), by kernel_rfl, ?_⟩
   obtain rfl := some_elim H
   exact ⟨rfl, SP.sel hs37 [] rfl rfl⟩
  ·have H := cf H hb38
   refine At.skip (by kernel_rfl) ?_
   refine At.seq (by kernel_rfl) (p0 := [true, true, true, true, false]) (p1 := [true, true, true, true, true]) rfl rfl ?_
   refine At.seq (by kernel_rfl) (p0 := [true, true, true, true, false, false]) (p1 := [true, true, true, true, false, true]) rfl rfl ?_
   refine At.region (by kernel_rfl) (by kernel_rfl) ?_
   refine In.run' 2 (k' := 2) rfl [(26, (.int .i64 (IntKind.wrap .i64 (Int.tmod ((p2).toNat : Int) 33)))), (27, (.bool ((IntKind.wrap .i64 (Int.tmod ((p2).toNat : Int) 33)) == 0)))] (by kernel_rfl) ?_
   refine In.fin (by kernel_rfl) ?_
   refine At.cond (by kernel_rfl) (o := (.tmp 27)) (by kernel_rfl) (b := ((IntKind.wrap .i64 (Int.tmod ((p2).toNat : Int) 33)) == 0)) (by kernel_rfl) (p0 := [true, true, true, true, false, true, false]) (p1 := [true, true, true, true, false, true, true]) rfl rfl (fun hb39 => ?_) (fun hb39 => ?_)
   ·have H := ct H hb39
    refine At.seq (by kernel_rfl) (p0 := [true, true, true, true, false, true, false, false]) (p1 := [true, true, true, true, false, true, false, true]) rfl rfl ?_
    refine At.region (by kernel_rfl) (by kernel_rfl) ?_
    refine In.run' 2 (k' := 2) rfl [(28, (.bool z4)), (6, (.bool z4))] (by kernel_rfl) ?_
    refine In.fin (by kernel_rfl) ?_
    refine At.ret (by kernel_rfl) ?_
    refine ⟨(.bool z4), by kernel_rfl, ?_⟩
    obtain rfl := some_elim H
    exact ⟨rfl, SP.sel hs37 [] rfl rfl⟩
   ·have H := cf H hb39
    refine At.skip (by kernel_rfl) ?_
    refine At.seq (by kernel_rfl) (p0 := [true, true, true, true, true, false]) (p1 := [true, true, true, true, true, true]) rfl rfl ?_
    refine At.region (by kernel_rfl) (by kernel_rfl) ?_
    refine In.run' 3 (k' := 3) rfl [(29, (.int .u8 ((p3).toNat : Int))), (30, (.int .i64 (IntKind.wrap .i64 ((p3).toNat : Int)))), (31, (.int .i64 (IntKind.wrap .i64 (Int.tmod ((p2).toNat : Int) 33))))] (by kernel_rfl) ?_
    obtain ⟨hl40, H⟩ := chk_elim H
    refine In.step (k' := 4) rfl (by kernel_rfl) ?_
    refine Step.div (op := .rem) (T := 3) (T' := 3) (x := (.tmp 30)) (y := (.tmp 31)) (kx := .i64) (a := (IntKind.wrap .i64 ((p3).toNat : Int))) (b := (IntKind.wrap .i64 (Int.tmod ((p2).toNat : Int) 33))) (v := (.int .i64 (Int.tmod (IntKind.wrap .i64 ((p3).toNat : Int)) (IntKind.wrap .i64 (Int.tmod ((p2).toNat : Int) 33))))) (d := (some 32)) (k := 3) (by kernel_rfl) rfl (by kernel_rfl) (by kernel_rfl) hl40 rfl ?_
    refine In.run' 1 (k' := 5) rfl [(9, (.int .i64 (Int.tmod (IntKind.wrap .i64 ((p3).toNat : Int)) (IntKind.wrap .i64 (Int.tmod ((p2).toNat : Int) 33)))))] (by kernel_rfl) ?_
    refine In.fin (by kernel_rfl) ?_
    refine At.seq (by kernel_rfl) (p0 := [true, true, true, true, true, true, false]) (p1 := [true, true, true, true, true, true, true]) rfl rfl ?_
    refine At.join (fun ρ w => ∃ (v198 : Bool), Known ρ [(6, (.bool v198))] ∧ SP [] w0 w [] ∧ L_subwaylaw04_SyntaxIn_k2 v198 = some r) ?_ ?_
    ·rcases Bool.eq_false_or_eq_true z4 with hb201 | hb201
     ·have H := ct H hb201
      obtain ⟨z202, hz203, H⟩ := bind_elim H
      obtain ⟨hl208, H⟩ := chk_elim H
      obtain ⟨z209, hz210, H⟩ := bind_elim H
      rcases Bool.eq_false_or_eq_true (!z209) with hb215 | hb215
      ·have H := ct H hb215
       obtain ⟨z216, hz217, H⟩ := bind_elim H
       obtain ⟨hl222, H⟩ := chk_elim H
       obtain ⟨z223, hz224, H⟩ := bind_elim H
       refine At.stages (by kernel_rfl) (by kernel_rfl) (by kernel_rfl) (by kernel_rfl) (by kernel_rfl) [GEq (.bool z4), GEq (.bool z4), GEq (.int .u32 p1), GEq (.int .i64 (IntKind.wrap .i64 (Int.tmod ((p2).toNat : Int) 33))), GEq (.agg #[(.int .u32 z202.1), (.int .i64 z202.2)]), GEq (.int .u32 p1), GEq (.int .i64 (Int.tmod (IntKind.wrap .i64 ((p3).toNat : Int)) (IntKind.wrap .i64 (Int.tmod ((p2).toNat : Int) 33)))), GEq (.int .i64 (IntKind.wrap .i64 (31 - (Int.tmod (IntKind.wrap .i64 ((p3).toNat : Int)) (IntKind.wrap .i64 (Int.tmod ((p2).toNat : Int) 33)))))), GEq (.int .u32 (bShl .u32 1 (IntKind.wrap .i64 (31 - (Int.tmod (IntKind.wrap .i64 ((p3).toNat : Int)) (IntKind.wrap .i64 (Int.tmod ((p2).toNat : Int) 33))))))), GEq (.int .u32 (bXor .u32 p1 (bShl .u32 1 (IntKind.wrap .i64 (31 - (Int.tmod (IntKind.wrap .i64 ((p3).toNat : Int)) (IntKind.wrap .i64 (Int.tmod ((p2).toNat : Int) 33)))))))), GEq (.bool z209), GEq (.bool (!z209)), GEq (.bool (!z209)), GEq (.bool (!z209)), GEq (.int .u32 p1), GEq (.int .i64 (Int.tmod (IntKind.wrap .i64 ((p3).toNat : Int)) (IntKind.wrap .i64 (Int.tmod ((p2).toNat : Int) 33)))), GEq (.agg #[(.int .u32 z216.1), (.int .i64 z216.2)]), GEq (.int .u32 p1), GEq (.int .i64 (Int.tmod (IntKind.wrap .i64 ((p3).toNat : Int)) (IntKind.wrap .i64 (Int.tmod ((p2).toNat : Int) 33)))), GEq (.int .i64 (IntKind.wrap .i64 (31 - (Int.tmod (IntKind.wrap .i64 ((p3).toNat : Int)) (IntKind.wrap .i64 (Int.tmod ((p2).toNat : Int) 33)))))), GEq (.int .u32 (bShl .u32 1 (IntKind.wrap .i64 (31 - (Int.tmod (IntKind.wrap .i64 ((p3).toNat : Int)) (IntKind.wrap .i64 (Int.tmod ((p2).toNat : Int) 33))))))), GEq (.int .u32 (bXor .u32 p1 (bShl .u32 1 (IntKind.wrap .i64 (31 - (Int.tmod (IntKind.wrap .i64 ((p3).toNat : Int)) (IntKind.wrap .i64 (Int.tmod ((p2).toNat : Int) 33)))))))), GEq (.bool z223), GEq (.bool z223), GEq (.bool z223)] [4, 10, 16, 22] [([], fun vs w => VL vs [] ∧ SP [] w0 w []), ([4], fun vs w => VL vs [(.agg #[(.int .u32 z202.1), (.int .i64 z202.2)])] ∧ SP [] w0 w []), ([4, 10], fun vs w => VL vs [(.agg #[(.int .u32 z202.1), (.int .i64 z202.2)]), (.bool z209)] ∧ SP [] w0 w []), ([4, 10, 16], fun vs w => VL vs [(.agg #[(.int .u32 z202.1), (.int .i64 z202.2)]), (.bool z209), (.agg #[(.int .u32 z216.1), (.int .i64 z216.2)])] ∧ SP [] w0 w []), ([4, 10, 16, 22], fun vs w => VL vs [(.agg #[(.int .u32 z202.1), (.int .i64 z202.2)]), (.bool z209), (.agg #[(.int .u32 z216.1), (.int .i64 z216.2)]), (.bool z223)] ∧ SP [] w0 w [])] (N := 25) (by kernel_rfl) ⟨by kernel_rfl, Nat.zero_lt_succ _⟩ (show VL [] [] ∧ SP [] w0 w36.drew [] from ⟨trivial, SP.drew hs37⟩) ⟨⟨⟨⟨⟨⟨⟨⟨⟨⟨⟨⟨⟨⟨⟨⟨⟨⟨⟨⟨⟨⟨⟨⟨⟨trivial, ?_⟩, ?_⟩, ?_⟩, ?_⟩, ?_⟩, ?_⟩, ?_⟩, ?_⟩, ?_⟩, ?_⟩, ?_⟩, ?_⟩, ?_⟩, ?_⟩, ?_⟩, ?_⟩, ?_⟩, ?_⟩, ?_⟩, ?_⟩, ?_⟩, ?_⟩, ?_⟩, ?_⟩, ?_⟩ (last := 4) (by kernel_rfl) ?_
       ·exact Owe.run (by kernel_rfl) [(7, (.bool z4))] ⟨gS (by kernel_rfl) (by kernel_rfl), trivial⟩ (.bool z4) (fun _ _ => by kernel_rfl) rfl
       ·exact Owe.run (by kernel_rfl) [(33, (.bool z4))] ⟨gA 0 (by kernel_rfl) (by kernel_rfl), trivial⟩ (.bool z4) (fun _ _ => by kernel_rfl) rfl
       ·exact Owe.run (by kernel_rfl) [(0, (.int .u32 p1)), (34, (.bool true))] ⟨gS (by kernel_rfl) (by kernel_rfl), gB 1 (by kernel_rfl) z4 (by kernel_rfl) hb201, trivial⟩ (.int .u32 p1) (fun _ _ => by kernel_rfl) rfl
       ·exact Owe.run (by kernel_rfl) [(8, (.int .i64 (IntKind.wrap .i64 (Int.tmod ((p2).toNat : Int) 33)))), (34, (.bool true))] ⟨gS (by kernel_rfl) (by kernel_rfl), gB 1 (by kernel_rfl) z4 (by kernel_rfl) hb201, trivial⟩ (.int .i64 (IntKind.wrap .i64 (Int.tmod ((p2).toNat : Int) 33))) (fun _ _ => by kernel_rfl) rfl
       ·refine Owe.heavy (by kernel_rfl) [(0, 1)] (by kernel_rfl) (all_cons ⟨by kernel_rfl, by kernel_rfl, ?_⟩ all_nil)
        ·intro ρ' w' hs hah hP
         obtain ⟨hvl270, hs269⟩ := hP
         have e35 := hah 2 35 (by kernel_rfl)
         have e36 := hah 3 36 (by kernel_rfl)
         have e34 := hah 1 34 (by kernel_rfl)
         have hkn : Known ρ' [(35, (.int .u32 p1)), (36, (.int .i64 (IntKind.wrap .i64 (Int.tmod ((p2).toNat : Int) 33)))), (34, (.bool true))] := ⟨e35, e36, (Eq.trans e34 (congrArg Value.bool hb201)), trivial⟩
         refine Step.known _ hkn ?_
         refine Step.callF (f := 23) (fo := (.func 23)) (xs := #[(.tmp 35), (.tmp 36)]) (tys := #[22, 3]) (first := #[]) (captured := #[]) (d := (some 37)) (k := 4) (by kernel_rfl) rfl (by kernel_rfl) (by kernel_rfl) Tryd.call23 (L_subwaylaw04_net_walk  p1 (IntKind.wrap .i64 (Int.tmod ((p2).toNat : Int) 33)) w'  z202 hz203) ?_
         rintro e w271 ⟨rfl, hs272⟩
         refine ⟨_, rfl, ?_⟩
         have hs273 := SP.call hs269 hs272
         clear hs272
         have hs274 : SP [] w0 w271 [] := hs273
         clear hs273
         refine ⟨_, updO_known hkn, rfl, ?_⟩
         exact (And.intro (And.intro rfl (trivial)) (hs274))
       ·exact Owe.run (by kernel_rfl) [(0, (.int .u32 p1)), (34, (.bool true))] ⟨gS (by kernel_rfl) (by kernel_rfl), gB 1 (by kernel_rfl) z4 (by kernel_rfl) hb201, trivial⟩ (.int .u32 p1) (fun _ _ => by kernel_rfl) rfl
       ·exact Owe.run (by kernel_rfl) [(9, (.int .i64 (Int.tmod (IntKind.wrap .i64 ((p3).toNat : Int)) (IntKind.wrap .i64 (Int.tmod ((p2).toNat : Int) 33))))), (34, (.bool true))] ⟨gS (by kernel_rfl) (by kernel_rfl), gB 1 (by kernel_rfl) z4 (by kernel_rfl) hb201, trivial⟩ (.int .i64 (Int.tmod (IntKind.wrap .i64 ((p3).toNat : Int)) (IntKind.wrap .i64 (Int.tmod ((p2).toNat : Int) 33)))) (fun _ _ => by kernel_rfl) rfl
       ·exact Owe.run (by kernel_rfl) [(39, (.int .i64 (Int.tmod (IntKind.wrap .i64 ((p3).toNat : Int)) (IntKind.wrap .i64 (Int.tmod ((p2).toNat : Int) 33))))), (34, (.bool true))] ⟨gA 6 (by kernel_rfl) (by kernel_rfl), gB 1 (by kernel_rfl) z4 (by kernel_rfl) hb201, trivial⟩ (.int .i64 (IntKind.wrap .i64 (31 - (Int.tmod (IntKind.wrap .i64 ((p3).toNat : Int)) (IntKind.wrap .i64 (Int.tmod ((p2).toNat : Int) 33)))))) (fun _ _ => by kernel_rfl) rfl
       ·refine Owe.light (by kernel_rfl) [0, 1] (by kernel_rfl) (all_cons ?_ (all_cons ?_ all_nil))
        ·intro ρ' w' hs hah hP
         obtain ⟨hvl276, hs275⟩ := hP
         have e40 := hah 7 40 (by kernel_rfl)
         have e34 := hah 1 34 (by kernel_rfl)
         have hkn : Known ρ' [(40, (.int .i64 (IntKind.wrap .i64 (31 - (Int.tmod (IntKind.wrap .i64 ((p3).toNat : Int)) (IntKind.wrap .i64 (Int.tmod ((p2).toNat : Int) 33))))))), (34, (.bool true))] := ⟨e40, (Eq.trans e34 (congrArg Value.bool hb201)), trivial⟩
         refine Step.known _ hkn ?_
         refine Step.shift (op := .shl) (T := 22) (T' := 3) (x := (.const (.int .u32 (1)))) (y := (.tmp 40)) (kx := .u32) (ky := .i64) (a := 1) (b := (IntKind.wrap .i64 (31 - (Int.tmod (IntKind.wrap .i64 ((p3).toNat : Int)) (IntKind.wrap .i64 (Int.tmod ((p2).toNat : Int) 33)))))) (v := (.int .u32 (bShl .u32 1 (IntKind.wrap .i64 (31 - (Int.tmod (IntKind.wrap .i64 ((p3).toNat : Int)) (IntKind.wrap .i64 (Int.tmod ((p2).toNat : Int) 33)))))))) (d := (some 41)) (k := 8) (by kernel_rfl) rfl (by kernel_rfl) (by kernel_rfl) (of_decide_eq_true hl208) rfl ?_
         exact ⟨rfl, _, updO_known hkn, rfl⟩
        ·intro ρ' w' hs hah hP
         obtain ⟨hvl279, hs277⟩ := hP
         obtain ⟨q278, -⟩ := hvl279
         have e40 := hah 7 40 (by kernel_rfl)
         have e34 := hah 1 34 (by kernel_rfl)
         have hkn : Known ρ' [(40, (.int .i64 (IntKind.wrap .i64 (31 - (Int.tmod (IntKind.wrap .i64 ((p3).toNat : Int)) (IntKind.wrap .i64 (Int.tmod ((p2).toNat : Int) 33))))))), (34, (.bool true))] := ⟨e40, (Eq.trans e34 (congrArg Value.bool hb201)), trivial⟩
         refine Step.known _ hkn ?_
         refine Step.shift (op := .shl) (T := 22) (T' := 3) (x := (.const (.int .u32 (1)))) (y := (.tmp 40)) (kx := .u32) (ky := .i64) (a := 1) (b := (IntKind.wrap .i64 (31 - (Int.tmod (IntKind.wrap .i64 ((p3).toNat : Int)) (IntKind.wrap .i64 (Int.tmod ((p2).toNat : Int) 33)))))) (v := (.int .u32 (bShl .u32 1 (IntKind.wrap .i64 (31 - (Int.tmod (IntKind.wrap .i64 ((p3).toNat : Int)) (IntKind.wrap .i64 (Int.tmod ((p2).toNat : Int) 33)))))))) (d := (some 41)) (k := 8) (by kernel_rfl) rfl (by kernel_rfl) (by kernel_rfl) (of_decide_eq_true hl208) rfl ?_
         exact ⟨rfl, _, updO_known hkn, rfl⟩
       ·exact Owe.run (by kernel_rfl) [(38, (.int .u32 p1)), (41, (.int .u32 (bShl .u32 1 (IntKind.wrap .i64 (31 - (Int.tmod (IntKind.wrap .i64 ((p3).toNat : Int)) (IntKind.wrap .i64 (Int.tmod ((p2).toNat : Int) 33)))))))), (34, (.bool true))] ⟨gA 5 (by kernel_rfl) (by kernel_rfl), gA 8 (by kernel_rfl) (by kernel_rfl), gB 1 (by kernel_rfl) z4 (by kernel_rfl) hb201, trivial⟩ (.int .u32 (bXor .u32 p1 (bShl .u32 1 (IntKind.wrap .i64 (31 - (Int.tmod (IntKind.wrap .i64 ((p3).toNat : Int)) (IntKind.wrap .i64 (Int.tmod ((p2).toNat : Int) 33)))))))) (fun _ _ => by kernel_rfl) rfl
       ·refine Owe.heavy (by kernel_rfl) [(1, 2)] (by kernel_rfl) (all_cons ⟨by kernel_rfl, by kernel_rfl, ?_⟩ all_nil)
        ·intro ρ' w' hs hah hP
         obtain ⟨hvl282, hs280⟩ := hP
         obtain ⟨q281, -⟩ := hvl282
         have e37 : ρ' 37 = (.agg #[(.int .u32 z202.1), (.int .i64 z202.2)]) := (valF_eq (h := 4) (by kernel_rfl)).symm.trans q281
         have e42 := hah 9 42 (by kernel_rfl)
         have e34 := hah 1 34 (by kernel_rfl)
         have hkn : Known ρ' [(37, (.agg #[(.int .u32 z202.1), (.int .i64 z202.2)])), (42, (.int .u32 (bXor .u32 p1 (bShl .u32 1 (IntKind.wrap .i64 (31 - (Int.tmod (IntKind.wrap .i64 ((p3).toNat : Int)) (IntKind.wrap .i64 (Int.tmod ((p2).toNat : Int) 33))))))))), (34, (.bool true))] := ⟨e37, e42, (Eq.trans e34 (congrArg Value.bool hb201)), trivial⟩
         refine Step.known _ hkn ?_
         refine Step.callF (f := 21) (fo := (.func 21)) (xs := #[(.tmp 37), (.tmp 42)]) (tys := #[24, 22]) (first := #[]) (captured := #[]) (d := (some 43)) (k := 10) (by kernel_rfl) rfl (by kernel_rfl) (by kernel_rfl) Tryd.call21 (L_syntax_In_walk  z202.1 z202.2 (bXor .u32 p1 (bShl .u32 1 (IntKind.wrap .i64 (31 - (Int.tmod (IntKind.wrap .i64 ((p3).toNat : Int)) (IntKind.wrap .i64 (Int.tmod ((p2).toNat : Int) 33))))))) w'  z209 hz210) ?_
         rintro e w283 ⟨rfl, hs284⟩
         refine ⟨_, rfl, ?_⟩
         have hs285 := SP.call hs280 hs284
         clear hs284
         have hs286 : SP [] w0 w283 [] := hs285
         clear hs285
         refine ⟨_, updO_known hkn, rfl, ?_⟩
         exact (And.intro (And.intro q281 (And.intro rfl (trivial))) (hs286))
       ·exact Owe.run (by kernel_rfl) [(43, (.bool z209)), (34, (.bool true))] ⟨gA 10 (by kernel_rfl) (by kernel_rfl), gB 1 (by kernel_rfl) z4 (by kernel_rfl) hb201, trivial⟩ (.bool (!z209)) (fun _ _ => by kernel_rfl) rfl
       ·exact Owe.run (by kernel_rfl) [(34, (.bool true)), (44, (.bool (!z209)))] ⟨gB 1 (by kernel_rfl) z4 (by kernel_rfl) hb201, gA 11 (by kernel_rfl) (by kernel_rfl), trivial⟩ (.bool (!z209)) (fun _ _ => by kernel_rfl) rfl
       ·exact Owe.run (by kernel_rfl) [(45, (.bool (!z209)))] ⟨gA 12 (by kernel_rfl) (by kernel_rfl), trivial⟩ (.bool (!z209)) (fun _ _ => by kernel_rfl) rfl
       ·exact Owe.run (by kernel_rfl) [(0, (.int .u32 p1)), (46, (.bool true))] ⟨gS (by kernel_rfl) (by kernel_rfl), gB 13 (by kernel_rfl) (!z209) (by kernel_rfl) hb215, trivial⟩ (.int .u32 p1) (fun _ _ => by kernel_rfl) rfl
       ·exact Owe.run (by kernel_rfl) [(9, (.int .i64 (Int.tmod (IntKind.wrap .i64 ((p3).toNat : Int)) (IntKind.wrap .i64 (Int.tmod ((p2).toNat : Int) 33))))), (46, (.bool true))] ⟨gS (by kernel_rfl) (by kernel_rfl), gB 13 (by kernel_rfl) (!z209) (by kernel_rfl) hb215, trivial⟩ (.int .i64 (Int.tmod (IntKind.wrap .i64 ((p3).toNat : Int)) (IntKind.wrap .i64 (Int.tmod ((p2).toNat : Int) 33)))) (fun _ _ => by kernel_rfl) rfl
       ·refine Owe.heavy (by kernel_rfl) [(2, 3)] (by kernel_rfl) (all_cons ⟨by kernel_rfl, by kernel_rfl, ?_⟩ all_nil)
        ·intro ρ' w' hs hah hP
         obtain ⟨hvl290, hs287⟩ := hP
         obtain ⟨q288, q289, -⟩ := hvl290
         have e47 := hah 14 47 (by kernel_rfl)
         have e48 := hah 15 48 (by kernel_rfl)
         have e46 := hah 13 46 (by kernel_rfl)
         have hkn : Known ρ' [(47, (.int .u32 p1)), (48, (.int .i64 (Int.tmod (IntKind.wrap .i64 ((p3).toNat : Int)) (IntKind.wrap .i64 (Int.tmod ((p2).toNat : Int) 33))))), (46, (.bool true))] := ⟨e47, e48, (Eq.trans e46 (congrArg Value.bool hb215)), trivial⟩
         refine Step.known _ hkn ?_
         refine Step.callF (f := 23) (fo := (.func 23)) (xs := #[(.tmp 47), (.tmp 48)]) (tys := #[22, 3]) (first := #[]) (captured := #[]) (d := (some 49)) (k := 16) (by kernel_rfl) rfl (by kernel_rfl) (by kernel_rfl) Tryd.call23 (L_subwaylaw04_net_walk  p1 (Int.tmod (IntKind.wrap .i64 ((p3).toNat : Int)) (IntKind.wrap .i64 (Int.tmod ((p2).toNat : Int) 33))) w'  z216 hz217) ?_
         rintro e w291 ⟨rfl, hs292⟩
         refine ⟨_, rfl, ?_⟩
         have hs293 := SP.call hs287 hs292
         clear hs292
         have hs294 : SP [] w0 w291 [] := hs293
         clear hs293
         refine ⟨_, updO_known hkn, rfl, ?_⟩
         exact (And.intro (And.intro q288 (And.intro q289 (And.intro rfl (trivial)))) (hs294))
       ·exact Owe.run (by kernel_rfl) [(0, (.int .u32 p1)), (46, (.bool true))] ⟨gS (by kernel_rfl) (by kernel_rfl), gB 13 (by kernel_rfl) (!z209) (by kernel_rfl) hb215, trivial⟩ (.int .u32 p1) (fun _ _ => by kernel_rfl) rfl
       ·exact Owe.run (by kernel_rfl) [(9, (.int .i64 (Int.tmod (IntKind.wrap .i64 ((p3).toNat : Int)) (IntKind.wrap .i64 (Int.tmod ((p2).toNat : Int) 33))))), (46, (.bool true))] ⟨gS (by kernel_rfl) (by kernel_rfl), gB 13 (by kernel_rfl) (!z209) (by kernel_rfl) hb215, trivial⟩ (.int .i64 (Int.tmod (IntKind.wrap .i64 ((p3).toNat : Int)) (IntKind.wrap .i64 (Int.tmod ((p2).toNat : Int) 33)))) (fun _ _ => by kernel_rfl) rfl
       ·exact Owe.run (by kernel_rfl) [(51, (.int .i64 (Int.tmod (IntKind.wrap .i64 ((p3).toNat : Int)) (IntKind.wrap .i64 (Int.tmod ((p2).toNat : Int) 33))))), (46, (.bool true))] ⟨gA 18 (by kernel_rfl) (by kernel_rfl), gB 13 (by kernel_rfl) (!z209) (by kernel_rfl) hb215, trivial⟩ (.int .i64 (IntKind.wrap .i64 (31 - (Int.tmod (IntKind.wrap .i64 ((p3).toNat : Int)) (IntKind.wrap .i64 (Int.tmod ((p2).toNat : Int) 33)))))) (fun _ _ => by kernel_rfl) rfl
       ·refine Owe.light (by kernel_rfl) [2, 3] (by kernel_rfl) (all_cons ?_ (all_cons ?_ all_nil))
        ·intro ρ' w' hs hah hP
         obtain ⟨hvl298, hs295⟩ := hP
         obtain ⟨q296, q297, -⟩ := hvl298
         have e52 := hah 19 52 (by kernel_rfl)
         have e46 := hah 13 46 (by kernel_rfl)
         have hkn : Known ρ' [(52, (.int .i64 (IntKind.wrap .i64 (31 - (Int.tmod (IntKind.wrap .i64 ((p3).toNat : Int)) (IntKind.wrap .i64 (Int.tmod ((p2).toNat : Int) 33))))))), (46, (.bool true))] := ⟨e52, (Eq.trans e46 (congrArg Value.bool hb215)), trivial⟩
         refine Step.known _ hkn ?_
         refine Step.shift (op := .shl) (T := 22) (T' := 3) (x := (.const (.int .u32 (1)))) (y := (.tmp 52)) (kx := .u32) (ky := .i64) (a := 1) (b := (IntKind.wrap .i64 (31 - (Int.tmod (IntKind.wrap .i64 ((p3).toNat : Int)) (IntKind.wrap .i64 (Int.tmod ((p2).toNat : Int) 33)))))) (v := (.int .u32 (bShl .u32 1 (IntKind.wrap .i64 (31 - (Int.tmod (IntKind.wrap .i64 ((p3).toNat : Int)) (IntKind.wrap .i64 (Int.tmod ((p2).toNat : Int) 33)))))))) (d := (some 53)) (k := 20) (by kernel_rfl) rfl (by kernel_rfl) (by kernel_rfl) (of_decide_eq_true hl222) rfl ?_
         exact ⟨rfl, _, updO_known hkn, rfl⟩
        ·intro ρ' w' hs hah hP
         obtain ⟨hvl303, hs299⟩ := hP
         obtain ⟨q300, q301, q302, -⟩ := hvl303
         have e52 := hah 19 52 (by kernel_rfl)
         have e46 := hah 13 46 (by kernel_rfl)
         have hkn : Known ρ' [(52, (.int .i64 (IntKind.wrap .i64 (31 - (Int.tmod (IntKind.wrap .i64 ((p3).toNat : Int)) (IntKind.wrap .i64 (Int.tmod ((p2).toNat : Int) 33))))))), (46, (.bool true))] := ⟨e52, (Eq.trans e46 (congrArg Value.bool hb215)), trivial⟩
         refine Step.known _ hkn ?_
         refine Step.shift (op := .shl) (T := 22) (T' := 3) (x := (.const (.int .u32 (1)))) (y := (.tmp 52)) (kx := .u32) (ky := .i64) (a := 1) (b := (IntKind.wrap .i64 (31 - (Int.tmod (IntKind.wrap .i64 ((p3).toNat : Int)) (IntKind.wrap .i64 (Int.tmod ((p2).toNat : Int) 33)))))) (v := (.int .u32 (bShl .u32 1 (IntKind.wrap .i64 (31 - (Int.tmod (IntKind.wrap .i64 ((p3).toNat : Int)) (IntKind.wrap .i64 (Int.tmod ((p2).toNat : Int) 33)))))))) (d := (some 53)) (k := 20) (by kernel_rfl) rfl (by kernel_rfl) (by kernel_rfl) (of_decide_eq_true hl222) rfl ?_
         exact ⟨rfl, _, updO_known hkn, rfl⟩
       ·exact Owe.run (by kernel_rfl) [(50, (.int .u32 p1)), (53, (.int .u32 (bShl .u32 1 (IntKind.wrap .i64 (31 - (Int.tmod (IntKind.wrap .i64 ((p3).toNat : Int)) (IntKind.wrap .i64 (Int.tmod ((p2).toNat : Int) 33)))))))), (46, (.bool true))] ⟨gA 17 (by kernel_rfl) (by kernel_rfl), gA 20 (by kernel_rfl) (by kernel_rfl), gB 13 (by kernel_rfl) (!z209) (by kernel_rfl) hb215, trivial⟩ (.int .u32 (bXor .u32 p1 (bShl .u32 1 (IntKind.wrap .i64 (31 - (Int.tmod (IntKind.wrap .i64 ((p3).toNat : Int)) (IntKind.wrap .i64 (Int.tmod ((p2).toNat : Int) 33)))))))) (fun _ _ => by kernel_rfl) rfl
       ·refine Owe.heavy (by kernel_rfl) [(3, 4)] (by kernel_rfl) (all_cons ⟨by kernel_rfl, by kernel_rfl, ?_⟩ all_nil)
        ·intro ρ' w' hs hah hP
         obtain ⟨hvl308, hs304⟩ := hP
         obtain ⟨q305, q306, q307, -⟩ := hvl308
         have e49 : ρ' 49 = (.agg #[(.int .u32 z216.1), (.int .i64 z216.2)]) := (valF_eq (h := 16) (by kernel_rfl)).symm.trans q307
         have e54 := hah 21 54 (by kernel_rfl)
         have e46 := hah 13 46 (by kernel_rfl)
         have hkn : Known ρ' [(49, (.agg #[(.int .u32 z216.1), (.int .i64 z216.2)])), (54, (.int .u32 (bXor .u32 p1 (bShl .u32 1 (IntKind.wrap .i64 (31 - (Int.tmod (IntKind.wrap .i64 ((p3).toNat : Int)) (IntKind.wrap .i64 (Int.tmod ((p2).toNat : Int) 33))))))))), (46, (.bool true))] := ⟨e49, e54, (Eq.trans e46 (congrArg Value.bool hb215)), trivial⟩
         refine Step.known _ hkn ?_
         refine Step.callF (f := 21) (fo := (.func 21)) (xs := #[(.tmp 49), (.tmp 54)]) (tys := #[24, 22]) (first := #[]) (captured := #[]) (d := (some 55)) (k := 22) (by kernel_rfl) rfl (by kernel_rfl) (by kernel_rfl) Tryd.call21 (L_syntax_In_walk  z216.1 z216.2 (bXor .u32 p1 (bShl .u32 1 (IntKind.wrap .i64 (31 - (Int.tmod (IntKind.wrap .i64 ((p3).toNat : Int)) (IntKind.wrap .i64 (Int.tmod ((p2).toNat : Int) 33))))))) w'  z223 hz224) ?_
         rintro e w309 ⟨rfl, hs310⟩
         refine ⟨_, rfl, ?_⟩
         have hs311 := SP.call hs304 hs310
         clear hs310
         have hs312 : SP [] w0 w309 [] := hs311
         clear hs311
         refine ⟨_, updO_known hkn, rfl, ?_⟩
         exact (And.intro (And.intro q305 (And.intro q306 (And.intro q307 (And.intro rfl (trivial))))) (hs312))
       ·exact Owe.run (by kernel_rfl) [(46, (.bool true)), (55, (.bool z223))] ⟨gB 13 (by kernel_rfl) (!z209) (by kernel_rfl) hb215, gA 22 (by kernel_rfl) (by kernel_rfl), trivial⟩ (.bool z223) (fun _ _ => by kernel_rfl) rfl
       ·exact Owe.run (by kernel_rfl) [(56, (.bool z223))] ⟨gA 23 (by kernel_rfl) (by kernel_rfl), trivial⟩ (.bool z223) (fun _ _ => by kernel_rfl) rfl
       ·intro ρ' w' hs hf hP
        obtain ⟨hvl318, hs313⟩ := hP
        obtain ⟨q314, q315, q316, q317, -⟩ := hvl318
        have e6 := hf 24 6 (by kernel_rfl)
        refine postKnown [(6, (.bool z223))] ⟨e6, trivial⟩ ?_
        obtain ⟨w319, hww319⟩ : ∃ x, w' = x := ⟨_, rfl⟩
        rw [hww319] at hs313 ⊢
        exact ⟨z223, ⟨(by kernel_rfl), trivial⟩, SP.sel hs313 [] rfl rfl, H⟩
      ·have H := cf H hb215
       refine At.stages (by kernel_rfl) (by kernel_rfl) (by kernel_rfl) (by kernel_rfl) (by kernel_rfl) [GEq (.bool z4), GEq (.bool z4), GEq (.int .u32 p1), GEq (.int .i64 (IntKind.wrap .i64 (Int.tmod ((p2).toNat : Int) 33))), GEq (.agg #[(.int .u32 z202.1), (.int .i64 z202.2)]), GEq (.int .u32 p1), GEq (.int .i64 (Int.tmod (IntKind.wrap .i64 ((p3).toNat : Int)) (IntKind.wrap .i64 (Int.tmod ((p2).toNat : Int) 33)))), GEq (.int .i64 (IntKind.wrap .i64 (31 - (Int.tmod (IntKind.wrap .i64 ((p3).toNat : Int)) (IntKind.wrap .i64 (Int.tmod ((p2).toNat : Int) 33)))))), GEq (.int .u32 (bShl .u32 1 (IntKind.wrap .i64 (31 - (Int.tmod (IntKind.wrap .i64 ((p3).toNat : Int)) (IntKind.wrap .i64 (Int.tmod ((p2).toNat : Int) 33))))))), GEq (.int .u32 (bXor .u32 p1 (bShl .u32 1 (IntKind.wrap .i64 (31 - (Int.tmod (IntKind.wrap .i64 ((p3).toNat : Int)) (IntKind.wrap .i64 (Int.tmod ((p2).toNat : Int) 33)))))))), GEq (.bool z209), GEq (.bool (!z209)), GEq (.bool (!z209)), GEq (.bool (!z209)), GEq undef, GEq undef, GEq undef, GEq undef, GEq undef, GEq undef, GEq undef, GEq undef, GEq undef, GEq (.bool false), GEq (.bool false)] [4, 10] [([], fun vs w => VL vs [] ∧ SP [] w0 w []), ([4], fun vs w => VL vs [(.agg #[(.int .u32 z202.1), (.int .i64 z202.2)])] ∧ SP [] w0 w []), ([4, 10], fun vs w => VL vs [(.agg #[(.int .u32 z202.1), (.int .i64 z202.2)]), (.bool z209)] ∧ SP [] w0 w [])] (N := 25) (by kernel_rfl) ⟨by kernel_rfl, Nat.zero_lt_succ _⟩ (show VL [] [] ∧ SP [] w0 w36.drew [] from ⟨trivial, SP.drew hs37⟩) ⟨⟨⟨⟨⟨⟨⟨⟨⟨⟨⟨⟨⟨⟨⟨⟨⟨⟨⟨⟨⟨⟨⟨⟨⟨trivial, ?_⟩, ?_⟩, ?_⟩, ?_⟩, ?_⟩, ?_⟩, ?_⟩, ?_⟩, ?_⟩, ?_⟩, ?_⟩, ?_⟩, ?_⟩, ?_⟩, ?_⟩, ?_⟩, ?_⟩, ?_⟩, ?_⟩, ?_⟩, ?_⟩, ?_⟩, ?_⟩, ?_⟩, ?_⟩ (last := 2) (by kernel_rfl) ?_
       ·exact Owe.run (by kernel_rfl) [(7, (.bool z4))] ⟨gS (by kernel_rfl) (by kernel_rfl), trivial⟩ (.bool z4) (fun _ _ => by kernel_rfl) rfl
       ·exact Owe.run (by kernel_rfl) [(33, (.bool z4))] ⟨gA 0 (by kernel_rfl) (by kernel_rfl), trivial⟩ (.bool z4) (fun _ _ => by kernel_rfl) rfl
       ·exact Owe.run (by kernel_rfl) [(0, (.int .u32 p1)), (34, (.bool true))] ⟨gS (by kernel_rfl) (by kernel_rfl), gB 1 (by kernel_rfl) z4 (by kernel_rfl) hb201, trivial⟩ (.int .u32 p1) (fun _ _ => by kernel_rfl) rfl
       ·exact Owe.run (by kernel_rfl) [(8, (.int .i64 (IntKind.wrap .i64 (Int.tmod ((p2).toNat : Int) 33)))), (34, (.bool true))] ⟨gS (by kernel_rfl) (by kernel_rfl), gB 1 (by kernel_rfl) z4 (by kernel_rfl) hb201, trivial⟩ (.int .i64 (IntKind.wrap .i64 (Int.tmod ((p2).toNat : Int) 33))) (fun _ _ => by kernel_rfl) rfl
       ·refine Owe.heavy (by kernel_rfl) [(0, 1)] (by kernel_rfl) (all_cons ⟨by kernel_rfl, by kernel_rfl, ?_⟩ all_nil)
        ·intro ρ' w' hs hah hP
         obtain ⟨hvl333, hs332⟩ := hP
         have e35 := hah 2 35 (by kernel_rfl)
         have e36 := hah 3 36 (by kernel_rfl)
         have e34 := hah 1 34 (by kernel_rfl)
         have hkn : Known ρ' [(35, (.int .u32 p1)), (36, (.int .i64 (IntKind.wrap .i64 (Int.tmod ((p2).toNat : Int) 33)))), (34, (.bool true))] := ⟨e35, e36, (Eq.trans e34 (congrArg Value.bool hb201)), trivial⟩
         refine Step.known _ hkn ?_
         refine Step.callF (f := 23) (fo := (.func 23)) (xs := #[(.tmp 35), (.tmp 36)]) (tys := #[22, 3]) (first := #[]) (captured := #[]) (d := (some 37)) (k := 4) (by kernel_rfl) rfl (by kernel_rfl) (by kernel_rfl) Tryd.call23 (L_subwaylaw04_net_walk  p1 (IntKind.wrap .i64 (Int.tmod ((p2).toNat : Int) 33)) w'  z202 hz203) ?_
         rintro e w334 ⟨rfl, hs335⟩
         refine ⟨_, rfl, ?_⟩
         have hs336 := SP.call hs332 hs335
         clear hs335
         have hs337 : SP [] w0 w334 [] := hs336
         clear hs336
         refine ⟨_, updO_known hkn, rfl, ?_⟩
         exact (And.intro (And.intro rfl (trivial)) (hs337))
       ·exact Owe.run (by kernel_rfl) [(0, (.int .u32 p1)), (34, (.bool true))] ⟨gS (by kernel_rfl) (by kernel_rfl), gB 1 (by kernel_rfl) z4 (by kernel_rfl) hb201, trivial⟩ (.int .u32 p1) (fun _ _ => by kernel_rfl) rfl
       ·exact Owe.run (by kernel_rfl) [(9, (.int .i64 (Int.tmod (IntKind.wrap .i64 ((p3).toNat : Int)) (IntKind.wrap .i64 (Int.tmod ((p2).toNat : Int) 33))))), (34, (.bool true))] ⟨gS (by kernel_rfl) (by kernel_rfl), gB 1 (by kernel_rfl) z4 (by kernel_rfl) hb201, trivial⟩ (.int .i64 (Int.tmod (IntKind.wrap .i64 ((p3).toNat : Int)) (IntKind.wrap .i64 (Int.tmod ((p2).toNat : Int) 33)))) (fun _ _ => by kernel_rfl) rfl
       ·exact Owe.run (by kernel_rfl) [(39, (.int .i64 (Int.tmod (IntKind.wrap .i64 ((p3).toNat : Int)) (IntKind.wrap .i64 (Int.tmod ((p2).toNat : Int) 33))))), (34, (.bool true))] ⟨gA 6 (by kernel_rfl) (by kernel_rfl), gB 1 (by kernel_rfl) z4 (by kernel_rfl) hb201, trivial⟩ (.int .i64 (IntKind.wrap .i64 (31 - (Int.tmod (IntKind.wrap .i64 ((p3).toNat : Int)) (IntKind.wrap .i64 (Int.tmod ((p2).toNat : Int) 33)))))) (fun _ _ => by kernel_rfl) rfl
       ·refine Owe.light (by kernel_rfl) [0, 1] (by kernel_rfl) (all_cons ?_ (all_cons ?_ all_nil))
        ·intro ρ' w' hs hah hP
         obtain ⟨hvl339, hs338⟩ := hP
         have e40 := hah 7 40 (by kernel_rfl)
         have e34 := hah 1 34 (by kernel_rfl)
         have hkn : Known ρ' [(40, (.int .i64 (IntKind.wrap .i64 (31 - (Int.tmod (IntKind.wrap .i64 ((p3).toNat : Int)) (IntKind.wrap .i64 (Int.tmod ((p2).toNat : Int) 33))))))), (34, (.bool true))] := ⟨e40, (Eq.trans e34 (congrArg Value.bool hb201)), trivial⟩
         refine Step.known _ hkn ?_
         refine Step.shift (op := .shl) (T := 22) (T' := 3) (x := (.const (.int .u32 (1)))) (y := (.tmp 40)) (kx := .u32) (ky := .i64) (a := 1) (b := (IntKind.wrap .i64 (31 - (Int.tmod (IntKind.wrap .i64 ((p3).toNat : Int)) (IntKind.wrap .i64 (Int.tmod ((p2).toNat : Int) 33)))))) (v := (.int .u32 (bShl .u32 1 (IntKind.wrap .i64 (31 - (Int.tmod (IntKind.wrap .i64 ((p3).toNat : Int)) (IntKind.wrap .i64 (Int.tmod ((p2).toNat : Int) 33)))))))) (d := (some 41)) (k := 8) (by kernel_rfl) rfl (by kernel_rfl) (by kernel_rfl) (of_decide_eq_true hl208) rfl ?_
         exact ⟨rfl, _, updO_known hkn, rfl⟩
        ·intro ρ' w' hs hah hP
         obtain ⟨hvl342, hs340⟩ := hP
         obtain ⟨q341, -⟩ := hvl342
         have e40 := hah 7 40 (by kernel_rfl)
         have e34 := hah 1 34 (by kernel_rfl)
         have hkn : Known ρ' [(40, (.int .i64 (IntKind.wrap .i64 (31 - (Int.tmod (IntKind.wrap .i64 ((p3).toNat : Int)) (IntKind.wrap .i64 (Int.tmod ((p2).toNat : Int) 33))))))), (34, (.bool true))] := ⟨e40, (Eq.trans e34 (congrArg Value.bool hb201)), trivial⟩
         refine Step.known _ hkn ?_
         refine Step.shift (op := .shl) (T := 22) (T' := 3) (x := (.const (.int .u32 (1)))) (y := (.tmp 40)) (kx := .u32) (ky := .i64) (a := 1) (b := (IntKind.wrap .i64 (31 - (Int.tmod (IntKind.wrap .i64 ((p3).toNat : Int)) (IntKind.wrap .i64 (Int.tmod ((p2).toNat : Int) 33)))))) (v := (.int .u32 (bShl .u32 1 (IntKind.wrap .i64 (31 - (Int.tmod (IntKind.wrap .i64 ((p3).toNat : Int)) (IntKind.wrap .i64 (Int.tmod ((p2).toNat : Int) 33)))))))) (d := (some 41)) (k := 8) (by kernel_rfl) rfl (by kernel_rfl) (by kernel_rfl) (of_decide_eq_true hl208) rfl ?_
         exact ⟨rfl, _, updO_known hkn, rfl⟩
       ·exact Owe.run (by kernel_rfl) [(38, (.int .u32 p1)), (41, (.int .u32 (bShl .u32 1 (IntKind.wrap .i64 (31 - (Int.tmod (IntKind.wrap .i64 ((p3).toNat : Int)) (IntKind.wrap .i64 (Int.tmod ((p2).toNat : Int) 33)))))))), (34, (.bool true))] ⟨gA 5 (by kernel_rfl) (by kernel_rfl), gA 8 (by kernel_rfl) (by kernel_rfl), gB 1 (by kernel_rfl) z4 (by kernel_rfl) hb201, trivial⟩ (.int .u32 (bXor .u32 p1 (bShl .u32 1 (IntKind.wrap .i64 (31 - (Int.tmod (IntKind.wrap .i64 ((p3).toNat : Int)) (IntKind.wrap .i64 (Int.tmod ((p2).toNat : Int) 33)))))))) (fun _ _ => by kernel_rfl) rfl
       ·refine Owe.heavy (by kernel_rfl) [(1, 2)] (by kernel_rfl) (all_cons ⟨by kernel_rfl, by kernel_rfl, ?_⟩ all_nil)
        ·intro ρ' w' hs hah hP
         obtain ⟨hvl345, hs343⟩ := hP
         obtain ⟨q344, -⟩ := hvl345
         have e37 : ρ' 37 = (.agg #[(.int .u32 z202.1), (.int .i64 z202.2)]) := (valF_eq (h := 4) (by kernel_rfl)).symm.trans q344
         have e42 := hah 9 42 (by kernel_rfl)
         have e34 := hah 1 34 (by kernel_rfl)
         have hkn : Known ρ' [(37, (.agg #[(.int .u32 z202.1), (.int .i64 z202.2)])), (42, (.int .u32 (bXor .u32 p1 (bShl .u32 1 (IntKind.wrap .i64 (31 - (Int.tmod (IntKind.wrap .i64 ((p3).toNat : Int)) (IntKind.wrap .i64 (Int.tmod ((p2).toNat : Int) 33))))))))), (34, (.bool true))] := ⟨e37, e42, (Eq.trans e34 (congrArg Value.bool hb201)), trivial⟩
         refine Step.known _ hkn ?_
         refine Step.callF (f := 21) (fo := (.func 21)) (xs := #[(.tmp 37), (.tmp 42)]) (tys := #[24, 22]) (first := #[]) (captured := #[]) (d := (some 43)) (k := 10) (by kernel_rfl) rfl (by kernel_rfl) (by kernel_rfl) Tryd.call21 (L_syntax_In_walk  z202.1 z202.2 (bXor .u32 p1 (bShl .u32 1 (IntKind.wrap .i64 (31 - (Int.tmod (IntKind.wrap .i64 ((p3).toNat : Int)) (IntKind.wrap .i64 (Int.tmod ((p2).toNat : Int) 33))))))) w'  z209 hz210) ?_
         rintro e w346 ⟨rfl, hs347⟩
         refine ⟨_, rfl, ?_⟩
         have hs348 := SP.call hs343 hs347
         clear hs347
         have hs349 : SP [] w0 w346 [] := hs348
         clear hs348
         refine ⟨_, updO_known hkn, rfl, ?_⟩
         exact (And.intro (And.intro q344 (And.intro rfl (trivial))) (hs349))
       ·exact Owe.run (by kernel_rfl) [(43, (.bool z209)), (34, (.bool true))] ⟨gA 10 (by kernel_rfl) (by kernel_rfl), gB 1 (by kernel_rfl) z4 (by kernel_rfl) hb201, trivial⟩ (.bool (!z209)) (fun _ _ => by kernel_rfl) rfl
       ·exact Owe.run (by kernel_rfl) [(34, (.bool true)), (44, (.bool (!z209)))] ⟨gB 1 (by kernel_rfl) z4 (by kernel_rfl) hb201, gA 11 (by kernel_rfl) (by kernel_rfl), trivial⟩ (.bool (!z209)) (fun _ _ => by kernel_rfl) rfl
       ·exact Owe.run (by kernel_rfl) [(45, (.bool (!z209)))] ⟨gA 12 (by kernel_rfl) (by kernel_rfl), trivial⟩ (.bool (!z209)) (fun _ _ => by kernel_rfl) rfl
       ·exact Owe.skip (by kernel_rfl) [(46, (.bool false))] ⟨gB 13 (by kernel_rfl) (!z209) (by kernel_rfl) hb215, trivial⟩ (some 47) (fun _ => by kernel_rfl) (by kernel_rfl) rfl
       ·exact Owe.skip (by kernel_rfl) [(46, (.bool false))] ⟨gB 13 (by kernel_rfl) (!z209) (by kernel_rfl) hb215, trivial⟩ (some 48) (fun _ => by kernel_rfl) (by kernel_rfl) rfl
       ·exact Owe.skip (by kernel_rfl) [(46, (.bool false))] ⟨gB 13 (by kernel_rfl) (!z209) (by kernel_rfl) hb215, trivial⟩ (some 49) (fun _ => by kernel_rfl) (by kernel_rfl) rfl
       ·exact Owe.skip (by kernel_rfl) [(46, (.bool false))] ⟨gB 13 (by kernel_rfl) (!z209) (by kernel_rfl) hb215, trivial⟩ (some 50) (fun _ => by kernel_rfl) (by kernel_rfl) rfl
       ·exact Owe.skip (by kernel_rfl) [(46, (.bool false))] ⟨gB 13 (by kernel_rfl) (!z209) (by kernel_rfl) hb215, trivial⟩ (some 51) (fun _ => by kernel_rfl) (by kernel_rfl) rfl
       ·exact Owe.skip (by kernel_rfl) [(46, (.bool false))] ⟨gB 13 (by kernel_rfl) (!z209) (by kernel_rfl) hb215, trivial⟩ (some 52) (fun _ => by kernel_rfl) (by kernel_rfl) rfl
       ·exact Owe.skip (by kernel_rfl) [(46, (.bool false))] ⟨gB 13 (by kernel_rfl) (!z209) (by kernel_rfl) hb215, trivial⟩ (some 53) (fun _ => by kernel_rfl) (by kernel_rfl) rfl
       ·exact Owe.skip (by kernel_rfl) [(46, (.bool false))] ⟨gB 13 (by kernel_rfl) (!z209) (by kernel_rfl) hb215, trivial⟩ (some 54) (fun _ => by kernel_rfl) (by kernel_rfl) rfl
       ·exact Owe.skip (by kernel_rfl) [(46, (.bool false))] ⟨gB 13 (by kernel_rfl) (!z209) (by kernel_rfl) hb215, trivial⟩ (some 55) (fun _ => by kernel_rfl) (by kernel_rfl) rfl
       ·exact Owe.run (by kernel_rfl) [(46, (.bool false)), (55, undef)] ⟨gB 13 (by kernel_rfl) (!z209) (by kernel_rfl) hb215, gA 22 (by kernel_rfl) (by kernel_rfl), trivial⟩ (.bool false) (fun _ _ => by kernel_rfl) rfl
       ·exact Owe.run (by kernel_rfl) [(56, (.bool false))] ⟨gA 23 (by kernel_rfl) (by kernel_rfl), trivial⟩ (.bool false) (fun _ _ => by kernel_rfl) rfl
       ·intro ρ' w' hs hf hP
        obtain ⟨hvl353, hs350⟩ := hP
        obtain ⟨q351, q352, -⟩ := hvl353
        have e6 := hf 24 6 (by kernel_rfl)
        refine postKnown [(6, (.bool false))] ⟨e6, trivial⟩ ?_
        obtain ⟨w354, hww354⟩ : ∃ x, w' = x := ⟨_, rfl⟩
        rw [hww354] at hs350 ⊢
        exact ⟨false, ⟨(by kernel_rfl), trivial⟩, SP.sel hs350 [] rfl rfl, H⟩
     ·have H := cf H hb201
      refine At.stages (by kernel_rfl) (by kernel_rfl) (by kernel_rfl) (by kernel_rfl) (by kernel_rfl) [GEq (.bool z4), GEq (.bool z4), GEq undef, GEq undef, GEq undef, GEq undef, GEq undef, GEq undef, GEq undef, GEq undef, GEq undef, GEq undef, GEq (.bool false), GEq (.bool false), GEq undef, GEq undef, GEq undef, GEq undef, GEq undef, GEq undef, GEq undef, GEq undef, GEq undef, GEq (.bool false), GEq (.bool false)] [] [([], fun vs w => VL vs [] ∧ SP [] w0 w [])] (N := 25) (by kernel_rfl) ⟨by kernel_rfl, Nat.zero_lt_succ _⟩ (show VL [] [] ∧ SP [] w0 w36.drew [] from ⟨trivial, SP.drew hs37⟩) ⟨⟨⟨⟨⟨⟨⟨⟨⟨⟨⟨⟨⟨⟨⟨⟨⟨⟨⟨⟨⟨⟨⟨⟨⟨trivial, ?_⟩, ?_⟩, ?_⟩, ?_⟩, ?_⟩, ?_⟩, ?_⟩, ?_⟩, ?_⟩, ?_⟩, ?_⟩, ?_⟩, ?_⟩, ?_⟩, ?_⟩, ?_⟩, ?_⟩, ?_⟩, ?_⟩, ?_⟩, ?_⟩, ?_⟩, ?_⟩, ?_⟩, ?_⟩ (last := 0) (by kernel_rfl) ?_
      ·exact Owe.run (by kernel_rfl) [(7, (.bool z4))] ⟨gS (by kernel_rfl) (by kernel_rfl), trivial⟩ (.bool z4) (fun _ _ => by kernel_rfl) rfl
      ·exact Owe.run (by kernel_rfl) [(33, (.bool z4))] ⟨gA 0 (by kernel_rfl) (by kernel_rfl), trivial⟩ (.bool z4) (fun _ _ => by kernel_rfl) rfl
      ·exact Owe.skip (by kernel_rfl) [(34, (.bool false))] ⟨gB 1 (by kernel_rfl) z4 (by kernel_rfl) hb201, trivial⟩ (some 35) (fun _ => by kernel_rfl) (by kernel_rfl) rfl
      ·exact Owe.skip (by kernel_rfl) [(34, (.bool false))] ⟨gB 1 (by kernel_rfl) z4 (by kernel_rfl) hb201, trivial⟩ (some 36) (fun _ => by kernel_rfl) (by kernel_rfl) rfl
      ·exact Owe.skip (by kernel_rfl) [(34, (.bool false))] ⟨gB 1 (by kernel_rfl) z4 (by kernel_rfl) hb201, trivial⟩ (some 37) (fun _ => by kernel_rfl) (by kernel_rfl) rfl
      ·exact Owe.skip (by kernel_rfl) [(34, (.bool false))] ⟨gB 1 (by kernel_rfl) z4 (by kernel_rfl) hb201, trivial⟩ (some 38) (fun _ => by kernel_rfl) (by kernel_rfl) rfl
      ·exact Owe.skip (by kernel_rfl) [(34, (.bool false))] ⟨gB 1 (by kernel_rfl) z4 (by kernel_rfl) hb201, trivial⟩ (some 39) (fun _ => by kernel_rfl) (by kernel_rfl) rfl
      ·exact Owe.skip (by kernel_rfl) [(34, (.bool false))] ⟨gB 1 (by kernel_rfl) z4 (by kernel_rfl) hb201, trivial⟩ (some 40) (fun _ => by kernel_rfl) (by kernel_rfl) rfl
      ·exact Owe.skip (by kernel_rfl) [(34, (.bool false))] ⟨gB 1 (by kernel_rfl) z4 (by kernel_rfl) hb201, trivial⟩ (some 41) (fun _ => by kernel_rfl) (by kernel_rfl) rfl
      ·exact Owe.skip (by kernel_rfl) [(34, (.bool false))] ⟨gB 1 (by kernel_rfl) z4 (by kernel_rfl) hb201, trivial⟩ (some 42) (fun _ => by kernel_rfl) (by kernel_rfl) rfl
      ·exact Owe.skip (by kernel_rfl) [(34, (.bool false))] ⟨gB 1 (by kernel_rfl) z4 (by kernel_rfl) hb201, trivial⟩ (some 43) (fun _ => by kernel_rfl) (by kernel_rfl) rfl
      ·exact Owe.skip (by kernel_rfl) [(34, (.bool false))] ⟨gB 1 (by kernel_rfl) z4 (by kernel_rfl) hb201, trivial⟩ (some 44) (fun _ => by kernel_rfl) (by kernel_rfl) rfl
      ·exact Owe.run (by kernel_rfl) [(34, (.bool false)), (44, undef)] ⟨gB 1 (by kernel_rfl) z4 (by kernel_rfl) hb201, gA 11 (by kernel_rfl) (by kernel_rfl), trivial⟩ (.bool false) (fun _ _ => by kernel_rfl) rfl
      ·exact Owe.run (by kernel_rfl) [(45, (.bool false))] ⟨gA 12 (by kernel_rfl) (by kernel_rfl), trivial⟩ (.bool false) (fun _ _ => by kernel_rfl) rfl
      ·exact Owe.skip (by kernel_rfl) [(46, (.bool false))] ⟨gA 13 (by kernel_rfl) (by kernel_rfl), trivial⟩ (some 47) (fun _ => by kernel_rfl) (by kernel_rfl) rfl
      ·exact Owe.skip (by kernel_rfl) [(46, (.bool false))] ⟨gA 13 (by kernel_rfl) (by kernel_rfl), trivial⟩ (some 48) (fun _ => by kernel_rfl) (by kernel_rfl) rfl
      ·exact Owe.skip (by kernel_rfl) [(46, (.bool false))] ⟨gA 13 (by kernel_rfl) (by kernel_rfl), trivial⟩ (some 49) (fun _ => by kernel_rfl) (by kernel_rfl) rfl
      ·exact Owe.skip (by kernel_rfl) [(46, (.bool false))] ⟨gA 13 (by kernel_rfl) (by kernel_rfl), trivial⟩ (some 50) (fun _ => by kernel_rfl) (by kernel_rfl) rfl
      ·exact Owe.skip (by kernel_rfl) [(46, (.bool false))] ⟨gA 13 (by kernel_rfl) (by kernel_rfl), trivial⟩ (some 51) (fun _ => by kernel_rfl) (by kernel_rfl) rfl
      ·exact Owe.skip (by kernel_rfl) [(46, (.bool false))] ⟨gA 13 (by kernel_rfl) (by kernel_rfl), trivial⟩ (some 52) (fun _ => by kernel_rfl) (by kernel_rfl) rfl
      ·exact Owe.skip (by kernel_rfl) [(46, (.bool false))] ⟨gA 13 (by kernel_rfl) (by kernel_rfl), trivial⟩ (some 53) (fun _ => by kernel_rfl) (by kernel_rfl) rfl
      ·exact Owe.skip (by kernel_rfl) [(46, (.bool false))] ⟨gA 13 (by kernel_rfl) (by kernel_rfl), trivial⟩ (some 54) (fun _ => by kernel_rfl) (by kernel_rfl) rfl
      ·exact Owe.skip (by kernel_rfl) [(46, (.bool false))] ⟨gA 13 (by kernel_rfl) (by kernel_rfl), trivial⟩ (some 55) (fun _ => by kernel_rfl) (by kernel_rfl) rfl
      ·exact Owe.run (by kernel_rfl) [(46, (.bool false)), (55, undef)] ⟨gA 13 (by kernel_rfl) (by kernel_rfl), gA 22 (by kernel_rfl) (by kernel_rfl), trivial⟩ (.bool false) (fun _ _ => by kernel_rfl) rfl
      ·exact Owe.run (by kernel_rfl) [(56, (.bool false))] ⟨gA 23 (by kernel_rfl) (by kernel_rfl), trivial⟩ (.bool false) (fun _ _ => by kernel_rfl) rfl
      ·intro ρ' w' hs hf hP
       obtain ⟨hvl356, hs355⟩ := hP
       have e6 := hf 24 6 (by kernel_rfl)
       refine postKnown [(6, (.bool false))] ⟨e6, trivial⟩ ?_
       obtain ⟨w357, hww357⟩ : ∃ x, w' = x := ⟨_, rfl⟩
       rw [hww357] at hs355 ⊢
       exact ⟨false, ⟨(by kernel_rfl), trivial⟩, SP.sel hs355 [] rfl rfl, H⟩
    ·rintro ρ w199 ⟨v198, hk, hs200, H⟩
     unfold L_subwaylaw04_SyntaxIn_k2 at H
     refine At.known [(6, (.bool v198))] hk ?_
     refine At.ret (by kernel_rfl) ?_
     refine ⟨(.bool v198), by kernel_rfl, ?_⟩
     obtain rfl := some_elim H
     exact ⟨rfl, SP.sel hs200 [] rfl rfl⟩
end Go.Proofs.YthnakiihenbcjaaDoor
