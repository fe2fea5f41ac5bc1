/- LIFTED BY PROGRAM (tools/lift.py): what functions compute, and that they do. -/
import Derived.Test.YtjpchjbbfbmjgaaDoorLN
namespace Go.Proofs.YtjpchjbbfbmjgaaDoor
set_option linter.unusedSimpArgs false
set_option linter.unusedVariables false
open Go.RowKit

/-! L_subwaylaw01_NumGreater -/
def L_subwaylaw01_NumGreater_k3 (v49 : Bool) : Option (Bool) :=
  (some (v49))
def L_subwaylaw01_NumGreater_k2 (p1 : Int) (p2 : Int) (z3 : (Bool)) (v39 : Bool) (v44 : Bool) : Option (Bool) :=
  (cond z3 (cond (v39 == (decide ((IntKind.wrap .i64 (Int.tmod p1 1099511627777)) < (IntKind.wrap .i64 (Int.tmod p2 1099511627777))))) (L_subwaylaw01_NumGreater_k3 (v44 == (decide ((IntKind.wrap .i64 (Int.tmod p1 1099511627777)) < (IntKind.wrap .i64 (Int.tmod p2 1099511627777)))))) (L_subwaylaw01_NumGreater_k3 false)) (L_subwaylaw01_NumGreater_k3 false))
def L_subwaylaw01_NumGreater_k1 (p1 : Int) (p2 : Int) (z3 : (Bool)) (z25 : ((List UInt8))) (z31 : ((List UInt8))) (v39 : Bool) : Option (Bool) :=
  (cond (decide (((List.length z25 : Nat) : Int) < ((List.length z31 : Nat) : Int))) (L_subwaylaw01_NumGreater_k2 p1 p2 z3 v39 true) (cond (((List.length z25 : Nat) : Int) == ((List.length z31 : Nat) : Int)) (L_subwaylaw01_NumGreater_k2 p1 p2 z3 v39 (Op.bytesLess z25 z31)) (L_subwaylaw01_NumGreater_k2 p1 p2 z3 v39 false)))
def L_subwaylaw01_NumGreater (p1 : Int) (p2 : Int) : Option (Bool) :=
  ((L_subwaylaw01_head ).bind fun z3 => ((L_num_Put (IntKind.wrap .i64 (Int.tmod p1 1099511627777))).bind fun z9 => ((L_num_Put (IntKind.wrap .i64 (Int.tmod p2 1099511627777))).bind fun z17 => ((L_num_Decimal (IntKind.wrap .i64 (Int.tmod p1 1099511627777))).bind fun z25 => ((L_num_Decimal (IntKind.wrap .i64 (Int.tmod p2 1099511627777))).bind fun z31 => (cond (decide (((List.length z9 : Nat) : Int) < ((List.length z17 : Nat) : Int))) (L_subwaylaw01_NumGreater_k1 p1 p2 z3 z25 z31 true) (cond (((List.length z9 : Nat) : Int) == ((List.length z17 : Nat) : Int)) (L_subwaylaw01_NumGreater_k1 p1 p2 z3 z25 z31 (Op.bytesLess z9 z17)) (L_subwaylaw01_NumGreater_k1 p1 p2 z3 z25 z31 false))))))))
set_option maxRecDepth 100000 in
set_option maxHeartbeats 4000000 in
theorem L_subwaylaw01_NumGreater_walk  (p1 : Int) (p2 : Int) (w0 : World) (hL : LaidW w0)  (r : (Bool)) (H : L_subwaylaw01_NumGreater p1 p2 = some r) :
  Calls Tryd.prog 6 #[(.int .u64 p1), (.int .u64 p2)] w0 (fun e w' => e = .returned (.bool r) ∧ SP [] w0 w' []) := by
 unfold L_subwaylaw01_NumGreater at H
 refine calls_start (n := 80) Tryd.func6 (by kernel_rfl) (by kernel_rfl) (by kernel_rfl) ?_
 have hs0 := SP.start [] w0
 refine At.seq (by kernel_rfl) (p0 := [false]) (p1 := [true]) rfl rfl ?_
 refine At.region (by kernel_rfl) (by kernel_rfl) ?_
 refine In.run' 1 (k' := 1) rfl [(4, (.bool false))] (by kernel_rfl) ?_
 refine In.fin (by kernel_rfl) ?_
 refine At.seq (by kernel_rfl) (p0 := [true, false]) (p1 := [true, true]) rfl rfl ?_
 refine At.region (by kernel_rfl) (by kernel_rfl) ?_
 obtain ⟨z3, hz4, H⟩ := bind_elim H
 refine In.step (k' := 1) rfl (by kernel_rfl) ?_
 refine Step.callF (f := 9) (fo := (.func 9)) (xs := #[]) (tys := #[]) (first := #[]) (captured := #[]) (d := (some 14)) (k := 0) (by kernel_rfl) rfl (by kernel_rfl) (by kernel_rfl) Tryd.call9 (L_subwaylaw01_head_walk   w0 (laid_below hL (SP.keeps hs0)) z3 hz4) ?_
 rintro e w5 ⟨rfl, hs6⟩
 refine ⟨_, rfl, ?_⟩
 have hs7 := SP.call hs0 hs6
 clear hs6
 have hs8 : SP [] w0 w5 [] := hs7
 clear hs7
 refine In.run' 1 (k' := 2) rfl [(5, (.bool z3))] (by kernel_rfl) ?_
 refine In.fin (by kernel_rfl) ?_
 refine At.seq (by kernel_rfl) (p0 := [true, true, false]) (p1 := [true, true, true]) rfl rfl ?_
 refine At.region (by kernel_rfl) (by kernel_rfl) ?_
 refine In.run' 4 (k' := 4) rfl [(15, (.int .u64 p1)), (16, (.int .u64 (Int.tmod p1 1099511627777))), (17, (.int .i64 (IntKind.wrap .i64 (Int.tmod p1 1099511627777)))), (6, (.int .i64 (IntKind.wrap .i64 (Int.tmod p1 1099511627777))))] (by kernel_rfl) ?_
 refine In.fin (by kernel_rfl) ?_
 refine At.seq (by kernel_rfl) (p0 := [true, true, true, false]) (p1 := [true, true, true, true]) rfl rfl ?_
 refine At.region (by kernel_rfl) (by kernel_rfl) ?_
 refine In.run' 4 (k' := 4) rfl [(18, (.int .u64 p2)), (19, (.int .u64 (Int.tmod p2 1099511627777))), (20, (.int .i64 (IntKind.wrap .i64 (Int.tmod p2 1099511627777)))), (7, (.int .i64 (IntKind.wrap .i64 (Int.tmod p2 1099511627777))))] (by kernel_rfl) ?_
 refine In.fin (by kernel_rfl) ?_
 refine At.seq (by kernel_rfl) (p0 := [true, true, true, true, false]) (p1 := [true, true, true, true, true]) rfl rfl ?_
 refine At.region (by kernel_rfl) (by kernel_rfl) ?_
 refine In.run' 1 (k' := 1) rfl [(21, (.int .i64 (IntKind.wrap .i64 (Int.tmod p1 1099511627777))))] (by kernel_rfl) ?_
 obtain ⟨z9, hz10, H⟩ := bind_elim H
 refine In.step (k' := 2) rfl (by kernel_rfl) ?_
 refine Step.callF (f := 16) (fo := (.func 16)) (xs := #[(.tmp 21)]) (tys := #[2]) (first := #[]) (captured := #[]) (d := (some 22)) (k := 1) (by kernel_rfl) rfl (by kernel_rfl) (by kernel_rfl) Tryd.call16 (L_num_Put_walk  (IntKind.wrap .i64 (Int.tmod p1 1099511627777)) w5  z9 hz10) ?_
 rintro e w11 ⟨A13, c14, rfl, hs12⟩
 refine ⟨_, rfl, ?_⟩
 have hs15 := SP.call hs8 hs12
 clear hs12
 have hs16 : SP [] w0 w11 [rowT 5 eU8 A13 c14 z9] := hs15
 clear hs15
 refine In.step (k' := 3) rfl (by kernel_rfl) ?_
 refine Step.toStr (T := 22) (S' := 9) (E := 5) (x := (.tmp 22)) (A := A13) (c := c14) (l := z9) (d := (some 23)) (k := 2) (by kernel_rfl) rfl (by kernel_rfl) (by kernel_rfl) (by kernel_rfl) (by kernel_rfl) (rowT_rd (SP.get hs16 (i := 0) rfl)) ?_
 refine In.run' 1 (k' := 4) rfl [(8, (.string ⟨List.toArray z9⟩))] (by kernel_rfl) ?_
 refine In.fin (by kernel_rfl) ?_
 refine At.seq (by kernel_rfl) (p0 := [true, true, true, true, true, false]) (p1 := [true, true, true, true, true, true]) rfl rfl ?_
 refine At.region (by kernel_rfl) (by kernel_rfl) ?_
 refine In.run' 1 (k' := 1) rfl [(24, (.int .i64 (IntKind.wrap .i64 (Int.tmod p2 1099511627777))))] (by kernel_rfl) ?_
 obtain ⟨z17, hz18, H⟩ := bind_elim H
 refine In.step (k' := 2) rfl (by kernel_rfl) ?_
 refine Step.callF (f := 16) (fo := (.func 16)) (xs := #[(.tmp 24)]) (tys := #[2]) (first := #[]) (captured := #[]) (d := (some 25)) (k := 1) (by kernel_rfl) rfl (by kernel_rfl) (by kernel_rfl) Tryd.call16 (L_num_Put_walk  (IntKind.wrap .i64 (Int.tmod p2 1099511627777)) w11  z17 hz18) ?_
 rintro e w19 ⟨A21, c22, rfl, hs20⟩
 refine ⟨_, rfl, ?_⟩
 have hs23 := SP.call hs16 hs20
 clear hs20
 have hs24 : SP [] w0 w19 [rowT 5 eU8 A13 c14 z9, rowT 5 eU8 A21 c22 z17] := hs23
 clear hs23
 refine In.step (k' := 3) rfl (by kernel_rfl) ?_
 refine Step.toStr (T := 22) (S' := 9) (E := 5) (x := (.tmp 25)) (A := A21) (c := c22) (l := z17) (d := (some 26)) (k := 2) (by kernel_rfl) rfl (by kernel_rfl) (by kernel_rfl) (by kernel_rfl) (by kernel_rfl) (rowT_rd (SP.get hs24 (i := 1) rfl)) ?_
 refine In.run' 1 (k' := 4) rfl [(9, (.string ⟨List.toArray z17⟩))] (by kernel_rfl) ?_
 refine In.fin (by kernel_rfl) ?_
 refine At.seq (by kernel_rfl) (p0 := [true, true, true, true, true, true, false]) (p1 := [true, true, true, true, true, true, true]) rfl rfl ?_
 refine At.region (by kernel_rfl) (by kernel_rfl) ?_
 refine In.run' 1 (k' := 1) rfl [(27, (.int .i64 (IntKind.wrap .i64 (Int.tmod p1 1099511627777))))] (by kernel_rfl) ?_
 obtain ⟨z25, hz26, H⟩ := bind_elim H
 refine In.step (k' := 2) rfl (by kernel_rfl) ?_
 refine Step.callF (f := 20) (fo := (.func 20)) (xs := #[(.tmp 27)]) (tys := #[2]) (first := #[]) (captured := #[]) (d := (some 28)) (k := 1) (by kernel_rfl) rfl (by kernel_rfl) (by kernel_rfl) Tryd.call20 (L_num_Decimal_walk  (IntKind.wrap .i64 (Int.tmod p1 1099511627777)) w19 (laid_below hL (SP.keeps hs24)) z25 hz26) ?_
 rintro e w27 ⟨rfl, hs28⟩
 refine ⟨_, rfl, ?_⟩
 have hs29 := SP.call hs24 hs28
 clear hs28
 have hs30 : SP [] w0 w27 [rowT 5 eU8 A13 c14 z9, rowT 5 eU8 A21 c22 z17] := hs29
 clear hs29
 refine In.run' 1 (k' := 3) rfl [(10, (.string ⟨List.toArray z25⟩))] (by kernel_rfl) ?_
 refine In.fin (by kernel_rfl) ?_
 refine At.seq (by kernel_rfl) (p0 := [true, true, true, true, true, true, true, false]) (p1 := [true, true, true, true, true, true, true, true]) rfl rfl ?_
 refine At.region (by kernel_rfl) (by kernel_rfl) ?_
 refine In.run' 1 (k' := 1) rfl [(29, (.int .i64 (IntKind.wrap .i64 (Int.tmod p2 1099511627777))))] (by kernel_rfl) ?_
 obtain ⟨z31, hz32, H⟩ := bind_elim H
 refine In.step (k' := 2) rfl (by kernel_rfl) ?_
 refine Step.callF (f := 20) (fo := (.func 20)) (xs := #[(.tmp 29)]) (tys := #[2]) (first := #[]) (captured := #[]) (d := (some 30)) (k := 1) (by kernel_rfl) rfl (by kernel_rfl) (by kernel_rfl) Tryd.call20 (L_num_Decimal_walk  (IntKind.wrap .i64 (Int.tmod p2 1099511627777)) w27 (laid_below hL (SP.keeps hs30)) z31 hz32) ?_
 rintro e w33 ⟨rfl, hs34⟩
 refine ⟨_, rfl, ?_⟩
 have hs35 := SP.call hs30 hs34
 clear hs34
 have hs36 : SP [] w0 w33 [rowT 5 eU8 A13 c14 z9, rowT 5 eU8 A21 c22 z17] := hs35
 clear hs35
 refine In.run' 1 (k' := 3) rfl [(11, (.string ⟨List.toArray z31⟩))] (by kernel_rfl) ?_
 refine In.fin (by kernel_rfl) ?_
 refine At.seq (by kernel_rfl) (p0 := [true, true, true, true, true, true, true, true, false]) (p1 := [true, true, true, true, true, true, true, true, true]) rfl rfl ?_
 refine At.join (fun ρ w => ∃ (v39 : Bool), Known ρ [(5, (.bool z3)), (6, (.int .i64 (IntKind.wrap .i64 (Int.tmod p1 1099511627777)))), (7, (.int .i64 (IntKind.wrap .i64 (Int.tmod p2 1099511627777)))), (10, (.string ⟨List.toArray z25⟩)), (11, (.string ⟨List.toArray z31⟩)), (12, (.bool v39))] ∧ SP [] w0 w [] ∧ L_subwaylaw01_NumGreater_k1 p1 p2 z3 z25 z31 v39 = some r) ?_ ?_
 ·refine At.region (by kernel_rfl) (by kernel_rfl) ?_
  refine In.run' 6 (k' := 6) rfl [(31, (.string ⟨List.toArray z9⟩)), (32, (.int .i64 ((List.length z9 : Nat) : Int))), (33, (.string ⟨List.toArray z17⟩)), (34, (.int .i64 ((List.length z17 : Nat) : Int))), (35, (.bool (decide (((List.length z9 : Nat) : Int) < ((List.length z17 : Nat) : Int))))), (36, (.bool (decide (((List.length z9 : Nat) : Int) < ((List.length z17 : Nat) : Int)))))] (by kernel_rfl) ?_
  refine In.guard (t := 36) (b := (decide (((List.length z9 : Nat) : Int) < ((List.length z17 : Nat) : Int)))) (by kernel_rfl) (fun hb56 => ?_) (fun hb56 => ?_)
  ·have H := ct H hb56
   refine In.run' 12 (k' := 18) rfl [(37, undef), (38, undef), (39, undef), (40, undef), (41, undef), (42, undef), (43, undef), (44, undef), (45, undef), (46, undef), (47, (.bool true)), (12, (.bool true))] (by kernel_rfl) ?_
   refine In.fin (by kernel_rfl) ?_
   exact ⟨true, ⟨(by kernel_rfl), (by kernel_rfl), (by kernel_rfl), (by kernel_rfl), (by kernel_rfl), (by kernel_rfl), trivial⟩, SP.sel hs36 [] rfl rfl, H⟩
  ·have H := cf H hb56
   refine In.run' 6 (k' := 12) rfl [(37, (.string ⟨List.toArray z9⟩)), (38, (.int .i64 ((List.length z9 : Nat) : Int))), (39, (.string ⟨List.toArray z17⟩)), (40, (.int .i64 ((List.length z17 : Nat) : Int))), (41, (.bool (((List.length z9 : Nat) : Int) == ((List.length z17 : Nat) : Int)))), (42, (.bool (((List.length z9 : Nat) : Int) == ((List.length z17 : Nat) : Int))))] (by kernel_rfl) ?_
   refine In.guard (t := 42) (b := (((List.length z9 : Nat) : Int) == ((List.length z17 : Nat) : Int))) (by kernel_rfl) (fun hb57 => ?_) (fun hb57 => ?_)
   ·have H := ct H hb57
    refine In.run' 2 (k' := 14) rfl [(43, (.string ⟨List.toArray z9⟩)), (44, (.string ⟨List.toArray z17⟩))] (by kernel_rfl) ?_
    refine In.step (k' := 15) rfl (by kernel_rfl) ?_
    refine Step.strOp (op := .lss) (T := 9) (T' := 9) (x := (.tmp 43)) (y := (.tmp 44)) (a := z9) (b := z17) (r := (.bool (Op.bytesLess z9 z17))) (d := (some 45)) (k := 14) (by kernel_rfl) rfl (by kernel_rfl) (by kernel_rfl) rfl ?_
    refine In.run' 3 (k' := 18) rfl [(46, (.bool (Op.bytesLess z9 z17))), (47, (.bool (Op.bytesLess z9 z17))), (12, (.bool (Op.bytesLess z9 z17)))] (by kernel_rfl) ?_
    refine In.fin (by kernel_rfl) ?_
    exact ⟨(Op.bytesLess z9 z17), ⟨(by kernel_rfl), (by kernel_rfl), (by kernel_rfl), (by kernel_rfl), (by kernel_rfl), (by kernel_rfl), trivial⟩, SP.sel hs36 [] rfl rfl, H⟩
   ·have H := cf H hb57
    refine In.run' 6 (k' := 18) rfl [(43, undef), (44, undef), (45, undef), (46, (.bool false)), (47, (.bool false)), (12, (.bool false))] (by kernel_rfl) ?_
    refine In.fin (by kernel_rfl) ?_
    exact ⟨false, ⟨(by kernel_rfl), (by kernel_rfl), (by kernel_rfl), (by kernel_rfl), (by kernel_rfl), (by kernel_rfl), trivial⟩, SP.sel hs36 [] rfl rfl, H⟩
 ·rintro ρ w40 ⟨v39, hk, hs41, H⟩
  unfold L_subwaylaw01_NumGreater_k1 at H
  refine At.known [(5, (.bool z3)), (6, (.int .i64 (IntKind.wrap .i64 (Int.tmod p1 1099511627777)))), (7, (.int .i64 (IntKind.wrap .i64 (Int.tmod p2 1099511627777)))), (10, (.string ⟨List.toArray z25⟩)), (11, (.string ⟨List.toArray z31⟩)), (12, (.bool v39))] hk ?_
  refine At.seq (by kernel_rfl) (p0 := [true, true, true, true, true, true, true, true, true, false]) (p1 := [true, true, true, true, true, true, true, true, true, true]) rfl rfl ?_
  refine At.join (fun ρ w => ∃ (v44 : Bool), Known ρ [(5, (.bool z3)), (6, (.int .i64 (IntKind.wrap .i64 (Int.tmod p1 1099511627777)))), (7, (.int .i64 (IntKind.wrap .i64 (Int.tmod p2 1099511627777)))), (12, (.bool v39)), (13, (.bool v44))] ∧ SP [] w0 w [] ∧ L_subwaylaw01_NumGreater_k2 p1 p2 z3 v39 v44 = some r) ?_ ?_
  ·refine At.region (by kernel_rfl) (by kernel_rfl) ?_
   refine In.run' 6 (k' := 6) rfl [(48, (.string ⟨List.toArray z25⟩)), (49, (.int .i64 ((List.length z25 : Nat) : Int))), (50, (.string ⟨List.toArray z31⟩)), (51, (.int .i64 ((List.length z31 : Nat) : Int))), (52, (.bool (decide (((List.length z25 : Nat) : Int) < ((List.length z31 : Nat) : Int))))), (53, (.bool (decide (((List.length z25 : Nat) : Int) < ((List.length z31 : Nat) : Int)))))] (by kernel_rfl) ?_
   refine In.guard (t := 53) (b := (decide (((List.length z25 : Nat) : Int) < ((List.length z31 : Nat) : Int)))) (by kernel_rfl) (fun hb54 => ?_) (fun hb54 => ?_)
   ·have H := ct H hb54
    refine In.run' 12 (k' := 18) rfl [(54, undef), (55, undef), (56, undef), (57, undef), (58, undef), (59, undef), (60, undef), (61, undef), (62, undef), (63, undef), (64, (.bool true)), (13, (.bool true))] (by kernel_rfl) ?_
    refine In.fin (by kernel_rfl) ?_
    exact ⟨true, ⟨(by kernel_rfl), (by kernel_rfl), (by kernel_rfl), (by kernel_rfl), (by kernel_rfl), trivial⟩, SP.sel hs41 [] rfl rfl, H⟩
   ·have H := cf H hb54
    refine In.run' 6 (k' := 12) rfl [(54, (.string ⟨List.toArray z25⟩)), (55, (.int .i64 ((List.length z25 : Nat) : Int))), (56, (.string ⟨List.toArray z31⟩)), (57, (.int .i64 ((List.length z31 : Nat) : Int))), (58, (.bool (((List.length z25 : Nat) : Int) == ((List.length z31 : Nat) : Int)))), (59, (.bool (((List.length z25 : Nat) : Int) == ((List.length z31 : Nat) : Int))))] (by kernel_rfl) ?_
    refine In.guard (t := 59) (b := (((List.length z25 : Nat) : Int) == ((List.length z31 : Nat) : Int))) (by kernel_rfl) (fun hb55 => ?_) (fun hb55 => ?_)
    ·have H := ct H hb55
     refine In.run' 2 (k' := 14) rfl [(60, (.string ⟨List.toArray z25⟩)), (61, (.string ⟨List.toArray z31⟩))] (by kernel_rfl) ?_
     refine In.step (k' := 15) rfl (by kernel_rfl) ?_
     refine Step.strOp (op := .lss) (T := 9) (T' := 9) (x := (.tmp 60)) (y := (.tmp 61)) (a := z25) (b := z31) (r := (.bool (Op.bytesLess z25 z31))) (d := (some 62)) (k := 14) (by kernel_rfl) rfl (by kernel_rfl) (by kernel_rfl) rfl ?_
     refine In.run' 3 (k' := 18) rfl [(63, (.bool (Op.bytesLess z25 z31))), (64, (.bool (Op.bytesLess z25 z31))), (13, (.bool (Op.bytesLess z25 z31)))] (by kernel_rfl) ?_
     refine In.fin (by kernel_rfl) ?_
     exact ⟨(Op.bytesLess z25 z31), ⟨(by kernel_rfl), (by kernel_rfl), (by kernel_rfl), (by kernel_rfl), (by kernel_rfl), trivial⟩, SP.sel hs41 [] rfl rfl, H⟩
    ·have H := cf H hb55
     refine In.run' 6 (k' := 18) rfl [(60, undef), (61, undef), (62, undef), (63, (.bool false)), (64, (.bool false)), (13, (.bool false))] (by kernel_rfl) ?_
     refine In.fin (by kernel_rfl) ?_
     exact ⟨false, ⟨(by kernel_rfl), (by kernel_rfl), (by kernel_rfl), (by kernel_rfl), (by kernel_rfl), trivial⟩, SP.sel hs41 [] rfl rfl, H⟩
  ·rintro ρ w45 ⟨v44, hk, hs46, H⟩
   unfold L_subwaylaw01_NumGreater_k2 at H
   refine At.known [(5, (.bool z3)), (6, (.int .i64 (IntKind.wrap .i64 (Int.tmod p1 1099511627777)))), (7, (.int .i64 (IntKind.wrap .i64 (Int.tmod p2 1099511627777)))), (12, (.bool v39)), (13, (.bool v44))] hk ?_
   refine At.seq (by kernel_rfl) (p0 := [true, true, true, true, true, true, true, true, true, true, false]) (p1 := [true, true, true, true, true, true, true, true, true, true, true]) rfl rfl ?_
   refine At.join (fun ρ w => ∃ (v49 : Bool), Known ρ [(4, (.bool v49))] ∧ SP [] w0 w [] ∧ L_subwaylaw01_NumGreater_k3 v49 = some r) ?_ ?_
   ·refine At.region (by kernel_rfl) (by kernel_rfl) ?_
    refine In.run' 2 (k' := 2) rfl [(65, (.bool z3)), (66, (.bool z3))] (by kernel_rfl) ?_
    refine In.guard (t := 66) (b := z3) (by kernel_rfl) (fun hb52 => ?_) (fun hb52 => ?_)
    ·have H := ct H hb52
     refine In.run' 7 (k' := 9) rfl [(67, (.bool v39)), (68, (.int .i64 (IntKind.wrap .i64 (Int.tmod p1 1099511627777)))), (69, (.int .i64 (IntKind.wrap .i64 (Int.tmod p2 1099511627777)))), (70, (.bool (decide ((IntKind.wrap .i64 (Int.tmod p1 1099511627777)) < (IntKind.wrap .i64 (Int.tmod p2 1099511627777)))))), (71, (.bool (v39 == (decide ((IntKind.wrap .i64 (Int.tmod p1 1099511627777)) < (IntKind.wrap .i64 (Int.tmod p2 1099511627777))))))), (72, (.bool (v39 == (decide ((IntKind.wrap .i64 (Int.tmod p1 1099511627777)) < (IntKind.wrap .i64 (Int.tmod p2 1099511627777))))))), (73, (.bool (v39 == (decide ((IntKind.wrap .i64 (Int.tmod p1 1099511627777)) < (IntKind.wrap .i64 (Int.tmod p2 1099511627777)))))))] (by kernel_rfl) ?_
     refine In.guard (t := 73) (b := (v39 == (decide ((IntKind.wrap .i64 (Int.tmod p1 1099511627777)) < (IntKind.wrap .i64 (Int.tmod p2 1099511627777)))))) (by kernel_rfl) (fun hb53 => ?_) (fun hb53 => ?_)
     ·have H := ct H hb53
      refine In.run' 7 (k' := 16) rfl [(74, (.bool v44)), (75, (.int .i64 (IntKind.wrap .i64 (Int.tmod p1 1099511627777)))), (76, (.int .i64 (IntKind.wrap .i64 (Int.tmod p2 1099511627777)))), (77, (.bool (decide ((IntKind.wrap .i64 (Int.tmod p1 1099511627777)) < (IntKind.wrap .i64 (Int.tmod p2 1099511627777)))))), (78, (.bool (v44 == (decide ((IntKind.wrap .i64 (Int.tmod p1 1099511627777)) < (IntKind.wrap .i64 (Int.tmod p2 1099511627777))))))), (79, (.bool (v44 == (decide ((IntKind.wrap .i64 (Int.tmod p1 1099511627777)) < (IntKind.wrap .i64 (Int.tmod p2 1099511627777))))))), (4, (.bool (v44 == (decide ((IntKind.wrap .i64 (Int.tmod p1 1099511627777)) < (IntKind.wrap .i64 (Int.tmod p2 1099511627777)))))))] (by kernel_rfl) ?_
      refine In.fin (by kernel_rfl) ?_
      exact ⟨(v44 == (decide ((IntKind.wrap .i64 (Int.tmod p1 1099511627777)) < (IntKind.wrap .i64 (Int.tmod p2 1099511627777))))), ⟨(by kernel_rfl), trivial⟩, SP.sel hs46 [] rfl rfl, H⟩
     ·have H := cf H hb53
      refine In.run' 7 (k' := 16) rfl [(74, undef), (75, undef), (76, undef), (77, undef), (78, undef), (79, (.bool false)), (4, (.bool false))] (by kernel_rfl) ?_
      refine In.fin (by kernel_rfl) ?_
      exact ⟨false, ⟨(by kernel_rfl), trivial⟩, SP.sel hs46 [] rfl rfl, H⟩
    ·have H := cf H hb52
     refine In.run' 14 (k' := 16) rfl [(67, undef), (68, undef), (69, undef), (70, undef), (71, undef), (72, (.bool false)), (73, (.bool false)), (74, undef), (75, undef), (76, undef), (77, undef), (78, undef), (79, (.bool false)), (4, (.bool false))] (by kernel_rfl) ?_
     refine In.fin (by kernel_rfl) ?_
     exact ⟨false, ⟨(by kernel_rfl), trivial⟩, SP.sel hs46 [] rfl rfl, H⟩
   ·rintro ρ w50 ⟨v49, hk, hs51, H⟩
    unfold L_subwaylaw01_NumGreater_k3 at H
    refine At.known [(4, (.bool v49))] hk ?_
    refine At.ret (by kernel_rfl) ?_
    refine ⟨(.bool v49), by kernel_rfl, ?_⟩
    obtain rfl := some_elim H
    exact ⟨rfl, SP.sel hs51 [] rfl rfl⟩
end Go.Proofs.YtjpchjbbfbmjgaaDoor
