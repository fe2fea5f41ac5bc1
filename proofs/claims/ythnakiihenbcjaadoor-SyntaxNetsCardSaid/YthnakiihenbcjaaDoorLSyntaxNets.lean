/- LIFTED BY PROGRAM (tools/lift.py): what functions compute, and that they do. -/
import Derived.Test.YthnakiihenbcjaaDoorLSH
namespace Go.Proofs.YthnakiihenbcjaaDoor
set_option linter.unusedSimpArgs false
set_option linter.unusedVariables false
open Go.RowKit

/-! L_subwaylaw04_SyntaxNets -/
def L_subwaylaw04_SyntaxNets_k2 (v507 : Bool) : Option (Bool) :=
  (some (v507))
def L_subwaylaw04_SyntaxNets_k1 (p1 : Int) (p2 : Int) (z5 : (Bool)) (v51 : Int) (v52 : Int) (v53 : Int) (v54 : Int) : Option (Bool) :=
  ((L_syntax_In v51 v52 v53).bind fun z57 => (cond z5 ((L_syntax_In v51 v52 v51).bind fun z511 => (cond z511 ((L_syntax_In v53 v54 v53).bind fun z518 => (cond z518 (cond z57 (cond z57 (cond (!z57) (L_subwaylaw04_SyntaxNets_k2 true) ((L_syntax_In v53 v54 p1).bind fun z528 => (cond (!z528) ((L_syntax_In v53 v54 p2).bind fun z535 => (cond (!z535) (L_subwaylaw04_SyntaxNets_k2 true) ((L_syntax_In v51 v52 p2).bind fun z542 => (L_subwaylaw04_SyntaxNets_k2 z542)))) ((L_syntax_In v51 v52 p1).bind fun z548 => (cond z548 ((L_syntax_In v53 v54 p2).bind fun z555 => (cond (!z555) (L_subwaylaw04_SyntaxNets_k2 true) ((L_syntax_In v51 v52 p2).bind fun z562 => (L_subwaylaw04_SyntaxNets_k2 z562)))) (L_subwaylaw04_SyntaxNets_k2 false)))))) ((L_syntax_In v51 v52 p2).bind fun z568 => (cond (!z568) (cond (!z57) (L_subwaylaw04_SyntaxNets_k2 true) ((L_syntax_In v53 v54 p1).bind fun z576 => (cond (!z576) ((L_syntax_In v53 v54 p2).bind fun z583 => (cond (!z583) (L_subwaylaw04_SyntaxNets_k2 true) ((L_syntax_In v51 v52 p2).bind fun z590 => (L_subwaylaw04_SyntaxNets_k2 z590)))) ((L_syntax_In v51 v52 p1).bind fun z596 => (cond z596 ((L_syntax_In v53 v54 p2).bind fun z603 => (cond (!z603) (L_subwaylaw04_SyntaxNets_k2 true) ((L_syntax_In v51 v52 p2).bind fun z610 => (L_subwaylaw04_SyntaxNets_k2 z610)))) (L_subwaylaw04_SyntaxNets_k2 false)))))) ((L_syntax_In v53 v54 p2).bind fun z616 => (cond (!z616) (cond (!z57) (L_subwaylaw04_SyntaxNets_k2 true) ((L_syntax_In v53 v54 p1).bind fun z624 => (cond (!z624) ((L_syntax_In v53 v54 p2).bind fun z631 => (cond (!z631) (L_subwaylaw04_SyntaxNets_k2 true) ((L_syntax_In v51 v52 p2).bind fun z638 => (L_subwaylaw04_SyntaxNets_k2 z638)))) ((L_syntax_In v51 v52 p1).bind fun z644 => (cond z644 ((L_syntax_In v53 v54 p2).bind fun z651 => (cond (!z651) (L_subwaylaw04_SyntaxNets_k2 true) ((L_syntax_In v51 v52 p2).bind fun z658 => (L_subwaylaw04_SyntaxNets_k2 z658)))) (L_subwaylaw04_SyntaxNets_k2 false)))))) (L_subwaylaw04_SyntaxNets_k2 false)))))) ((L_syntax_In v51 v52 p1).bind fun z664 => (cond (!z664) (cond z57 (cond (!z57) (L_subwaylaw04_SyntaxNets_k2 true) ((L_syntax_In v53 v54 p1).bind fun z673 => (cond (!z673) ((L_syntax_In v53 v54 p2).bind fun z680 => (cond (!z680) (L_subwaylaw04_SyntaxNets_k2 true) ((L_syntax_In v51 v52 p2).bind fun z687 => (L_subwaylaw04_SyntaxNets_k2 z687)))) ((L_syntax_In v51 v52 p1).bind fun z693 => (cond z693 ((L_syntax_In v53 v54 p2).bind fun z700 => (cond (!z700) (L_subwaylaw04_SyntaxNets_k2 true) ((L_syntax_In v51 v52 p2).bind fun z707 => (L_subwaylaw04_SyntaxNets_k2 z707)))) (L_subwaylaw04_SyntaxNets_k2 false)))))) ((L_syntax_In v51 v52 p2).bind fun z713 => (cond (!z713) (cond (!z57) (L_subwaylaw04_SyntaxNets_k2 true) ((L_syntax_In v53 v54 p1).bind fun z721 => (cond (!z721) ((L_syntax_In v53 v54 p2).bind fun z728 => (cond (!z728) (L_subwaylaw04_SyntaxNets_k2 true) ((L_syntax_In v51 v52 p2).bind fun z735 => (L_subwaylaw04_SyntaxNets_k2 z735)))) ((L_syntax_In v51 v52 p1).bind fun z741 => (cond z741 ((L_syntax_In v53 v54 p2).bind fun z748 => (cond (!z748) (L_subwaylaw04_SyntaxNets_k2 true) ((L_syntax_In v51 v52 p2).bind fun z755 => (L_subwaylaw04_SyntaxNets_k2 z755)))) (L_subwaylaw04_SyntaxNets_k2 false)))))) ((L_syntax_In v53 v54 p2).bind fun z761 => (cond (!z761) (cond (!z57) (L_subwaylaw04_SyntaxNets_k2 true) ((L_syntax_In v53 v54 p1).bind fun z769 => (cond (!z769) ((L_syntax_In v53 v54 p2).bind fun z776 => (cond (!z776) (L_subwaylaw04_SyntaxNets_k2 true) ((L_syntax_In v51 v52 p2).bind fun z783 => (L_subwaylaw04_SyntaxNets_k2 z783)))) ((L_syntax_In v51 v52 p1).bind fun z789 => (cond z789 ((L_syntax_In v53 v54 p2).bind fun z796 => (cond (!z796) (L_subwaylaw04_SyntaxNets_k2 true) ((L_syntax_In v51 v52 p2).bind fun z803 => (L_subwaylaw04_SyntaxNets_k2 z803)))) (L_subwaylaw04_SyntaxNets_k2 false)))))) (L_subwaylaw04_SyntaxNets_k2 false)))))) ((L_syntax_In v53 v54 p1).bind fun z809 => (cond (!z809) (cond z57 (cond (!z57) (L_subwaylaw04_SyntaxNets_k2 true) ((L_syntax_In v53 v54 p1).bind fun z818 => (cond (!z818) ((L_syntax_In v53 v54 p2).bind fun z825 => (cond (!z825) (L_subwaylaw04_SyntaxNets_k2 true) ((L_syntax_In v51 v52 p2).bind fun z832 => (L_subwaylaw04_SyntaxNets_k2 z832)))) ((L_syntax_In v51 v52 p1).bind fun z838 => (cond z838 ((L_syntax_In v53 v54 p2).bind fun z845 => (cond (!z845) (L_subwaylaw04_SyntaxNets_k2 true) ((L_syntax_In v51 v52 p2).bind fun z852 => (L_subwaylaw04_SyntaxNets_k2 z852)))) (L_subwaylaw04_SyntaxNets_k2 false)))))) ((L_syntax_In v51 v52 p2).bind fun z858 => (cond (!z858) (cond (!z57) (L_subwaylaw04_SyntaxNets_k2 true) ((L_syntax_In v53 v54 p1).bind fun z866 => (cond (!z866) ((L_syntax_In v53 v54 p2).bind fun z873 => (cond (!z873) (L_subwaylaw04_SyntaxNets_k2 true) ((L_syntax_In v51 v52 p2).bind fun z880 => (L_subwaylaw04_SyntaxNets_k2 z880)))) ((L_syntax_In v51 v52 p1).bind fun z886 => (cond z886 ((L_syntax_In v53 v54 p2).bind fun z893 => (cond (!z893) (L_subwaylaw04_SyntaxNets_k2 true) ((L_syntax_In v51 v52 p2).bind fun z900 => (L_subwaylaw04_SyntaxNets_k2 z900)))) (L_subwaylaw04_SyntaxNets_k2 false)))))) ((L_syntax_In v53 v54 p2).bind fun z906 => (cond (!z906) (cond (!z57) (L_subwaylaw04_SyntaxNets_k2 true) ((L_syntax_In v53 v54 p1).bind fun z914 => (cond (!z914) ((L_syntax_In v53 v54 p2).bind fun z921 => (cond (!z921) (L_subwaylaw04_SyntaxNets_k2 true) ((L_syntax_In v51 v52 p2).bind fun z928 => (L_subwaylaw04_SyntaxNets_k2 z928)))) ((L_syntax_In v51 v52 p1).bind fun z934 => (cond z934 ((L_syntax_In v53 v54 p2).bind fun z941 => (cond (!z941) (L_subwaylaw04_SyntaxNets_k2 true) ((L_syntax_In v51 v52 p2).bind fun z948 => (L_subwaylaw04_SyntaxNets_k2 z948)))) (L_subwaylaw04_SyntaxNets_k2 false)))))) (L_subwaylaw04_SyntaxNets_k2 false)))))) (L_subwaylaw04_SyntaxNets_k2 false)))))) (L_subwaylaw04_SyntaxNets_k2 false))) (L_subwaylaw04_SyntaxNets_k2 false))) (L_subwaylaw04_SyntaxNets_k2 false)))
def L_subwaylaw04_SyntaxNets (p1 : Int) (p2 : Int) (p3 : UInt8) (p4 : UInt8) : Option (Bool) :=
  ((L_subwaylaw04_head ).bind fun z5 => ((L_subwaylaw04_net p1 (IntKind.wrap .i64 (Int.tmod ((p3).toNat : Int) 33))).bind fun z11 => ((L_subwaylaw04_net p2 (IntKind.wrap .i64 (Int.tmod ((p4).toNat : Int) 33))).bind fun z24 => (cond (decide (z11.2 > z24.2)) (L_subwaylaw04_SyntaxNets_k1 p1 p2 z5 z24.1 z24.2 z11.1 z11.2) (L_subwaylaw04_SyntaxNets_k1 p1 p2 z5 z11.1 z11.2 z24.1 z24.2)))))
set_option maxRecDepth 100000 in
set_option maxHeartbeats 4000000 in
theorem L_subwaylaw04_SyntaxNets_walk  (p1 : Int) (p2 : Int) (p3 : UInt8) (p4 : UInt8) (w0 : World) (hL : LaidW w0)  (r : (Bool)) (H : L_subwaylaw04_SyntaxNets p1 p2 p3 p4 = some r) :
  Calls Tryd.prog 5 #[(.int .u32 p1), (.int .u32 p2), (.int .u8 ((p3).toNat : Int)), (.int .u8 ((p4).toNat : Int))] w0 (fun e w' => e = .returned (.bool r) ∧ SP [] w0 w' []) := by
 unfold L_subwaylaw04_SyntaxNets at H
 refine calls_start (n := 106) Tryd.func5 (by kernel_rfl) (by kernel_rfl) (by kernel_rfl) ?_
 have hs0 := SP.start [] w0
 refine At.seq (by kernel_rfl) (p0 := [false]) (p1 := [true]) rfl rfl ?_
 refine At.region (by kernel_rfl) (by kernel_rfl) ?_
 refine In.run' 1 (k' := 1) rfl [(8, (.bool false))] (by kernel_rfl) ?_
 refine In.fin (by kernel_rfl) ?_
 refine At.seq (by kernel_rfl) (p0 := [true, false]) (p1 := [true, true]) rfl rfl ?_
 refine At.region (by kernel_rfl) (by kernel_rfl) ?_
 obtain ⟨z5, hz6, H⟩ := bind_elim H
 refine In.step (k' := 1) rfl (by kernel_rfl) ?_
 refine Step.callF (f := 10) (fo := (.func 10)) (xs := #[]) (tys := #[]) (first := #[]) (captured := #[]) (d := (some 14)) (k := 0) (by kernel_rfl) rfl (by kernel_rfl) (by kernel_rfl) Tryd.call10 (L_subwaylaw04_head_walk   w0 (laid_below hL (SP.keeps hs0)) z5 hz6) ?_
 rintro e w7 ⟨rfl, hs8⟩
 refine ⟨_, rfl, ?_⟩
 have hs9 := SP.call hs0 hs8
 clear hs8
 have hs10 : SP [] w0 w7 [] := hs9
 clear hs9
 refine In.run' 1 (k' := 2) rfl [(9, (.bool z5))] (by kernel_rfl) ?_
 refine In.fin (by kernel_rfl) ?_
 refine At.seq (by kernel_rfl) (p0 := [true, true, false]) (p1 := [true, true, true]) rfl rfl ?_
 refine At.region (by kernel_rfl) (by kernel_rfl) ?_
 refine In.run' 4 (k' := 4) rfl [(15, (.int .u32 p1)), (16, (.int .u8 ((p3).toNat : Int))), (17, (.int .u8 (Int.tmod ((p3).toNat : Int) 33))), (18, (.int .i64 (IntKind.wrap .i64 (Int.tmod ((p3).toNat : Int) 33))))] (by kernel_rfl) ?_
 obtain ⟨z11, hz12, H⟩ := bind_elim H
 refine In.step (k' := 5) rfl (by kernel_rfl) ?_
 refine Step.callF (f := 23) (fo := (.func 23)) (xs := #[(.tmp 15), (.tmp 18)]) (tys := #[22, 3]) (first := #[]) (captured := #[]) (d := (some 19)) (k := 4) (by kernel_rfl) rfl (by kernel_rfl) (by kernel_rfl) Tryd.call23 (L_subwaylaw04_net_walk  p1 (IntKind.wrap .i64 (Int.tmod ((p3).toNat : Int) 33)) w7  z11 hz12) ?_
 rintro e w13 ⟨rfl, hs14⟩
 refine ⟨_, rfl, ?_⟩
 have hs15 := SP.call hs10 hs14
 clear hs14
 have hs16 : SP [] w0 w13 [] := hs15
 clear hs15
 refine In.step (k' := 6) rfl (by kernel_rfl) ?_
 refine Step.alloc (t := 24) (z := (.agg #[(.int .u32 0), (.int .i64 0)])) (d := (some 10)) (k := 5) (by kernel_rfl) rfl (by kernel_rfl) hs16 ?_
 intro g17 w18 hs19
 have hs20 : SP [] w0 w18 [boxE g17 24 #[(.int .u32 0), (.int .i64 0)]] := hs19
 clear hs19
 refine In.step (k' := 7) rfl (by kernel_rfl) ?_
 refine Step.store (t := 24) (x := (.tmp 10)) (y := (.tmp 19)) (g := g17) (off := 0) (i := 0) (v := (.agg #[(.int .u32 z11.1), (.int .i64 z11.2)])) (cs' := #[(.int .u32 z11.1), (.int .i64 z11.2)]) (d := none) (k := 6) (by kernel_rfl) rfl (by kernel_rfl) (by kernel_rfl) hs20 rfl (by kernel_rfl) ?_
 intro w21 hs22
 have hs23 : SP [] w0 w21 [boxE g17 24 #[(.int .u32 z11.1), (.int .i64 z11.2)]] := hs22
 clear hs22
 refine In.fin (by kernel_rfl) ?_
 refine At.seq (by kernel_rfl) (p0 := [true, true, true, false]) (p1 := [true, true, true, true]) rfl rfl ?_
 refine At.region (by kernel_rfl) (by kernel_rfl) ?_
 refine In.run' 4 (k' := 4) rfl [(20, (.int .u32 p2)), (21, (.int .u8 ((p4).toNat : Int))), (22, (.int .u8 (Int.tmod ((p4).toNat : Int) 33))), (23, (.int .i64 (IntKind.wrap .i64 (Int.tmod ((p4).toNat : Int) 33))))] (by kernel_rfl) ?_
 obtain ⟨z24, hz25, H⟩ := bind_elim H
 refine In.step (k' := 5) rfl (by kernel_rfl) ?_
 refine Step.callF (f := 23) (fo := (.func 23)) (xs := #[(.tmp 20), (.tmp 23)]) (tys := #[22, 3]) (first := #[]) (captured := #[]) (d := (some 24)) (k := 4) (by kernel_rfl) rfl (by kernel_rfl) (by kernel_rfl) Tryd.call23 (L_subwaylaw04_net_walk  p2 (IntKind.wrap .i64 (Int.tmod ((p4).toNat : Int) 33)) w21  z24 hz25) ?_
 rintro e w26 ⟨rfl, hs27⟩
 refine ⟨_, rfl, ?_⟩
 have hs28 := SP.call hs23 hs27
 clear hs27
 have hs29 : SP [] w0 w26 [boxE g17 24 #[(.int .u32 z11.1), (.int .i64 z11.2)]] := hs28
 clear hs28
 refine In.step (k' := 6) rfl (by kernel_rfl) ?_
 refine Step.alloc (t := 24) (z := (.agg #[(.int .u32 0), (.int .i64 0)])) (d := (some 11)) (k := 5) (by kernel_rfl) rfl (by kernel_rfl) hs29 ?_
 intro g30 w31 hs32
 have hs33 : SP [] w0 w31 [boxE g17 24 #[(.int .u32 z11.1), (.int .i64 z11.2)], boxE g30 24 #[(.int .u32 0), (.int .i64 0)]] := hs32
 clear hs32
 refine In.step (k' := 7) rfl (by kernel_rfl) ?_
 refine Step.store (t := 24) (x := (.tmp 11)) (y := (.tmp 24)) (g := g30) (off := 0) (i := 1) (v := (.agg #[(.int .u32 z24.1), (.int .i64 z24.2)])) (cs' := #[(.int .u32 z24.1), (.int .i64 z24.2)]) (d := none) (k := 6) (by kernel_rfl) rfl (by kernel_rfl) (by kernel_rfl) hs33 rfl (by kernel_rfl) ?_
 intro w34 hs35
 have hs36 : SP [] w0 w34 [boxE g17 24 #[(.int .u32 z11.1), (.int .i64 z11.2)], boxE g30 24 #[(.int .u32 z24.1), (.int .i64 z24.2)]] := hs35
 clear hs35
 refine In.fin (by kernel_rfl) ?_
 refine At.seq (by kernel_rfl) (p0 := [true, true, true, true, false]) (p1 := [true, true, true, true, true]) rfl rfl ?_
 refine At.seq (by kernel_rfl) (p0 := [true, true, true, true, false, false]) (p1 := [true, true, true, true, false, true]) rfl rfl ?_
 refine At.region (by kernel_rfl) (by kernel_rfl) ?_
 refine In.run' 1 (k' := 1) rfl [(25, (.pointer (some ⟨g17, 1, none⟩)))] (by kernel_rfl) ?_
 refine In.step (k' := 2) rfl (by kernel_rfl) ?_
 refine Step.load (t := 3) (x := (.tmp 25)) (g := g17) (off := 1) (i := 0) (v := (.int .i64 z11.2)) (d := (some 26)) (k := 1) (by kernel_rfl) rfl (by kernel_rfl) hs36 rfl (by kernel_rfl) ?_
 refine In.run' 1 (k' := 3) rfl [(27, (.pointer (some ⟨g30, 1, none⟩)))] (by kernel_rfl) ?_
 refine In.step (k' := 4) rfl (by kernel_rfl) ?_
 refine Step.load (t := 3) (x := (.tmp 27)) (g := g30) (off := 1) (i := 1) (v := (.int .i64 z24.2)) (d := (some 28)) (k := 3) (by kernel_rfl) rfl (by kernel_rfl) hs36 rfl (by kernel_rfl) ?_
 refine In.run' 1 (k' := 5) rfl [(29, (.bool (decide (z11.2 > z24.2))))] (by kernel_rfl) ?_
 refine In.fin (by kernel_rfl) ?_
 refine At.join (fun ρ w => ∃ (v51 : Int) (v52 : Int) (v53 : Int) (v54 : Int), Known ρ [(0, (.int .u32 p1)), (1, (.int .u32 p2)), (9, (.bool z5)), (10, (.pointer (some ⟨g17, 0, none⟩))), (11, (.pointer (some ⟨g30, 0, none⟩)))] ∧ SP [] w0 w [boxE g17 24 #[(.int .u32 v51), (.int .i64 v52)], boxE g30 24 #[(.int .u32 v53), (.int .i64 v54)]] ∧ L_subwaylaw04_SyntaxNets_k1 p1 p2 z5 v51 v52 v53 v54 = some r) ?_ ?_
 ·refine At.cond (by kernel_rfl) (o := (.tmp 29)) (by kernel_rfl) (b := (decide (z11.2 > z24.2))) (by kernel_rfl) (p0 := [true, true, true, true, false, true, false]) (p1 := [true, true, true, true, false, true, true]) rfl rfl (fun hb954 => ?_) (fun hb954 => ?_)
  ·have H := ct H hb954
   refine At.seq (by kernel_rfl) (p0 := [true, true, true, true, false, true, false, false]) (p1 := [true, true, true, true, false, true, false, true]) rfl rfl ?_
   refine At.region (by kernel_rfl) (by kernel_rfl) ?_
   refine In.step (k' := 1) rfl (by kernel_rfl) ?_
   refine Step.load (t := 24) (x := (.tmp 10)) (g := g17) (off := 0) (i := 0) (v := (.agg #[(.int .u32 z11.1), (.int .i64 z11.2)])) (d := (some 30)) (k := 0) (by kernel_rfl) rfl (by kernel_rfl) hs36 rfl (by kernel_rfl) ?_
   refine In.step (k' := 2) rfl (by kernel_rfl) ?_
   refine Step.alloc (t := 24) (z := (.agg #[(.int .u32 0), (.int .i64 0)])) (d := (some 12)) (k := 1) (by kernel_rfl) rfl (by kernel_rfl) hs36 ?_
   intro g955 w956 hs957
   have hs958 : SP [] w0 w956 [boxE g17 24 #[(.int .u32 z11.1), (.int .i64 z11.2)], boxE g30 24 #[(.int .u32 z24.1), (.int .i64 z24.2)], boxE g955 24 #[(.int .u32 0), (.int .i64 0)]] := hs957
   clear hs957
   refine In.step (k' := 3) rfl (by kernel_rfl) ?_
   refine Step.store (t := 24) (x := (.tmp 12)) (y := (.tmp 30)) (g := g955) (off := 0) (i := 2) (v := (.agg #[(.int .u32 z11.1), (.int .i64 z11.2)])) (cs' := #[(.int .u32 z11.1), (.int .i64 z11.2)]) (d := none) (k := 2) (by kernel_rfl) rfl (by kernel_rfl) (by kernel_rfl) hs958 rfl (by kernel_rfl) ?_
   intro w959 hs960
   have hs961 : SP [] w0 w959 [boxE g17 24 #[(.int .u32 z11.1), (.int .i64 z11.2)], boxE g30 24 #[(.int .u32 z24.1), (.int .i64 z24.2)], boxE g955 24 #[(.int .u32 z11.1), (.int .i64 z11.2)]] := hs960
   clear hs960
   refine In.fin (by kernel_rfl) ?_
   refine At.seq (by kernel_rfl) (p0 := [true, true, true, true, false, true, false, true, false]) (p1 := [true, true, true, true, false, true, false, true, true]) rfl rfl ?_
   refine At.region (by kernel_rfl) (by kernel_rfl) ?_
   refine In.step (k' := 1) rfl (by kernel_rfl) ?_
   refine Step.load (t := 24) (x := (.tmp 11)) (g := g30) (off := 0) (i := 1) (v := (.agg #[(.int .u32 z24.1), (.int .i64 z24.2)])) (d := (some 31)) (k := 0) (by kernel_rfl) rfl (by kernel_rfl) hs961 rfl (by kernel_rfl) ?_
   refine In.step (k' := 2) rfl (by kernel_rfl) ?_
   refine Step.store (t := 24) (x := (.tmp 10)) (y := (.tmp 31)) (g := g17) (off := 0) (i := 0) (v := (.agg #[(.int .u32 z24.1), (.int .i64 z24.2)])) (cs' := #[(.int .u32 z24.1), (.int .i64 z24.2)]) (d := none) (k := 1) (by kernel_rfl) rfl (by kernel_rfl) (by kernel_rfl) hs961 rfl (by kernel_rfl) ?_
   intro w962 hs963
   have hs964 : SP [] w0 w962 [boxE g17 24 #[(.int .u32 z24.1), (.int .i64 z24.2)], boxE g30 24 #[(.int .u32 z24.1), (.int .i64 z24.2)], boxE g955 24 #[(.int .u32 z11.1), (.int .i64 z11.2)]] := hs963
   clear hs963
   refine In.fin (by kernel_rfl) ?_
   refine At.region (by kernel_rfl) (by kernel_rfl) ?_
   refine In.step (k' := 1) rfl (by kernel_rfl) ?_
   refine Step.load (t := 24) (x := (.tmp 12)) (g := g955) (off := 0) (i := 2) (v := (.agg #[(.int .u32 z11.1), (.int .i64 z11.2)])) (d := (some 32)) (k := 0) (by kernel_rfl) rfl (by kernel_rfl) hs964 rfl (by kernel_rfl) ?_
   refine In.step (k' := 2) rfl (by kernel_rfl) ?_
   refine Step.store (t := 24) (x := (.tmp 11)) (y := (.tmp 32)) (g := g30) (off := 0) (i := 1) (v := (.agg #[(.int .u32 z11.1), (.int .i64 z11.2)])) (cs' := #[(.int .u32 z11.1), (.int .i64 z11.2)]) (d := none) (k := 1) (by kernel_rfl) rfl (by kernel_rfl) (by kernel_rfl) hs964 rfl (by kernel_rfl) ?_
   intro w965 hs966
   have hs967 : SP [] w0 w965 [boxE g17 24 #[(.int .u32 z24.1), (.int .i64 z24.2)], boxE g30 24 #[(.int .u32 z11.1), (.int .i64 z11.2)], boxE g955 24 #[(.int .u32 z11.1), (.int .i64 z11.2)]] := hs966
   clear hs966
   refine In.fin (by kernel_rfl) ?_
   exact ⟨z24.1, z24.2, z11.1, z11.2, ⟨(by kernel_rfl), (by kernel_rfl), (by kernel_rfl), (by kernel_rfl), (by kernel_rfl), trivial⟩, SP.sel hs967 [0, 1] rfl rfl, H⟩
  ·have H := cf H hb954
   refine At.skip (by kernel_rfl) ?_
   exact ⟨z11.1, z11.2, z24.1, z24.2, ⟨(by kernel_rfl), (by kernel_rfl), (by kernel_rfl), (by kernel_rfl), (by kernel_rfl), trivial⟩, SP.sel hs36 [0, 1] rfl rfl, H⟩
 ·rintro ρ w55 ⟨v51, v52, v53, v54, hk, hs56, H⟩
  unfold L_subwaylaw04_SyntaxNets_k1 at H
  refine At.known [(0, (.int .u32 p1)), (1, (.int .u32 p2)), (9, (.bool z5)), (10, (.pointer (some ⟨g17, 0, none⟩))), (11, (.pointer (some ⟨g30, 0, none⟩)))] hk ?_
  refine At.seq (by kernel_rfl) (p0 := [true, true, true, true, true, false]) (p1 := [true, true, true, true, true, true]) rfl rfl ?_
  refine At.region (by kernel_rfl) (by kernel_rfl) ?_
  refine In.step (k' := 1) rfl (by kernel_rfl) ?_
  refine Step.load (t := 24) (x := (.tmp 10)) (g := g17) (off := 0) (i := 0) (v := (.agg #[(.int .u32 v51), (.int .i64 v52)])) (d := (some 33)) (k := 0) (by kernel_rfl) rfl (by kernel_rfl) hs56 rfl (by kernel_rfl) ?_
  refine In.run' 1 (k' := 2) rfl [(34, (.pointer (some ⟨g30, 0, none⟩)))] (by kernel_rfl) ?_
  refine In.step (k' := 3) rfl (by kernel_rfl) ?_
  refine Step.load (t := 22) (x := (.tmp 34)) (g := g30) (off := 0) (i := 1) (v := (.int .u32 v53)) (d := (some 35)) (k := 2) (by kernel_rfl) rfl (by kernel_rfl) hs56 rfl (by kernel_rfl) ?_
  obtain ⟨z57, hz58, H⟩ := bind_elim H
  refine In.step (k' := 4) rfl (by kernel_rfl) ?_
  refine Step.callF (f := 21) (fo := (.func 21)) (xs := #[(.tmp 33), (.tmp 35)]) (tys := #[24, 22]) (first := #[]) (captured := #[]) (d := (some 36)) (k := 3) (by kernel_rfl) rfl (by kernel_rfl) (by kernel_rfl) Tryd.call21 (L_syntax_In_walk  v51 v52 v53 w55  z57 hz58) ?_
  rintro e w59 ⟨rfl, hs60⟩
  refine ⟨_, rfl, ?_⟩
  have hs61 := SP.call hs56 hs60
  clear hs60
  have hs62 : SP [] w0 w59 [boxE g17 24 #[(.int .u32 v51), (.int .i64 v52)], boxE g30 24 #[(.int .u32 v53), (.int .i64 v54)]] := hs61
  clear hs61
  refine In.run' 1 (k' := 5) rfl [(13, (.bool z57))] (by kernel_rfl) ?_
  refine In.fin (by kernel_rfl) ?_
  refine At.seq (by kernel_rfl) (p0 := [true, true, true, true, true, true, false]) (p1 := [true, true, true, true, true, true, true]) rfl rfl ?_
  refine At.join (fun ρ w => ∃ (v507 : Bool), Known ρ [(8, (.bool v507))] ∧ SP [] w0 w [] ∧ L_subwaylaw04_SyntaxNets_k2 v507 = some r) ?_ ?_
  ·refine At.region (by kernel_rfl) (by kernel_rfl) ?_
   refine In.run' 2 (k' := 2) rfl [(37, (.bool z5)), (38, (.bool z5))] (by kernel_rfl) ?_
   refine In.guard (t := 38) (b := z5) (by kernel_rfl) (fun hb510 => ?_) (fun hb510 => ?_)
   ·have H := ct H hb510
    refine In.step (k' := 3) rfl (by kernel_rfl) ?_
    refine Step.load (t := 24) (x := (.tmp 10)) (g := g17) (off := 0) (i := 0) (v := (.agg #[(.int .u32 v51), (.int .i64 v52)])) (d := (some 39)) (k := 2) (by kernel_rfl) rfl (by kernel_rfl) hs62 rfl (by kernel_rfl) ?_
    refine In.run' 1 (k' := 4) rfl [(40, (.pointer (some ⟨g17, 0, none⟩)))] (by kernel_rfl) ?_
    refine In.step (k' := 5) rfl (by kernel_rfl) ?_
    refine Step.load (t := 22) (x := (.tmp 40)) (g := g17) (off := 0) (i := 0) (v := (.int .u32 v51)) (d := (some 41)) (k := 4) (by kernel_rfl) rfl (by kernel_rfl) hs62 rfl (by kernel_rfl) ?_
    obtain ⟨z511, hz512, H⟩ := bind_elim H
    refine In.step (k' := 6) rfl (by kernel_rfl) ?_
    refine Step.callF (f := 21) (fo := (.func 21)) (xs := #[(.tmp 39), (.tmp 41)]) (tys := #[24, 22]) (first := #[]) (captured := #[]) (d := (some 42)) (k := 5) (by kernel_rfl) rfl (by kernel_rfl) (by kernel_rfl) Tryd.call21 (L_syntax_In_walk  v51 v52 v51 w59  z511 hz512) ?_
    rintro e w513 ⟨rfl, hs514⟩
    refine ⟨_, rfl, ?_⟩
    have hs515 := SP.call hs62 hs514
    clear hs514
    have hs516 : SP [] w0 w513 [boxE g17 24 #[(.int .u32 v51), (.int .i64 v52)], boxE g30 24 #[(.int .u32 v53), (.int .i64 v54)]] := hs515
    clear hs515
    refine In.run' 2 (k' := 8) rfl [(43, (.bool z511)), (44, (.bool z511))] (by kernel_rfl) ?_
    refine In.guard (t := 44) (b := z511) (by kernel_rfl) (fun hb517 => ?_) (fun hb517 => ?_)
    ·have H := ct H hb517
     refine In.step (k' := 9) rfl (by kernel_rfl) ?_
     refine Step.load (t := 24) (x := (.tmp 11)) (g := g30) (off := 0) (i := 1) (v := (.agg #[(.int .u32 v53), (.int .i64 v54)])) (d := (some 45)) (k := 8) (by kernel_rfl) rfl (by kernel_rfl) hs516 rfl (by kernel_rfl) ?_
     refine In.run' 1 (k' := 10) rfl [(46, (.pointer (some ⟨g30, 0, none⟩)))] (by kernel_rfl) ?_
     refine In.step (k' := 11) rfl (by kernel_rfl) ?_
     refine Step.load (t := 22) (x := (.tmp 46)) (g := g30) (off := 0) (i := 1) (v := (.int .u32 v53)) (d := (some 47)) (k := 10) (by kernel_rfl) rfl (by kernel_rfl) hs516 rfl (by kernel_rfl) ?_
     obtain ⟨z518, hz519, H⟩ := bind_elim H
     refine In.step (k' := 12) rfl (by kernel_rfl) ?_
     refine Step.callF (f := 21) (fo := (.func 21)) (xs := #[(.tmp 45), (.tmp 47)]) (tys := #[24, 22]) (first := #[]) (captured := #[]) (d := (some 48)) (k := 11) (by kernel_rfl) rfl (by kernel_rfl) (by kernel_rfl) Tryd.call21 (L_syntax_In_walk  v53 v54 v53 w513  z518 hz519) ?_
     rintro e w520 ⟨rfl, hs521⟩
     refine ⟨_, rfl, ?_⟩
     have hs522 := SP.call hs516 hs521
     clear hs521
     have hs523 : SP [] w0 w520 [boxE g17 24 #[(.int .u32 v51), (.int .i64 v52)], boxE g30 24 #[(.int .u32 v53), (.int .i64 v54)]] := hs522
     clear hs522
     refine In.run' 2 (k' := 14) rfl [(49, (.bool z518)), (50, (.bool z518))] (by kernel_rfl) ?_
     refine In.guard (t := 50) (b := z518) (by kernel_rfl) (fun hb524 => ?_) (fun hb524 => ?_)
     ·have H := ct H hb524
      refine In.run' 2 (k' := 16) rfl [(51, (.bool z57)), (52, (.bool z57))] (by kernel_rfl) ?_
      refine In.guard (t := 52) (b := z57) (by kernel_rfl) (fun hb525 => ?_) (fun hb525 => ?_)
      ·have H := ct H hb525
       refine In.run' 15 (k' := 31) rfl [(53, undef), (54, undef), (55, undef), (56, undef), (57, (.bool true)), (58, (.bool true)), (59, undef), (60, undef), (61, undef), (62, undef), (63, (.bool true)), (64, (.bool true)), (65, (.bool true)), (66, (.bool z57)), (67, (.bool z57))] (by kernel_rfl) ?_
       refine In.guard (t := 67) (b := z57) (by kernel_rfl) (fun hb526 => ?_) (fun hb526 => ?_)
       ·have H := ct H hb526
        refine In.run' 16 (k' := 47) rfl [(68, undef), (69, undef), (70, undef), (71, undef), (72, (.bool true)), (73, (.bool true)), (74, undef), (75, undef), (76, undef), (77, undef), (78, (.bool true)), (79, (.bool true)), (80, (.bool true)), (81, (.bool z57)), (82, (.bool (!z57))), (83, (.bool (!z57)))] (by kernel_rfl) ?_
        refine In.guard (t := 83) (b := (!z57)) (by kernel_rfl) (fun hb527 => ?_) (fun hb527 => ?_)
        ·have H := ct H hb527
         refine In.run' 23 (k' := 70) rfl [(84, undef), (85, undef), (86, undef), (87, undef), (88, undef), (89, undef), (90, undef), (91, undef), (92, undef), (93, undef), (94, undef), (95, undef), (96, undef), (97, undef), (98, undef), (99, undef), (100, undef), (101, undef), (102, undef), (103, undef), (104, (.bool true)), (105, (.bool true)), (8, (.bool true))] (by kernel_rfl) ?_
         refine In.fin (by kernel_rfl) ?_
         exact ⟨true, ⟨(by kernel_rfl), trivial⟩, SP.sel hs523 [] rfl rfl, H⟩
        ·have H := cf H hb527
         refine In.step (k' := 48) rfl (by kernel_rfl) ?_
         refine Step.load (t := 24) (x := (.tmp 11)) (g := g30) (off := 0) (i := 1) (v := (.agg #[(.int .u32 v53), (.int .i64 v54)])) (d := (some 84)) (k := 47) (by kernel_rfl) rfl (by kernel_rfl) hs523 rfl (by kernel_rfl) ?_
         refine In.run' 1 (k' := 49) rfl [(85, (.int .u32 p1))] (by kernel_rfl) ?_
         obtain ⟨z528, hz529, H⟩ := bind_elim H
         refine In.step (k' := 50) rfl (by kernel_rfl) ?_
         refine Step.callF (f := 21) (fo := (.func 21)) (xs := #[(.tmp 84), (.tmp 85)]) (tys := #[24, 22]) (first := #[]) (captured := #[]) (d := (some 86)) (k := 49) (by kernel_rfl) rfl (by kernel_rfl) (by kernel_rfl) Tryd.call21 (L_syntax_In_walk  v53 v54 p1 w520  z528 hz529) ?_
         rintro e w530 ⟨rfl, hs531⟩
         refine ⟨_, rfl, ?_⟩
         have hs532 := SP.call hs523 hs531
         clear hs531
         have hs533 : SP [] w0 w530 [boxE g17 24 #[(.int .u32 v51), (.int .i64 v52)], boxE g30 24 #[(.int .u32 v53), (.int .i64 v54)]] := hs532
         clear hs532
         refine In.run' 2 (k' := 52) rfl [(87, (.bool (!z528))), (88, (.bool (!z528)))] (by kernel_rfl) ?_
         refine In.guard (t := 88) (b := (!z528)) (by kernel_rfl) (fun hb534 => ?_) (fun hb534 => ?_)
         ·have H := ct H hb534
          refine In.run' 5 (k' := 57) rfl [(89, undef), (90, undef), (91, undef), (92, (.bool true)), (93, (.bool true))] (by kernel_rfl) ?_
          refine In.step (k' := 58) rfl (by kernel_rfl) ?_
          refine Step.load (t := 24) (x := (.tmp 11)) (g := g30) (off := 0) (i := 1) (v := (.agg #[(.int .u32 v53), (.int .i64 v54)])) (d := (some 94)) (k := 57) (by kernel_rfl) rfl (by kernel_rfl) hs533 rfl (by kernel_rfl) ?_
          refine In.run' 1 (k' := 59) rfl [(95, (.int .u32 p2))] (by kernel_rfl) ?_
          obtain ⟨z535, hz536, H⟩ := bind_elim H
          refine In.step (k' := 60) rfl (by kernel_rfl) ?_
          refine Step.callF (f := 21) (fo := (.func 21)) (xs := #[(.tmp 94), (.tmp 95)]) (tys := #[24, 22]) (first := #[]) (captured := #[]) (d := (some 96)) (k := 59) (by kernel_rfl) rfl (by kernel_rfl) (by kernel_rfl) Tryd.call21 (L_syntax_In_walk  v53 v54 p2 w530  z535 hz536) ?_
          rintro e w537 ⟨rfl, hs538⟩
          refine ⟨_, rfl, ?_⟩
          have hs539 := SP.call hs533 hs538
          clear hs538
          have hs540 : SP [] w0 w537 [boxE g17 24 #[(.int .u32 v51), (.int .i64 v52)], boxE g30 24 #[(.int .u32 v53), (.int .i64 v54)]] := hs539
          clear hs539
          refine In.run' 2 (k' := 62) rfl [(97, (.bool (!z535))), (98, (.bool (!z535)))] (by kernel_rfl) ?_
          refine In.guard (t := 98) (b := (!z535)) (by kernel_rfl) (fun hb541 => ?_) (fun hb541 => ?_)
          ·have H := ct H hb541
           refine In.run' 8 (k' := 70) rfl [(99, undef), (100, undef), (101, undef), (102, (.bool true)), (103, (.bool true)), (104, (.bool true)), (105, (.bool true)), (8, (.bool true))] (by kernel_rfl) ?_
           refine In.fin (by kernel_rfl) ?_
           exact ⟨true, ⟨(by kernel_rfl), trivial⟩, SP.sel hs540 [] rfl rfl, H⟩
          ·have H := cf H hb541
           refine In.step (k' := 63) rfl (by kernel_rfl) ?_
           refine Step.load (t := 24) (x := (.tmp 10)) (g := g17) (off := 0) (i := 0) (v := (.agg #[(.int .u32 v51), (.int .i64 v52)])) (d := (some 99)) (k := 62) (by kernel_rfl) rfl (by kernel_rfl) hs540 rfl (by kernel_rfl) ?_
           refine In.run' 1 (k' := 64) rfl [(100, (.int .u32 p2))] (by kernel_rfl) ?_
           obtain ⟨z542, hz543, H⟩ := bind_elim H
           refine In.step (k' := 65) rfl (by kernel_rfl) ?_
           refine Step.callF (f := 21) (fo := (.func 21)) (xs := #[(.tmp 99), (.tmp 100)]) (tys := #[24, 22]) (first := #[]) (captured := #[]) (d := (some 101)) (k := 64) (by kernel_rfl) rfl (by kernel_rfl) (by kernel_rfl) Tryd.call21 (L_syntax_In_walk  v51 v52 p2 w537  z542 hz543) ?_
           rintro e w544 ⟨rfl, hs545⟩
           refine ⟨_, rfl, ?_⟩
           have hs546 := SP.call hs540 hs545
           clear hs545
           have hs547 : SP [] w0 w544 [boxE g17 24 #[(.int .u32 v51), (.int .i64 v52)], boxE g30 24 #[(.int .u32 v53), (.int .i64 v54)]] := hs546
           clear hs546
           refine In.run' 5 (k' := 70) rfl [(102, (.bool z542)), (103, (.bool z542)), (104, (.bool z542)), (105, (.bool z542)), (8, (.bool z542))] (by kernel_rfl) ?_
           refine In.fin (by kernel_rfl) ?_
           exact ⟨z542, ⟨(by kernel_rfl), trivial⟩, SP.sel hs547 [] rfl rfl, H⟩
         ·have H := cf H hb534
          refine In.step (k' := 53) rfl (by kernel_rfl) ?_
          refine Step.load (t := 24) (x := (.tmp 10)) (g := g17) (off := 0) (i := 0) (v := (.agg #[(.int .u32 v51), (.int .i64 v52)])) (d := (some 89)) (k := 52) (by kernel_rfl) rfl (by kernel_rfl) hs533 rfl (by kernel_rfl) ?_
          refine In.run' 1 (k' := 54) rfl [(90, (.int .u32 p1))] (by kernel_rfl) ?_
          obtain ⟨z548, hz549, H⟩ := bind_elim H
          refine In.step (k' := 55) rfl (by kernel_rfl) ?_
          refine Step.callF (f := 21) (fo := (.func 21)) (xs := #[(.tmp 89), (.tmp 90)]) (tys := #[24, 22]) (first := #[]) (captured := #[]) (d := (some 91)) (k := 54) (by kernel_rfl) rfl (by kernel_rfl) (by kernel_rfl) Tryd.call21 (L_syntax_In_walk  v51 v52 p1 w530  z548 hz549) ?_
          rintro e w550 ⟨rfl, hs551⟩
          refine ⟨_, rfl, ?_⟩
          have hs552 := SP.call hs533 hs551
          clear hs551
          have hs553 : SP [] w0 w550 [boxE g17 24 #[(.int .u32 v51), (.int .i64 v52)], boxE g30 24 #[(.int .u32 v53), (.int .i64 v54)]] := hs552
          clear hs552
          refine In.run' 2 (k' := 57) rfl [(92, (.bool z548)), (93, (.bool z548))] (by kernel_rfl) ?_
          refine In.guard (t := 93) (b := z548) (by kernel_rfl) (fun hb554 => ?_) (fun hb554 => ?_)
          ·have H := ct H hb554
           refine In.step (k' := 58) rfl (by kernel_rfl) ?_
           refine Step.load (t := 24) (x := (.tmp 11)) (g := g30) (off := 0) (i := 1) (v := (.agg #[(.int .u32 v53), (.int .i64 v54)])) (d := (some 94)) (k := 57) (by kernel_rfl) rfl (by kernel_rfl) hs553 rfl (by kernel_rfl) ?_
           refine In.run' 1 (k' := 59) rfl [(95, (.int .u32 p2))] (by kernel_rfl) ?_
           obtain ⟨z555, hz556, H⟩ := bind_elim H
           refine In.step (k' := 60) rfl (by kernel_rfl) ?_
           refine Step.callF (f := 21) (fo := (.func 21)) (xs := #[(.tmp 94), (.tmp 95)]) (tys := #[24, 22]) (first := #[]) (captured := #[]) (d := (some 96)) (k := 59) (by kernel_rfl) rfl (by kernel_rfl) (by kernel_rfl) Tryd.call21 (L_syntax_In_walk  v53 v54 p2 w550  z555 hz556) ?_
           rintro e w557 ⟨rfl, hs558⟩
           refine ⟨_, rfl, ?_⟩
           have hs559 := SP.call hs553 hs558
           clear hs558
           have hs560 : SP [] w0 w557 [boxE g17 24 #[(.int .u32 v51), (.int .i64 v52)], boxE g30 24 #[(.int .u32 v53), (.int .i64 v54)]] := hs559
           clear hs559
           refine In.run' 2 (k' := 62) rfl [(97, (.bool (!z555))), (98, (.bool (!z555)))] (by kernel_rfl) ?_
           refine In.guard (t := 98) (b := (!z555)) (by kernel_rfl) (fun hb561 => ?_) (fun hb561 => ?_)
           ·have H := ct H hb561
            refine In.run' 8 (k' := 70) rfl [(99, undef), (100, undef), (101, undef), (102, (.bool true)), (103, (.bool true)), (104, (.bool true)), (105, (.bool true)), (8, (.bool true))] (by kernel_rfl) ?_
            refine In.fin (by kernel_rfl) ?_
            exact ⟨true, ⟨(by kernel_rfl), trivial⟩, SP.sel hs560 [] rfl rfl, H⟩
           ·have H := cf H hb561
            refine In.step (k' := 63) rfl (by kernel_rfl) ?_
            refine Step.load (t := 24) (x := (.tmp 10)) (g := g17) (off := 0) (i := 0) (v := (.agg #[(.int .u32 v51), (.int .i64 v52)])) (d := (some 99)) (k := 62) (by kernel_rfl) rfl (by kernel_rfl) hs560 rfl (by kernel_rfl) ?_
            refine In.run' 1 (k' := 64) rfl [(100, (.int .u32 p2))] (by kernel_rfl) ?_
            obtain ⟨z562, hz563, H⟩ := bind_elim H
            refine In.step (k' := 65) rfl (by kernel_rfl) ?_
            refine Step.callF (f := 21) (fo := (.func 21)) (xs := #[(.tmp 99), (.tmp 100)]) (tys := #[24, 22]) (first := #[]) (captured := #[]) (d := (some 101)) (k := 64) (by kernel_rfl) rfl (by kernel_rfl) (by kernel_rfl) Tryd.call21 (L_syntax_In_walk  v51 v52 p2 w557  z562 hz563) ?_
            rintro e w564 ⟨rfl, hs565⟩
            refine ⟨_, rfl, ?_⟩
            have hs566 := SP.call hs560 hs565
            clear hs565
            have hs567 : SP [] w0 w564 [boxE g17 24 #[(.int .u32 v51), (.int .i64 v52)], boxE g30 24 #[(.int .u32 v53), (.int .i64 v54)]] := hs566
            clear hs566
            refine In.run' 5 (k' := 70) rfl [(102, (.bool z562)), (103, (.bool z562)), (104, (.bool z562)), (105, (.bool z562)), (8, (.bool z562))] (by kernel_rfl) ?_
            refine In.fin (by kernel_rfl) ?_
            exact ⟨z562, ⟨(by kernel_rfl), trivial⟩, SP.sel hs567 [] rfl rfl, H⟩
          ·have H := cf H hb554
           refine In.run' 13 (k' := 70) rfl [(94, undef), (95, undef), (96, undef), (97, undef), (98, undef), (99, undef), (100, undef), (101, undef), (102, undef), (103, (.bool false)), (104, (.bool false)), (105, (.bool false)), (8, (.bool false))] (by kernel_rfl) ?_
           refine In.fin (by kernel_rfl) ?_
           exact ⟨false, ⟨(by kernel_rfl), trivial⟩, SP.sel hs553 [] rfl rfl, H⟩
       ·have H := cf H hb526
        refine In.step (k' := 32) rfl (by kernel_rfl) ?_
        refine Step.load (t := 24) (x := (.tmp 10)) (g := g17) (off := 0) (i := 0) (v := (.agg #[(.int .u32 v51), (.int .i64 v52)])) (d := (some 68)) (k := 31) (by kernel_rfl) rfl (by kernel_rfl) hs523 rfl (by kernel_rfl) ?_
        refine In.run' 1 (k' := 33) rfl [(69, (.int .u32 p2))] (by kernel_rfl) ?_
        obtain ⟨z568, hz569, H⟩ := bind_elim H
        refine In.step (k' := 34) rfl (by kernel_rfl) ?_
        refine Step.callF (f := 21) (fo := (.func 21)) (xs := #[(.tmp 68), (.tmp 69)]) (tys := #[24, 22]) (first := #[]) (captured := #[]) (d := (some 70)) (k := 33) (by kernel_rfl) rfl (by kernel_rfl) (by kernel_rfl) Tryd.call21 (L_syntax_In_walk  v51 v52 p2 w520  z568 hz569) ?_
        rintro e w570 ⟨rfl, hs571⟩
        refine ⟨_, rfl, ?_⟩
        have hs572 := SP.call hs523 hs571
        clear hs571
        have hs573 : SP [] w0 w570 [boxE g17 24 #[(.int .u32 v51), (.int .i64 v52)], boxE g30 24 #[(.int .u32 v53), (.int .i64 v54)]] := hs572
        clear hs572
        refine In.run' 3 (k' := 37) rfl [(71, (.bool (!z568))), (72, (.bool (!z568))), (73, (.bool (!z568)))] (by kernel_rfl) ?_
        refine In.guard (t := 73) (b := (!z568)) (by kernel_rfl) (fun hb574 => ?_) (fun hb574 => ?_)
        ·have H := ct H hb574
         refine In.run' 10 (k' := 47) rfl [(74, undef), (75, undef), (76, undef), (77, undef), (78, (.bool true)), (79, (.bool true)), (80, (.bool true)), (81, (.bool z57)), (82, (.bool (!z57))), (83, (.bool (!z57)))] (by kernel_rfl) ?_
         refine In.guard (t := 83) (b := (!z57)) (by kernel_rfl) (fun hb575 => ?_) (fun hb575 => ?_)
         ·have H := ct H hb575
          refine In.run' 23 (k' := 70) rfl [(84, undef), (85, undef), (86, undef), (87, undef), (88, undef), (89, undef), (90, undef), (91, undef), (92, undef), (93, undef), (94, undef), (95, undef), (96, undef), (97, undef), (98, undef), (99, undef), (100, undef), (101, undef), (102, undef), (103, undef), (104, (.bool true)), (105, (.bool true)), (8, (.bool true))] (by kernel_rfl) ?_
          refine In.fin (by kernel_rfl) ?_
          exact ⟨true, ⟨(by kernel_rfl), trivial⟩, SP.sel hs573 [] rfl rfl, H⟩
         ·have H := cf H hb575
          refine In.step (k' := 48) rfl (by kernel_rfl) ?_
          refine Step.load (t := 24) (x := (.tmp 11)) (g := g30) (off := 0) (i := 1) (v := (.agg #[(.int .u32 v53), (.int .i64 v54)])) (d := (some 84)) (k := 47) (by kernel_rfl) rfl (by kernel_rfl) hs573 rfl (by kernel_rfl) ?_
          refine In.run' 1 (k' := 49) rfl [(85, (.int .u32 p1))] (by kernel_rfl) ?_
          obtain ⟨z576, hz577, H⟩ := bind_elim H
          refine In.step (k' := 50) rfl (by kernel_rfl) ?_
          refine Step.callF (f := 21) (fo := (.func 21)) (xs := #[(.tmp 84), (.tmp 85)]) (tys := #[24, 22]) (first := #[]) (captured := #[]) (d := (some 86)) (k := 49) (by kernel_rfl) rfl (by kernel_rfl) (by kernel_rfl) Tryd.call21 (L_syntax_In_walk  v53 v54 p1 w570  z576 hz577) ?_
          rintro e w578 ⟨rfl, hs579⟩
          refine ⟨_, rfl, ?_⟩
          have hs580 := SP.call hs573 hs579
          clear hs579
          have hs581 : SP [] w0 w578 [boxE g17 24 #[(.int .u32 v51), (.int .i64 v52)], boxE g30 24 #[(.int .u32 v53), (.int .i64 v54)]] := hs580
          clear hs580
          refine In.run' 2 (k' := 52) rfl [(87, (.bool (!z576))), (88, (.bool (!z576)))] (by kernel_rfl) ?_
          refine In.guard (t := 88) (b := (!z576)) (by kernel_rfl) (fun hb582 => ?_) (fun hb582 => ?_)
          ·have H := ct H hb582
           refine In.run' 5 (k' := 57) rfl [(89, undef), (90, undef), (91, undef), (92, (.bool true)), (93, (.bool true))] (by kernel_rfl) ?_
           refine In.step (k' := 58) rfl (by kernel_rfl) ?_
           refine Step.load (t := 24) (x := (.tmp 11)) (g := g30) (off := 0) (i := 1) (v := (.agg #[(.int .u32 v53), (.int .i64 v54)])) (d := (some 94)) (k := 57) (by kernel_rfl) rfl (by kernel_rfl) hs581 rfl (by kernel_rfl) ?_
           refine In.run' 1 (k' := 59) rfl [(95, (.int .u32 p2))] (by kernel_rfl) ?_
           obtain ⟨z583, hz584, H⟩ := bind_elim H
           refine In.step (k' := 60) rfl (by kernel_rfl) ?_
           refine Step.callF (f := 21) (fo := (.func 21)) (xs := #[(.tmp 94), (.tmp 95)]) (tys := #[24, 22]) (first := #[]) (captured := #[]) (d := (some 96)) (k := 59) (by kernel_rfl) rfl (by kernel_rfl) (by kernel_rfl) Tryd.call21 (L_syntax_In_walk  v53 v54 p2 w578  z583 hz584) ?_
           rintro e w585 ⟨rfl, hs586⟩
           refine ⟨_, rfl, ?_⟩
           have hs587 := SP.call hs581 hs586
           clear hs586
           have hs588 : SP [] w0 w585 [boxE g17 24 #[(.int .u32 v51), (.int .i64 v52)], boxE g30 24 #[(.int .u32 v53), (.int .i64 v54)]] := hs587
           clear hs587
           refine In.run' 2 (k' := 62) rfl [(97, (.bool (!z583))), (98, (.bool (!z583)))] (by kernel_rfl) ?_
           refine In.guard (t := 98) (b := (!z583)) (by kernel_rfl) (fun hb589 => ?_) (fun hb589 => ?_)
           ·have H := ct H hb589
            refine In.run' 8 (k' := 70) rfl [(99, undef), (100, undef), (101, undef), (102, (.bool true)), (103, (.bool true)), (104, (.bool true)), (105, (.bool true)), (8, (.bool true))] (by kernel_rfl) ?_
            refine In.fin (by kernel_rfl) ?_
            exact ⟨true, ⟨(by kernel_rfl), trivial⟩, SP.sel hs588 [] rfl rfl, H⟩
           ·have H := cf H hb589
            refine In.step (k' := 63) rfl (by kernel_rfl) ?_
            refine Step.load (t := 24) (x := (.tmp 10)) (g := g17) (off := 0) (i := 0) (v := (.agg #[(.int .u32 v51), (.int .i64 v52)])) (d := (some 99)) (k := 62) (by kernel_rfl) rfl (by kernel_rfl) hs588 rfl (by kernel_rfl) ?_
            refine In.run' 1 (k' := 64) rfl [(100, (.int .u32 p2))] (by kernel_rfl) ?_
            obtain ⟨z590, hz591, H⟩ := bind_elim H
            refine In.step (k' := 65) rfl (by kernel_rfl) ?_
            refine Step.callF (f := 21) (fo := (.func 21)) (xs := #[(.tmp 99), (.tmp 100)]) (tys := #[24, 22]) (first := #[]) (captured := #[]) (d := (some 101)) (k := 64) (by kernel_rfl) rfl (by kernel_rfl) (by kernel_rfl) Tryd.call21 (L_syntax_In_walk  v51 v52 p2 w585  z590 hz591) ?_
            rintro e w592 ⟨rfl, hs593⟩
            refine ⟨_, rfl, ?_⟩
            have hs594 := SP.call hs588 hs593
            clear hs593
            have hs595 : SP [] w0 w592 [boxE g17 24 #[(.int .u32 v51), (.int .i64 v52)], boxE g30 24 #[(.int .u32 v53), (.int .i64 v54)]] := hs594
            clear hs594
            refine In.run' 5 (k' := 70) rfl [(102, (.bool z590)), (103, (.bool z590)), (104, (.bool z590)), (105, (.bool z590)), (8, (.bool z590))] (by kernel_rfl) ?_
            refine In.fin (by kernel_rfl) ?_
            exact ⟨z590, ⟨(by kernel_rfl), trivial⟩, SP.sel hs595 [] rfl rfl, H⟩
          ·have H := cf H hb582
           refine In.step (k' := 53) rfl (by kernel_rfl) ?_
           refine Step.load (t := 24) (x := (.tmp 10)) (g := g17) (off := 0) (i := 0) (v := (.agg #[(.int .u32 v51), (.int .i64 v52)])) (d := (some 89)) (k := 52) (by kernel_rfl) rfl (by kernel_rfl) hs581 rfl (by kernel_rfl) ?_
           refine In.run' 1 (k' := 54) rfl [(90, (.int .u32 p1))] (by kernel_rfl) ?_
           obtain ⟨z596, hz597, H⟩ := bind_elim H
           refine In.step (k' := 55) rfl (by kernel_rfl) ?_
           refine Step.callF (f := 21) (fo := (.func 21)) (xs := #[(.tmp 89), (.tmp 90)]) (tys := #[24, 22]) (first := #[]) (captured := #[]) (d := (some 91)) (k := 54) (by kernel_rfl) rfl (by kernel_rfl) (by kernel_rfl) Tryd.call21 (L_syntax_In_walk  v51 v52 p1 w578  z596 hz597) ?_
           rintro e w598 ⟨rfl, hs599⟩
           refine ⟨_, rfl, ?_⟩
           have hs600 := SP.call hs581 hs599
           clear hs599
           have hs601 : SP [] w0 w598 [boxE g17 24 #[(.int .u32 v51), (.int .i64 v52)], boxE g30 24 #[(.int .u32 v53), (.int .i64 v54)]] := hs600
           clear hs600
           refine In.run' 2 (k' := 57) rfl [(92, (.bool z596)), (93, (.bool z596))] (by kernel_rfl) ?_
           refine In.guard (t := 93) (b := z596) (by kernel_rfl) (fun hb602 => ?_) (fun hb602 => ?_)
           ·have H := ct H hb602
            refine In.step (k' := 58) rfl (by kernel_rfl) ?_
            refine Step.load (t := 24) (x := (.tmp 11)) (g := g30) (off := 0) (i := 1) (v := (.agg #[(.int .u32 v53), (.int .i64 v54)])) (d := (some 94)) (k := 57) (by kernel_rfl) rfl (by kernel_rfl) hs601 rfl (by kernel_rfl) ?_
            refine In.run' 1 (k' := 59) rfl [(95, (.int .u32 p2))] (by kernel_rfl) ?_
            obtain ⟨z603, hz604, H⟩ := bind_elim H
            refine In.step (k' := 60) rfl (by kernel_rfl) ?_
            refine Step.callF (f := 21) (fo := (.func 21)) (xs := #[(.tmp 94), (.tmp 95)]) (tys := #[24, 22]) (first := #[]) (captured := #[]) (d := (some 96)) (k := 59) (by kernel_rfl) rfl (by kernel_rfl) (by kernel_rfl) Tryd.call21 (L_syntax_In_walk  v53 v54 p2 w598  z603 hz604) ?_
            rintro e w605 ⟨rfl, hs606⟩
            refine ⟨_, rfl, ?_⟩
            have hs607 := SP.call hs601 hs606
            clear hs606
            have hs608 : SP [] w0 w605 [boxE g17 24 #[(.int .u32 v51), (.int .i64 v52)], boxE g30 24 #[(.int .u32 v53), (.int .i64 v54)]] := hs607
            clear hs607
            refine In.run' 2 (k' := 62) rfl [(97, (.bool (!z603))), (98, (.bool (!z603)))] (by kernel_rfl) ?_
            refine In.guard (t := 98) (b := (!z603)) (by kernel_rfl) (fun hb609 => ?_) (fun hb609 => ?_)
            ·have H := ct H hb609
             refine In.run' 8 (k' := 70) rfl [(99, undef), (100, undef), (101, undef), (102, (.bool true)), (103, (.bool true)), (104, (.bool true)), (105, (.bool true)), (8, (.bool true))] (by kernel_rfl) ?_
             refine In.fin (by kernel_rfl) ?_
             exact ⟨true, ⟨(by kernel_rfl), trivial⟩, SP.sel hs608 [] rfl rfl, H⟩
            ·have H := cf H hb609
             refine In.step (k' := 63) rfl (by kernel_rfl) ?_
             refine Step.load (t := 24) (x := (.tmp 10)) (g := g17) (off := 0) (i := 0) (v := (.agg #[(.int .u32 v51), (.int .i64 v52)])) (d := (some 99)) (k := 62) (by kernel_rfl) rfl (by kernel_rfl) hs608 rfl (by kernel_rfl) ?_
             refine In.run' 1 (k' := 64) rfl [(100, (.int .u32 p2))] (by kernel_rfl) ?_
             obtain ⟨z610, hz611, H⟩ := bind_elim H
             refine In.step (k' := 65) rfl (by kernel_rfl) ?_
             refine Step.callF (f := 21) (fo := (.func 21)) (xs := #[(.tmp 99), (.tmp 100)]) (tys := #[24, 22]) (first := #[]) (captured := #[]) (d := (some 101)) (k := 64) (by kernel_rfl) rfl (by kernel_rfl) (by kernel_rfl) Tryd.call21 (L_syntax_In_walk  v51 v52 p2 w605  z610 hz611) ?_
             rintro e w612 ⟨rfl, hs613⟩
             refine ⟨_, rfl, ?_⟩
             have hs614 := SP.call hs608 hs613
             clear hs613
             have hs615 : SP [] w0 w612 [boxE g17 24 #[(.int .u32 v51), (.int .i64 v52)], boxE g30 24 #[(.int .u32 v53), (.int .i64 v54)]] := hs614
             clear hs614
             refine In.run' 5 (k' := 70) rfl [(102, (.bool z610)), (103, (.bool z610)), (104, (.bool z610)), (105, (.bool z610)), (8, (.bool z610))] (by kernel_rfl) ?_
             refine In.fin (by kernel_rfl) ?_
             exact ⟨z610, ⟨(by kernel_rfl), trivial⟩, SP.sel hs615 [] rfl rfl, H⟩
           ·have H := cf H hb602
            refine In.run' 13 (k' := 70) rfl [(94, undef), (95, undef), (96, undef), (97, undef), (98, undef), (99, undef), (100, undef), (101, undef), (102, undef), (103, (.bool false)), (104, (.bool false)), (105, (.bool false)), (8, (.bool false))] (by kernel_rfl) ?_
            refine In.fin (by kernel_rfl) ?_
            exact ⟨false, ⟨(by kernel_rfl), trivial⟩, SP.sel hs601 [] rfl rfl, H⟩
        ·have H := cf H hb574
         refine In.step (k' := 38) rfl (by kernel_rfl) ?_
         refine Step.load (t := 24) (x := (.tmp 11)) (g := g30) (off := 0) (i := 1) (v := (.agg #[(.int .u32 v53), (.int .i64 v54)])) (d := (some 74)) (k := 37) (by kernel_rfl) rfl (by kernel_rfl) hs573 rfl (by kernel_rfl) ?_
         refine In.run' 1 (k' := 39) rfl [(75, (.int .u32 p2))] (by kernel_rfl) ?_
         obtain ⟨z616, hz617, H⟩ := bind_elim H
         refine In.step (k' := 40) rfl (by kernel_rfl) ?_
         refine Step.callF (f := 21) (fo := (.func 21)) (xs := #[(.tmp 74), (.tmp 75)]) (tys := #[24, 22]) (first := #[]) (captured := #[]) (d := (some 76)) (k := 39) (by kernel_rfl) rfl (by kernel_rfl) (by kernel_rfl) Tryd.call21 (L_syntax_In_walk  v53 v54 p2 w570  z616 hz617) ?_
         rintro e w618 ⟨rfl, hs619⟩
         refine ⟨_, rfl, ?_⟩
         have hs620 := SP.call hs573 hs619
         clear hs619
         have hs621 : SP [] w0 w618 [boxE g17 24 #[(.int .u32 v51), (.int .i64 v52)], boxE g30 24 #[(.int .u32 v53), (.int .i64 v54)]] := hs620
         clear hs620
         refine In.run' 4 (k' := 44) rfl [(77, (.bool (!z616))), (78, (.bool (!z616))), (79, (.bool (!z616))), (80, (.bool (!z616)))] (by kernel_rfl) ?_
         refine In.guard (t := 80) (b := (!z616)) (by kernel_rfl) (fun hb622 => ?_) (fun hb622 => ?_)
         ·have H := ct H hb622
          refine In.run' 3 (k' := 47) rfl [(81, (.bool z57)), (82, (.bool (!z57))), (83, (.bool (!z57)))] (by kernel_rfl) ?_
          refine In.guard (t := 83) (b := (!z57)) (by kernel_rfl) (fun hb623 => ?_) (fun hb623 => ?_)
          ·have H := ct H hb623
           refine In.run' 23 (k' := 70) rfl [(84, undef), (85, undef), (86, undef), (87, undef), (88, undef), (89, undef), (90, undef), (91, undef), (92, undef), (93, undef), (94, undef), (95, undef), (96, undef), (97, undef), (98, undef), (99, undef), (100, undef), (101, undef), (102, undef), (103, undef), (104, (.bool true)), (105, (.bool true)), (8, (.bool true))] (by kernel_rfl) ?_
           refine In.fin (by kernel_rfl) ?_
           exact ⟨true, ⟨(by kernel_rfl), trivial⟩, SP.sel hs621 [] rfl rfl, H⟩
          ·have H := cf H hb623
           refine In.step (k' := 48) rfl (by kernel_rfl) ?_
           refine Step.load (t := 24) (x := (.tmp 11)) (g := g30) (off := 0) (i := 1) (v := (.agg #[(.int .u32 v53), (.int .i64 v54)])) (d := (some 84)) (k := 47) (by kernel_rfl) rfl (by kernel_rfl) hs621 rfl (by kernel_rfl) ?_
           refine In.run' 1 (k' := 49) rfl [(85, (.int .u32 p1))] (by kernel_rfl) ?_
           obtain ⟨z624, hz625, H⟩ := bind_elim H
           refine In.step (k' := 50) rfl (by kernel_rfl) ?_
           refine Step.callF (f := 21) (fo := (.func 21)) (xs := #[(.tmp 84), (.tmp 85)]) (tys := #[24, 22]) (first := #[]) (captured := #[]) (d := (some 86)) (k := 49) (by kernel_rfl) rfl (by kernel_rfl) (by kernel_rfl) Tryd.call21 (L_syntax_In_walk  v53 v54 p1 w618  z624 hz625) ?_
           rintro e w626 ⟨rfl, hs627⟩
           refine ⟨_, rfl, ?_⟩
           have hs628 := SP.call hs621 hs627
           clear hs627
           have hs629 : SP [] w0 w626 [boxE g17 24 #[(.int .u32 v51), (.int .i64 v52)], boxE g30 24 #[(.int .u32 v53), (.int .i64 v54)]] := hs628
           clear hs628
           refine In.run' 2 (k' := 52) rfl [(87, (.bool (!z624))), (88, (.bool (!z624)))] (by kernel_rfl) ?_
           refine In.guard (t := 88) (b := (!z624)) (by kernel_rfl) (fun hb630 => ?_) (fun hb630 => ?_)
           ·have H := ct H hb630
            refine In.run' 5 (k' := 57) rfl [(89, undef), (90, undef), (91, undef), (92, (.bool true)), (93, (.bool true))] (by kernel_rfl) ?_
            refine In.step (k' := 58) rfl (by kernel_rfl) ?_
            refine Step.load (t := 24) (x := (.tmp 11)) (g := g30) (off := 0) (i := 1) (v := (.agg #[(.int .u32 v53), (.int .i64 v54)])) (d := (some 94)) (k := 57) (by kernel_rfl) rfl (by kernel_rfl) hs629 rfl (by kernel_rfl) ?_
            refine In.run' 1 (k' := 59) rfl [(95, (.int .u32 p2))] (by kernel_rfl) ?_
            obtain ⟨z631, hz632, H⟩ := bind_elim H
            refine In.step (k' := 60) rfl (by kernel_rfl) ?_
            refine Step.callF (f := 21) (fo := (.func 21)) (xs := #[(.tmp 94), (.tmp 95)]) (tys := #[24, 22]) (first := #[]) (captured := #[]) (d := (some 96)) (k := 59) (by kernel_rfl) rfl (by kernel_rfl) (by kernel_rfl) Tryd.call21 (L_syntax_In_walk  v53 v54 p2 w626  z631 hz632) ?_
            rintro e w633 ⟨rfl, hs634⟩
            refine ⟨_, rfl, ?_⟩
            have hs635 := SP.call hs629 hs634
            clear hs634
            have hs636 : SP [] w0 w633 [boxE g17 24 #[(.int .u32 v51), (.int .i64 v52)], boxE g30 24 #[(.int .u32 v53), (.int .i64 v54)]] := hs635
            clear hs635
            refine In.run' 2 (k' := 62) rfl [(97, (.bool (!z631))), (98, (.bool (!z631)))] (by kernel_rfl) ?_
            refine In.guard (t := 98) (b := (!z631)) (by kernel_rfl) (fun hb637 => ?_) (fun hb637 => ?_)
            ·have H := ct H hb637
             refine In.run' 8 (k' := 70) rfl [(99, undef), (100, undef), (101, undef), (102, (.bool true)), (103, (.bool true)), (104, (.bool true)), (105, (.bool true)), (8, (.bool true))] (by kernel_rfl) ?_
             refine In.fin (by kernel_rfl) ?_
             exact ⟨true, ⟨(by kernel_rfl), trivial⟩, SP.sel hs636 [] rfl rfl, H⟩
            ·have H := cf H hb637
             refine In.step (k' := 63) rfl (by kernel_rfl) ?_
             refine Step.load (t := 24) (x := (.tmp 10)) (g := g17) (off := 0) (i := 0) (v := (.agg #[(.int .u32 v51), (.int .i64 v52)])) (d := (some 99)) (k := 62) (by kernel_rfl) rfl (by kernel_rfl) hs636 rfl (by kernel_rfl) ?_
             refine In.run' 1 (k' := 64) rfl [(100, (.int .u32 p2))] (by kernel_rfl) ?_
             obtain ⟨z638, hz639, H⟩ := bind_elim H
             refine In.step (k' := 65) rfl (by kernel_rfl) ?_
             refine Step.callF (f := 21) (fo := (.func 21)) (xs := #[(.tmp 99), (.tmp 100)]) (tys := #[24, 22]) (first := #[]) (captured := #[]) (d := (some 101)) (k := 64) (by kernel_rfl) rfl (by kernel_rfl) (by kernel_rfl) Tryd.call21 (L_syntax_In_walk  v51 v52 p2 w633  z638 hz639) ?_
             rintro e w640 ⟨rfl, hs641⟩
             refine ⟨_, rfl, ?_⟩
             have hs642 := SP.call hs636 hs641
             clear hs641
             have hs643 : SP [] w0 w640 [boxE g17 24 #[(.int .u32 v51), (.int .i64 v52)], boxE g30 24 #[(.int .u32 v53), (.int .i64 v54)]] := hs642
             clear hs642
             refine In.run' 5 (k' := 70) rfl [(102, (.bool z638)), (103, (.bool z638)), (104, (.bool z638)), (105, (.bool z638)), (8, (.bool z638))] (by kernel_rfl) ?_
             refine In.fin (by kernel_rfl) ?_
             exact ⟨z638, ⟨(by kernel_rfl), trivial⟩, SP.sel hs643 [] rfl rfl, H⟩
           ·have H := cf H hb630
            refine In.step (k' := 53) rfl (by kernel_rfl) ?_
            refine Step.load (t := 24) (x := (.tmp 10)) (g := g17) (off := 0) (i := 0) (v := (.agg #[(.int .u32 v51), (.int .i64 v52)])) (d := (some 89)) (k := 52) (by kernel_rfl) rfl (by kernel_rfl) hs629 rfl (by kernel_rfl) ?_
            refine In.run' 1 (k' := 54) rfl [(90, (.int .u32 p1))] (by kernel_rfl) ?_
            obtain ⟨z644, hz645, H⟩ := bind_elim H
            refine In.step (k' := 55) rfl (by kernel_rfl) ?_
            refine Step.callF (f := 21) (fo := (.func 21)) (xs := #[(.tmp 89), (.tmp 90)]) (tys := #[24, 22]) (first := #[]) (captured := #[]) (d := (some 91)) (k := 54) (by kernel_rfl) rfl (by kernel_rfl) (by kernel_rfl) Tryd.call21 (L_syntax_In_walk  v51 v52 p1 w626  z644 hz645) ?_
            rintro e w646 ⟨rfl, hs647⟩
            refine ⟨_, rfl, ?_⟩
            have hs648 := SP.call hs629 hs647
            clear hs647
            have hs649 : SP [] w0 w646 [boxE g17 24 #[(.int .u32 v51), (.int .i64 v52)], boxE g30 24 #[(.int .u32 v53), (.int .i64 v54)]] := hs648
            clear hs648
            refine In.run' 2 (k' := 57) rfl [(92, (.bool z644)), (93, (.bool z644))] (by kernel_rfl) ?_
            refine In.guard (t := 93) (b := z644) (by kernel_rfl) (fun hb650 => ?_) (fun hb650 => ?_)
            ·have H := ct H hb650
             refine In.step (k' := 58) rfl (by kernel_rfl) ?_
             refine Step.load (t := 24) (x := (.tmp 11)) (g := g30) (off := 0) (i := 1) (v := (.agg #[(.int .u32 v53), (.int .i64 v54)])) (d := (some 94)) (k := 57) (by kernel_rfl) rfl (by kernel_rfl) hs649 rfl (by kernel_rfl) ?_
             refine In.run' 1 (k' := 59) rfl [(95, (.int .u32 p2))] (by kernel_rfl) ?_
             obtain ⟨z651, hz652, H⟩ := bind_elim H
             refine In.step (k' := 60) rfl (by kernel_rfl) ?_
             refine Step.callF (f := 21) (fo := (.func 21)) (xs := #[(.tmp 94), (.tmp 95)]) (tys := #[24, 22]) (first := #[]) (captured := #[]) (d := (some 96)) (k := 59) (by kernel_rfl) rfl (by kernel_rfl) (by kernel_rfl) Tryd.call21 (L_syntax_In_walk  v53 v54 p2 w646  z651 hz652) ?_
             rintro e w653 ⟨rfl, hs654⟩
             refine ⟨_, rfl, ?_⟩
             have hs655 := SP.call hs649 hs654
             clear hs654
             have hs656 : SP [] w0 w653 [boxE g17 24 #[(.int .u32 v51), (.int .i64 v52)], boxE g30 24 #[(.int .u32 v53), (.int .i64 v54)]] := hs655
             clear hs655
             refine In.run' 2 (k' := 62) rfl [(97, (.bool (!z651))), (98, (.bool (!z651)))] (by kernel_rfl) ?_
             refine In.guard (t := 98) (b := (!z651)) (by kernel_rfl) (fun hb657 => ?_) (fun hb657 => ?_)
             ·have H := ct H hb657
              refine In.run' 8 (k' := 70) rfl [(99, undef), (100, undef), (101, undef), (102, (.bool true)), (103, (.bool true)), (104, (.bool true)), (105, (.bool true)), (8, (.bool true))] (by kernel_rfl) ?_
              refine In.fin (by kernel_rfl) ?_
              exact ⟨true, ⟨(by kernel_rfl), trivial⟩, SP.sel hs656 [] rfl rfl, H⟩
             ·have H := cf H hb657
              refine In.step (k' := 63) rfl (by kernel_rfl) ?_
              refine Step.load (t := 24) (x := (.tmp 10)) (g := g17) (off := 0) (i := 0) (v := (.agg #[(.int .u32 v51), (.int .i64 v52)])) (d := (some 99)) (k := 62) (by kernel_rfl) rfl (by kernel_rfl) hs656 rfl (by kernel_rfl) ?_
              refine In.run' 1 (k' := 64) rfl [(100, (.int .u32 p2))] (by kernel_rfl) ?_
              obtain ⟨z658, hz659, H⟩ := bind_elim H
              refine In.step (k' := 65) rfl (by kernel_rfl) ?_
              refine Step.callF (f := 21) (fo := (.func 21)) (xs := #[(.tmp 99), (.tmp 100)]) (tys := #[24, 22]) (first := #[]) (captured := #[]) (d := (some 101)) (k := 64) (by kernel_rfl) rfl (by kernel_rfl) (by kernel_rfl) Tryd.call21 (L_syntax_In_walk  v51 v52 p2 w653  z658 hz659) ?_
              rintro e w660 ⟨rfl, hs661⟩
              refine ⟨_, rfl, ?_⟩
              have hs662 := SP.call hs656 hs661
              clear hs661
              have hs663 : SP [] w0 w660 [boxE g17 24 #[(.int .u32 v51), (.int .i64 v52)], boxE g30 24 #[(.int .u32 v53), (.int .i64 v54)]] := hs662
              clear hs662
              refine In.run' 5 (k' := 70) rfl [(102, (.bool z658)), (103, (.bool z658)), (104, (.bool z658)), (105, (.bool z658)), (8, (.bool z658))] (by kernel_rfl) ?_
              refine In.fin (by kernel_rfl) ?_
              exact ⟨z658, ⟨(by kernel_rfl), trivial⟩, SP.sel hs663 [] rfl rfl, H⟩
            ·have H := cf H hb650
             refine In.run' 13 (k' := 70) rfl [(94, undef), (95, undef), (96, undef), (97, undef), (98, undef), (99, undef), (100, undef), (101, undef), (102, undef), (103, (.bool false)), (104, (.bool false)), (105, (.bool false)), (8, (.bool false))] (by kernel_rfl) ?_
             refine In.fin (by kernel_rfl) ?_
             exact ⟨false, ⟨(by kernel_rfl), trivial⟩, SP.sel hs649 [] rfl rfl, H⟩
         ·have H := cf H hb622
          refine In.run' 26 (k' := 70) rfl [(81, undef), (82, undef), (83, undef), (84, undef), (85, undef), (86, undef), (87, undef), (88, undef), (89, undef), (90, undef), (91, undef), (92, undef), (93, undef), (94, undef), (95, undef), (96, undef), (97, undef), (98, undef), (99, undef), (100, undef), (101, undef), (102, undef), (103, undef), (104, undef), (105, (.bool false)), (8, (.bool false))] (by kernel_rfl) ?_
          refine In.fin (by kernel_rfl) ?_
          exact ⟨false, ⟨(by kernel_rfl), trivial⟩, SP.sel hs621 [] rfl rfl, H⟩
      ·have H := cf H hb525
       refine In.step (k' := 17) rfl (by kernel_rfl) ?_
       refine Step.load (t := 24) (x := (.tmp 10)) (g := g17) (off := 0) (i := 0) (v := (.agg #[(.int .u32 v51), (.int .i64 v52)])) (d := (some 53)) (k := 16) (by kernel_rfl) rfl (by kernel_rfl) hs523 rfl (by kernel_rfl) ?_
       refine In.run' 1 (k' := 18) rfl [(54, (.int .u32 p1))] (by kernel_rfl) ?_
       obtain ⟨z664, hz665, H⟩ := bind_elim H
       refine In.step (k' := 19) rfl (by kernel_rfl) ?_
       refine Step.callF (f := 21) (fo := (.func 21)) (xs := #[(.tmp 53), (.tmp 54)]) (tys := #[24, 22]) (first := #[]) (captured := #[]) (d := (some 55)) (k := 18) (by kernel_rfl) rfl (by kernel_rfl) (by kernel_rfl) Tryd.call21 (L_syntax_In_walk  v51 v52 p1 w520  z664 hz665) ?_
       rintro e w666 ⟨rfl, hs667⟩
       refine ⟨_, rfl, ?_⟩
       have hs668 := SP.call hs523 hs667
       clear hs667
       have hs669 : SP [] w0 w666 [boxE g17 24 #[(.int .u32 v51), (.int .i64 v52)], boxE g30 24 #[(.int .u32 v53), (.int .i64 v54)]] := hs668
       clear hs668
       refine In.run' 3 (k' := 22) rfl [(56, (.bool (!z664))), (57, (.bool (!z664))), (58, (.bool (!z664)))] (by kernel_rfl) ?_
       refine In.guard (t := 58) (b := (!z664)) (by kernel_rfl) (fun hb670 => ?_) (fun hb670 => ?_)
       ·have H := ct H hb670
        refine In.run' 9 (k' := 31) rfl [(59, undef), (60, undef), (61, undef), (62, undef), (63, (.bool true)), (64, (.bool true)), (65, (.bool true)), (66, (.bool z57)), (67, (.bool z57))] (by kernel_rfl) ?_
        refine In.guard (t := 67) (b := z57) (by kernel_rfl) (fun hb671 => ?_) (fun hb671 => ?_)
        ·have H := ct H hb671
         refine In.run' 16 (k' := 47) rfl [(68, undef), (69, undef), (70, undef), (71, undef), (72, (.bool true)), (73, (.bool true)), (74, undef), (75, undef), (76, undef), (77, undef), (78, (.bool true)), (79, (.bool true)), (80, (.bool true)), (81, (.bool z57)), (82, (.bool (!z57))), (83, (.bool (!z57)))] (by kernel_rfl) ?_
         refine In.guard (t := 83) (b := (!z57)) (by kernel_rfl) (fun hb672 => ?_) (fun hb672 => ?_)
         ·have H := ct H hb672
          refine In.run' 23 (k' := 70) rfl [(84, undef), (85, undef), (86, undef), (87, undef), (88, undef), (89, undef), (90, undef), (91, undef), (92, undef), (93, undef), (94, undef), (95, undef), (96, undef), (97, undef), (98, undef), (99, undef), (100, undef), (101, undef), (102, undef), (103, undef), (104, (.bool true)), (105, (.bool true)), (8, (.bool true))] (by kernel_rfl) ?_
          refine In.fin (by kernel_rfl) ?_
          exact ⟨true, ⟨(by kernel_rfl), trivial⟩, SP.sel hs669 [] rfl rfl, H⟩
         ·have H := cf H hb672
          refine In.step (k' := 48) rfl (by kernel_rfl) ?_
          refine Step.load (t := 24) (x := (.tmp 11)) (g := g30) (off := 0) (i := 1) (v := (.agg #[(.int .u32 v53), (.int .i64 v54)])) (d := (some 84)) (k := 47) (by kernel_rfl) rfl (by kernel_rfl) hs669 rfl (by kernel_rfl) ?_
          refine In.run' 1 (k' := 49) rfl [(85, (.int .u32 p1))] (by kernel_rfl) ?_
          obtain ⟨z673, hz674, H⟩ := bind_elim H
          refine In.step (k' := 50) rfl (by kernel_rfl) ?_
          refine Step.callF (f := 21) (fo := (.func 21)) (xs := #[(.tmp 84), (.tmp 85)]) (tys := #[24, 22]) (first := #[]) (captured := #[]) (d := (some 86)) (k := 49) (by kernel_rfl) rfl (by kernel_rfl) (by kernel_rfl) Tryd.call21 (L_syntax_In_walk  v53 v54 p1 w666  z673 hz674) ?_
          rintro e w675 ⟨rfl, hs676⟩
          refine ⟨_, rfl, ?_⟩
          have hs677 := SP.call hs669 hs676
          clear hs676
          have hs678 : SP [] w0 w675 [boxE g17 24 #[(.int .u32 v51), (.int .i64 v52)], boxE g30 24 #[(.int .u32 v53), (.int .i64 v54)]] := hs677
          clear hs677
          refine In.run' 2 (k' := 52) rfl [(87, (.bool (!z673))), (88, (.bool (!z673)))] (by kernel_rfl) ?_
          refine In.guard (t := 88) (b := (!z673)) (by kernel_rfl) (fun hb679 => ?_) (fun hb679 => ?_)
          ·have H := ct H hb679
           refine In.run' 5 (k' := 57) rfl [(89, undef), (90, undef), (91, undef), (92, (.bool true)), (93, (.bool true))] (by kernel_rfl) ?_
           refine In.step (k' := 58) rfl (by kernel_rfl) ?_
           refine Step.load (t := 24) (x := (.tmp 11)) (g := g30) (off := 0) (i := 1) (v := (.agg #[(.int .u32 v53), (.int .i64 v54)])) (d := (some 94)) (k := 57) (by kernel_rfl) rfl (by kernel_rfl) hs678 rfl (by kernel_rfl) ?_
           refine In.run' 1 (k' := 59) rfl [(95, (.int .u32 p2))] (by kernel_rfl) ?_
           obtain ⟨z680, hz681, H⟩ := bind_elim H
           refine In.step (k' := 60) rfl (by kernel_rfl) ?_
           refine Step.callF (f := 21) (fo := (.func 21)) (xs := #[(.tmp 94), (.tmp 95)]) (tys := #[24, 22]) (first := #[]) (captured := #[]) (d := (some 96)) (k := 59) (by kernel_rfl) rfl (by kernel_rfl) (by kernel_rfl) Tryd.call21 (L_syntax_In_walk  v53 v54 p2 w675  z680 hz681) ?_
           rintro e w682 ⟨rfl, hs683⟩
           refine ⟨_, rfl, ?_⟩
           have hs684 := SP.call hs678 hs683
           clear hs683
           have hs685 : SP [] w0 w682 [boxE g17 24 #[(.int .u32 v51), (.int .i64 v52)], boxE g30 24 #[(.int .u32 v53), (.int .i64 v54)]] := hs684
           clear hs684
           refine In.run' 2 (k' := 62) rfl [(97, (.bool (!z680))), (98, (.bool (!z680)))] (by kernel_rfl) ?_
           refine In.guard (t := 98) (b := (!z680)) (by kernel_rfl) (fun hb686 => ?_) (fun hb686 => ?_)
           ·have H := ct H hb686
            refine In.run' 8 (k' := 70) rfl [(99, undef), (100, undef), (101, undef), (102, (.bool true)), (103, (.bool true)), (104, (.bool true)), (105, (.bool true)), (8, (.bool true))] (by kernel_rfl) ?_
            refine In.fin (by kernel_rfl) ?_
            exact ⟨true, ⟨(by kernel_rfl), trivial⟩, SP.sel hs685 [] rfl rfl, H⟩
           ·have H := cf H hb686
            refine In.step (k' := 63) rfl (by kernel_rfl) ?_
            refine Step.load (t := 24) (x := (.tmp 10)) (g := g17) (off := 0) (i := 0) (v := (.agg #[(.int .u32 v51), (.int .i64 v52)])) (d := (some 99)) (k := 62) (by kernel_rfl) rfl (by kernel_rfl) hs685 rfl (by kernel_rfl) ?_
            refine In.run' 1 (k' := 64) rfl [(100, (.int .u32 p2))] (by kernel_rfl) ?_
            obtain ⟨z687, hz688, H⟩ := bind_elim H
            refine In.step (k' := 65) rfl (by kernel_rfl) ?_
            refine Step.callF (f := 21) (fo := (.func 21)) (xs := #[(.tmp 99), (.tmp 100)]) (tys := #[24, 22]) (first := #[]) (captured := #[]) (d := (some 101)) (k := 64) (by kernel_rfl) rfl (by kernel_rfl) (by kernel_rfl) Tryd.call21 (L_syntax_In_walk  v51 v52 p2 w682  z687 hz688) ?_
            rintro e w689 ⟨rfl, hs690⟩
            refine ⟨_, rfl, ?_⟩
            have hs691 := SP.call hs685 hs690
            clear hs690
            have hs692 : SP [] w0 w689 [boxE g17 24 #[(.int .u32 v51), (.int .i64 v52)], boxE g30 24 #[(.int .u32 v53), (.int .i64 v54)]] := hs691
            clear hs691
            refine In.run' 5 (k' := 70) rfl [(102, (.bool z687)), (103, (.bool z687)), (104, (.bool z687)), (105, (.bool z687)), (8, (.bool z687))] (by kernel_rfl) ?_
            refine In.fin (by kernel_rfl) ?_
            exact ⟨z687, ⟨(by kernel_rfl), trivial⟩, SP.sel hs692 [] rfl rfl, H⟩
          ·have H := cf H hb679
           refine In.step (k' := 53) rfl (by kernel_rfl) ?_
           refine Step.load (t := 24) (x := (.tmp 10)) (g := g17) (off := 0) (i := 0) (v := (.agg #[(.int .u32 v51), (.int .i64 v52)])) (d := (some 89)) (k := 52) (by kernel_rfl) rfl (by kernel_rfl) hs678 rfl (by kernel_rfl) ?_
           refine In.run' 1 (k' := 54) rfl [(90, (.int .u32 p1))] (by kernel_rfl) ?_
           obtain ⟨z693, hz694, H⟩ := bind_elim H
           refine In.step (k' := 55) rfl (by kernel_rfl) ?_
           refine Step.callF (f := 21) (fo := (.func 21)) (xs := #[(.tmp 89), (.tmp 90)]) (tys := #[24, 22]) (first := #[]) (captured := #[]) (d := (some 91)) (k := 54) (by kernel_rfl) rfl (by kernel_rfl) (by kernel_rfl) Tryd.call21 (L_syntax_In_walk  v51 v52 p1 w675  z693 hz694) ?_
           rintro e w695 ⟨rfl, hs696⟩
           refine ⟨_, rfl, ?_⟩
           have hs697 := SP.call hs678 hs696
           clear hs696
           have hs698 : SP [] w0 w695 [boxE g17 24 #[(.int .u32 v51), (.int .i64 v52)], boxE g30 24 #[(.int .u32 v53), (.int .i64 v54)]] := hs697
           clear hs697
           refine In.run' 2 (k' := 57) rfl [(92, (.bool z693)), (93, (.bool z693))] (by kernel_rfl) ?_
           refine In.guard (t := 93) (b := z693) (by kernel_rfl) (fun hb699 => ?_) (fun hb699 => ?_)
           ·have H := ct H hb699
            refine In.step (k' := 58) rfl (by kernel_rfl) ?_
            refine Step.load (t := 24) (x := (.tmp 11)) (g := g30) (off := 0) (i := 1) (v := (.agg #[(.int .u32 v53), (.int .i64 v54)])) (d := (some 94)) (k := 57) (by kernel_rfl) rfl (by kernel_rfl) hs698 rfl (by kernel_rfl) ?_
            refine In.run' 1 (k' := 59) rfl [(95, (.int .u32 p2))] (by kernel_rfl) ?_
            obtain ⟨z700, hz701, H⟩ := bind_elim H
            refine In.step (k' := 60) rfl (by kernel_rfl) ?_
            refine Step.callF (f := 21) (fo := (.func 21)) (xs := #[(.tmp 94), (.tmp 95)]) (tys := #[24, 22]) (first := #[]) (captured := #[]) (d := (some 96)) (k := 59) (by kernel_rfl) rfl (by kernel_rfl) (by kernel_rfl) Tryd.call21 (L_syntax_In_walk  v53 v54 p2 w695  z700 hz701) ?_
            rintro e w702 ⟨rfl, hs703⟩
            refine ⟨_, rfl, ?_⟩
            have hs704 := SP.call hs698 hs703
            clear hs703
            have hs705 : SP [] w0 w702 [boxE g17 24 #[(.int .u32 v51), (.int .i64 v52)], boxE g30 24 #[(.int .u32 v53), (.int .i64 v54)]] := hs704
            clear hs704
            refine In.run' 2 (k' := 62) rfl [(97, (.bool (!z700))), (98, (.bool (!z700)))] (by kernel_rfl) ?_
            refine In.guard (t := 98) (b := (!z700)) (by kernel_rfl) (fun hb706 => ?_) (fun hb706 => ?_)
            ·have H := ct H hb706
             refine In.run' 8 (k' := 70) rfl [(99, undef), (100, undef), (101, undef), (102, (.bool true)), (103, (.bool true)), (104, (.bool true)), (105, (.bool true)), (8, (.bool true))] (by kernel_rfl) ?_
             refine In.fin (by kernel_rfl) ?_
             exact ⟨true, ⟨(by kernel_rfl), trivial⟩, SP.sel hs705 [] rfl rfl, H⟩
            ·have H := cf H hb706
             refine In.step (k' := 63) rfl (by kernel_rfl) ?_
             refine Step.load (t := 24) (x := (.tmp 10)) (g := g17) (off := 0) (i := 0) (v := (.agg #[(.int .u32 v51), (.int .i64 v52)])) (d := (some 99)) (k := 62) (by kernel_rfl) rfl (by kernel_rfl) hs705 rfl (by kernel_rfl) ?_
             refine In.run' 1 (k' := 64) rfl [(100, (.int .u32 p2))] (by kernel_rfl) ?_
             obtain ⟨z707, hz708, H⟩ := bind_elim H
             refine In.step (k' := 65) rfl (by kernel_rfl) ?_
             refine Step.callF (f := 21) (fo := (.func 21)) (xs := #[(.tmp 99), (.tmp 100)]) (tys := #[24, 22]) (first := #[]) (captured := #[]) (d := (some 101)) (k := 64) (by kernel_rfl) rfl (by kernel_rfl) (by kernel_rfl) Tryd.call21 (L_syntax_In_walk  v51 v52 p2 w702  z707 hz708) ?_
             rintro e w709 ⟨rfl, hs710⟩
             refine ⟨_, rfl, ?_⟩
             have hs711 := SP.call hs705 hs710
             clear hs710
             have hs712 : SP [] w0 w709 [boxE g17 24 #[(.int .u32 v51), (.int .i64 v52)], boxE g30 24 #[(.int .u32 v53), (.int .i64 v54)]] := hs711
             clear hs711
             refine In.run' 5 (k' := 70) rfl [(102, (.bool z707)), (103, (.bool z707)), (104, (.bool z707)), (105, (.bool z707)), (8, (.bool z707))] (by kernel_rfl) ?_
             refine In.fin (by kernel_rfl) ?_
             exact ⟨z707, ⟨(by kernel_rfl), trivial⟩, SP.sel hs712 [] rfl rfl, H⟩
           ·have H := cf H hb699
            refine In.run' 13 (k' := 70) rfl [(94, undef), (95, undef), (96, undef), (97, undef), (98, undef), (99, undef), (100, undef), (101, undef), (102, undef), (103, (.bool false)), (104, (.bool false)), (105, (.bool false)), (8, (.bool false))] (by kernel_rfl) ?_
            refine In.fin (by kernel_rfl) ?_
            exact ⟨false, ⟨(by kernel_rfl), trivial⟩, SP.sel hs698 [] rfl rfl, H⟩
        ·have H := cf H hb671
         refine In.step (k' := 32) rfl (by kernel_rfl) ?_
         refine Step.load (t := 24) (x := (.tmp 10)) (g := g17) (off := 0) (i := 0) (v := (.agg #[(.int .u32 v51), (.int .i64 v52)])) (d := (some 68)) (k := 31) (by kernel_rfl) rfl (by kernel_rfl) hs669 rfl (by kernel_rfl) ?_
         refine In.run' 1 (k' := 33) rfl [(69, (.int .u32 p2))] (by kernel_rfl) ?_
         obtain ⟨z713, hz714, H⟩ := bind_elim H
         refine In.step (k' := 34) rfl (by kernel_rfl) ?_
         refine Step.callF (f := 21) (fo := (.func 21)) (xs := #[(.tmp 68), (.tmp 69)]) (tys := #[24, 22]) (first := #[]) (captured := #[]) (d := (some 70)) (k := 33) (by kernel_rfl) rfl (by kernel_rfl) (by kernel_rfl) Tryd.call21 (L_syntax_In_walk  v51 v52 p2 w666  z713 hz714) ?_
         rintro e w715 ⟨rfl, hs716⟩
         refine ⟨_, rfl, ?_⟩
         have hs717 := SP.call hs669 hs716
         clear hs716
         have hs718 : SP [] w0 w715 [boxE g17 24 #[(.int .u32 v51), (.int .i64 v52)], boxE g30 24 #[(.int .u32 v53), (.int .i64 v54)]] := hs717
         clear hs717
         refine In.run' 3 (k' := 37) rfl [(71, (.bool (!z713))), (72, (.bool (!z713))), (73, (.bool (!z713)))] (by kernel_rfl) ?_
         refine In.guard (t := 73) (b := (!z713)) (by kernel_rfl) (fun hb719 => ?_) (fun hb719 => ?_)
         ·have H := ct H hb719
          refine In.run' 10 (k' := 47) rfl [(74, undef), (75, undef), (76, undef), (77, undef), (78, (.bool true)), (79, (.bool true)), (80, (.bool true)), (81, (.bool z57)), (82, (.bool (!z57))), (83, (.bool (!z57)))] (by kernel_rfl) ?_
          refine In.guard (t := 83) (b := (!z57)) (by kernel_rfl) (fun hb720 => ?_) (fun hb720 => ?_)
          ·have H := ct H hb720
           refine In.run' 23 (k' := 70) rfl [(84, undef), (85, undef), (86, undef), (87, undef), (88, undef), (89, undef), (90, undef), (91, undef), (92, undef), (93, undef), (94, undef), (95, undef), (96, undef), (97, undef), (98, undef), (99, undef), (100, undef), (101, undef), (102, undef), (103, undef), (104, (.bool true)), (105, (.bool true)), (8, (.bool true))] (by kernel_rfl) ?_
           refine In.fin (by kernel_rfl) ?_
           exact ⟨true, ⟨(by kernel_rfl), trivial⟩, SP.sel hs718 [] rfl rfl, H⟩
          ·have H := cf H hb720
           refine In.step (k' := 48) rfl (by kernel_rfl) ?_
           refine Step.load (t := 24) (x := (.tmp 11)) (g := g30) (off := 0) (i := 1) (v := (.agg #[(.int .u32 v53), (.int .i64 v54)])) (d := (some 84)) (k := 47) (by kernel_rfl) rfl (by kernel_rfl) hs718 rfl (by kernel_rfl) ?_
           refine In.run' 1 (k' := 49) rfl [(85, (.int .u32 p1))] (by kernel_rfl) ?_
           obtain ⟨z721, hz722, H⟩ := bind_elim H
           refine In.step (k' := 50) rfl (by kernel_rfl) ?_
           refine Step.callF (f := 21) (fo := (.func 21)) (xs := #[(.tmp 84), (.tmp 85)]) (tys := #[24, 22]) (first := #[]) (captured := #[]) (d := (some 86)) (k := 49) (by kernel_rfl) rfl (by kernel_rfl) (by kernel_rfl) Tryd.call21 (L_syntax_In_walk  v53 v54 p1 w715  z721 hz722) ?_
           rintro e w723 ⟨rfl, hs724⟩
           refine ⟨_, rfl, ?_⟩
           have hs725 := SP.call hs718 hs724
           clear hs724
           have hs726 : SP [] w0 w723 [boxE g17 24 #[(.int .u32 v51), (.int .i64 v52)], boxE g30 24 #[(.int .u32 v53), (.int .i64 v54)]] := hs725
           clear hs725
           refine In.run' 2 (k' := 52) rfl [(87, (.bool (!z721))), (88, (.bool (!z721)))] (by kernel_rfl) ?_
           refine In.guard (t := 88) (b := (!z721)) (by kernel_rfl) (fun hb727 => ?_) (fun hb727 => ?_)
           ·have H := ct H hb727
            refine In.run' 5 (k' := 57) rfl [(89, undef), (90, undef), (91, undef), (92, (.bool true)), (93, (.bool true))] (by kernel_rfl) ?_
            refine In.step (k' := 58) rfl (by kernel_rfl) ?_
            refine Step.load (t := 24) (x := (.tmp 11)) (g := g30) (off := 0) (i := 1) (v := (.agg #[(.int .u32 v53), (.int .i64 v54)])) (d := (some 94)) (k := 57) (by kernel_rfl) rfl (by kernel_rfl) hs726 rfl (by kernel_rfl) ?_
            refine In.run' 1 (k' := 59) rfl [(95, (.int .u32 p2))] (by kernel_rfl) ?_
            obtain ⟨z728, hz729, H⟩ := bind_elim H
            refine In.step (k' := 60) rfl (by kernel_rfl) ?_
            refine Step.callF (f := 21) (fo := (.func 21)) (xs := #[(.tmp 94), (.tmp 95)]) (tys := #[24, 22]) (first := #[]) (captured := #[]) (d := (some 96)) (k := 59) (by kernel_rfl) rfl (by kernel_rfl) (by kernel_rfl) Tryd.call21 (L_syntax_In_walk  v53 v54 p2 w723  z728 hz729) ?_
            rintro e w730 ⟨rfl, hs731⟩
            refine ⟨_, rfl, ?_⟩
            have hs732 := SP.call hs726 hs731
            clear hs731
            have hs733 : SP [] w0 w730 [boxE g17 24 #[(.int .u32 v51), (.int .i64 v52)], boxE g30 24 #[(.int .u32 v53), (.int .i64 v54)]] := hs732
            clear hs732
            refine In.run' 2 (k' := 62) rfl [(97, (.bool (!z728))), (98, (.bool (!z728)))] (by kernel_rfl) ?_
            refine In.guard (t := 98) (b := (!z728)) (by kernel_rfl) (fun hb734 => ?_) (fun hb734 => ?_)
            ·have H := ct H hb734
             refine In.run' 8 (k' := 70) rfl [(99, undef), (100, undef), (101, undef), (102, (.bool true)), (103, (.bool true)), (104, (.bool true)), (105, (.bool true)), (8, (.bool true))] (by kernel_rfl) ?_
             refine In.fin (by kernel_rfl) ?_
             exact ⟨true, ⟨(by kernel_rfl), trivial⟩, SP.sel hs733 [] rfl rfl, H⟩
            ·have H := cf H hb734
             refine In.step (k' := 63) rfl (by kernel_rfl) ?_
             refine Step.load (t := 24) (x := (.tmp 10)) (g := g17) (off := 0) (i := 0) (v := (.agg #[(.int .u32 v51), (.int .i64 v52)])) (d := (some 99)) (k := 62) (by kernel_rfl) rfl (by kernel_rfl) hs733 rfl (by kernel_rfl) ?_
             refine In.run' 1 (k' := 64) rfl [(100, (.int .u32 p2))] (by kernel_rfl) ?_
             obtain ⟨z735, hz736, H⟩ := bind_elim H
             refine In.step (k' := 65) rfl (by kernel_rfl) ?_
             refine Step.callF (f := 21) (fo := (.func 21)) (xs := #[(.tmp 99), (.tmp 100)]) (tys := #[24, 22]) (first := #[]) (captured := #[]) (d := (some 101)) (k := 64) (by kernel_rfl) rfl (by kernel_rfl) (by kernel_rfl) Tryd.call21 (L_syntax_In_walk  v51 v52 p2 w730  z735 hz736) ?_
             rintro e w737 ⟨rfl, hs738⟩
             refine ⟨_, rfl, ?_⟩
             have hs739 := SP.call hs733 hs738
             clear hs738
             have hs740 : SP [] w0 w737 [boxE g17 24 #[(.int .u32 v51), (.int .i64 v52)], boxE g30 24 #[(.int .u32 v53), (.int .i64 v54)]] := hs739
             clear hs739
             refine In.run' 5 (k' := 70) rfl [(102, (.bool z735)), (103, (.bool z735)), (104, (.bool z735)), (105, (.bool z735)), (8, (.bool z735))] (by kernel_rfl) ?_
             refine In.fin (by kernel_rfl) ?_
             exact ⟨z735, ⟨(by kernel_rfl), trivial⟩, SP.sel hs740 [] rfl rfl, H⟩
           ·have H := cf H hb727
            refine In.step (k' := 53) rfl (by kernel_rfl) ?_
            refine Step.load (t := 24) (x := (.tmp 10)) (g := g17) (off := 0) (i := 0) (v := (.agg #[(.int .u32 v51), (.int .i64 v52)])) (d := (some 89)) (k := 52) (by kernel_rfl) rfl (by kernel_rfl) hs726 rfl (by kernel_rfl) ?_
            refine In.run' 1 (k' := 54) rfl [(90, (.int .u32 p1))] (by kernel_rfl) ?_
            obtain ⟨z741, hz742, H⟩ := bind_elim H
            refine In.step (k' := 55) rfl (by kernel_rfl) ?_
            refine Step.callF (f := 21) (fo := (.func 21)) (xs := #[(.tmp 89), (.tmp 90)]) (tys := #[24, 22]) (first := #[]) (captured := #[]) (d := (some 91)) (k := 54) (by kernel_rfl) rfl (by kernel_rfl) (by kernel_rfl) Tryd.call21 (L_syntax_In_walk  v51 v52 p1 w723  z741 hz742) ?_
            rintro e w743 ⟨rfl, hs744⟩
            refine ⟨_, rfl, ?_⟩
            have hs745 := SP.call hs726 hs744
            clear hs744
            have hs746 : SP [] w0 w743 [boxE g17 24 #[(.int .u32 v51), (.int .i64 v52)], boxE g30 24 #[(.int .u32 v53), (.int .i64 v54)]] := hs745
            clear hs745
            refine In.run' 2 (k' := 57) rfl [(92, (.bool z741)), (93, (.bool z741))] (by kernel_rfl) ?_
            refine In.guard (t := 93) (b := z741) (by kernel_rfl) (fun hb747 => ?_) (fun hb747 => ?_)
            ·have H := ct H hb747
             refine In.step (k' := 58) rfl (by kernel_rfl) ?_
             refine Step.load (t := 24) (x := (.tmp 11)) (g := g30) (off := 0) (i := 1) (v := (.agg #[(.int .u32 v53), (.int .i64 v54)])) (d := (some 94)) (k := 57) (by kernel_rfl) rfl (by kernel_rfl) hs746 rfl (by kernel_rfl) ?_
             refine In.run' 1 (k' := 59) rfl [(95, (.int .u32 p2))] (by kernel_rfl) ?_
             obtain ⟨z748, hz749, H⟩ := bind_elim H
             refine In.step (k' := 60) rfl (by kernel_rfl) ?_
             refine Step.callF (f := 21) (fo := (.func 21)) (xs := #[(.tmp 94), (.tmp 95)]) (tys := #[24, 22]) (first := #[]) (captured := #[]) (d := (some 96)) (k := 59) (by kernel_rfl) rfl (by kernel_rfl) (by kernel_rfl) Tryd.call21 (L_syntax_In_walk  v53 v54 p2 w743  z748 hz749) ?_
             rintro e w750 ⟨rfl, hs751⟩
             refine ⟨_, rfl, ?_⟩
             have hs752 := SP.call hs746 hs751
             clear hs751
             have hs753 : SP [] w0 w750 [boxE g17 24 #[(.int .u32 v51), (.int .i64 v52)], boxE g30 24 #[(.int .u32 v53), (.int .i64 v54)]] := hs752
             clear hs752
             refine In.run' 2 (k' := 62) rfl [(97, (.bool (!z748))), (98, (.bool (!z748)))] (by kernel_rfl) ?_
             refine In.guard (t := 98) (b := (!z748)) (by kernel_rfl) (fun hb754 => ?_) (fun hb754 => ?_)
             ·have H := ct H hb754
              refine In.run' 8 (k' := 70) rfl [(99, undef), (100, undef), (101, undef), (102, (.bool true)), (103, (.bool true)), (104, (.bool true)), (105, (.bool true)), (8, (.bool true))] (by kernel_rfl) ?_
              refine In.fin (by kernel_rfl) ?_
              exact ⟨true, ⟨(by kernel_rfl), trivial⟩, SP.sel hs753 [] rfl rfl, H⟩
             ·have H := cf H hb754
              refine In.step (k' := 63) rfl (by kernel_rfl) ?_
              refine Step.load (t := 24) (x := (.tmp 10)) (g := g17) (off := 0) (i := 0) (v := (.agg #[(.int .u32 v51), (.int .i64 v52)])) (d := (some 99)) (k := 62) (by kernel_rfl) rfl (by kernel_rfl) hs753 rfl (by kernel_rfl) ?_
              refine In.run' 1 (k' := 64) rfl [(100, (.int .u32 p2))] (by kernel_rfl) ?_
              obtain ⟨z755, hz756, H⟩ := bind_elim H
              refine In.step (k' := 65) rfl (by kernel_rfl) ?_
              refine Step.callF (f := 21) (fo := (.func 21)) (xs := #[(.tmp 99), (.tmp 100)]) (tys := #[24, 22]) (first := #[]) (captured := #[]) (d := (some 101)) (k := 64) (by kernel_rfl) rfl (by kernel_rfl) (by kernel_rfl) Tryd.call21 (L_syntax_In_walk  v51 v52 p2 w750  z755 hz756) ?_
              rintro e w757 ⟨rfl, hs758⟩
              refine ⟨_, rfl, ?_⟩
              have hs759 := SP.call hs753 hs758
              clear hs758
              have hs760 : SP [] w0 w757 [boxE g17 24 #[(.int .u32 v51), (.int .i64 v52)], boxE g30 24 #[(.int .u32 v53), (.int .i64 v54)]] := hs759
              clear hs759
              refine In.run' 5 (k' := 70) rfl [(102, (.bool z755)), (103, (.bool z755)), (104, (.bool z755)), (105, (.bool z755)), (8, (.bool z755))] (by kernel_rfl) ?_
              refine In.fin (by kernel_rfl) ?_
              exact ⟨z755, ⟨(by kernel_rfl), trivial⟩, SP.sel hs760 [] rfl rfl, H⟩
            ·have H := cf H hb747
             refine In.run' 13 (k' := 70) rfl [(94, undef), (95, undef), (96, undef), (97, undef), (98, undef), (99, undef), (100, undef), (101, undef), (102, undef), (103, (.bool false)), (104, (.bool false)), (105, (.bool false)), (8, (.bool false))] (by kernel_rfl) ?_
             refine In.fin (by kernel_rfl) ?_
             exact ⟨false, ⟨(by kernel_rfl), trivial⟩, SP.sel hs746 [] rfl rfl, H⟩
         ·have H := cf H hb719
          refine In.step (k' := 38) rfl (by kernel_rfl) ?_
          refine Step.load (t := 24) (x := (.tmp 11)) (g := g30) (off := 0) (i := 1) (v := (.agg #[(.int .u32 v53), (.int .i64 v54)])) (d := (some 74)) (k := 37) (by kernel_rfl) rfl (by kernel_rfl) hs718 rfl (by kernel_rfl) ?_
          refine In.run' 1 (k' := 39) rfl [(75, (.int .u32 p2))] (by kernel_rfl) ?_
          obtain ⟨z761, hz762, H⟩ := bind_elim H
          refine In.step (k' := 40) rfl (by kernel_rfl) ?_
          refine Step.callF (f := 21) (fo := (.func 21)) (xs := #[(.tmp 74), (.tmp 75)]) (tys := #[24, 22]) (first := #[]) (captured := #[]) (d := (some 76)) (k := 39) (by kernel_rfl) rfl (by kernel_rfl) (by kernel_rfl) Tryd.call21 (L_syntax_In_walk  v53 v54 p2 w715  z761 hz762) ?_
          rintro e w763 ⟨rfl, hs764⟩
          refine ⟨_, rfl, ?_⟩
          have hs765 := SP.call hs718 hs764
          clear hs764
          have hs766 : SP [] w0 w763 [boxE g17 24 #[(.int .u32 v51), (.int .i64 v52)], boxE g30 24 #[(.int .u32 v53), (.int .i64 v54)]] := hs765
          clear hs765
          refine In.run' 4 (k' := 44) rfl [(77, (.bool (!z761))), (78, (.bool (!z761))), (79, (.bool (!z761))), (80, (.bool (!z761)))] (by kernel_rfl) ?_
          refine In.guard (t := 80) (b := (!z761)) (by kernel_rfl) (fun hb767 => ?_) (fun hb767 => ?_)
          ·have H := ct H hb767
           refine In.run' 3 (k' := 47) rfl [(81, (.bool z57)), (82, (.bool (!z57))), (83, (.bool (!z57)))] (by kernel_rfl) ?_
           refine In.guard (t := 83) (b := (!z57)) (by kernel_rfl) (fun hb768 => ?_) (fun hb768 => ?_)
           ·have H := ct H hb768
            refine In.run' 23 (k' := 70) rfl [(84, undef), (85, undef), (86, undef), (87, undef), (88, undef), (89, undef), (90, undef), (91, undef), (92, undef), (93, undef), (94, undef), (95, undef), (96, undef), (97, undef), (98, undef), (99, undef), (100, undef), (101, undef), (102, undef), (103, undef), (104, (.bool true)), (105, (.bool true)), (8, (.bool true))] (by kernel_rfl) ?_
            refine In.fin (by kernel_rfl) ?_
            exact ⟨true, ⟨(by kernel_rfl), trivial⟩, SP.sel hs766 [] rfl rfl, H⟩
           ·have H := cf H hb768
            refine In.step (k' := 48) rfl (by kernel_rfl) ?_
            refine Step.load (t := 24) (x := (.tmp 11)) (g := g30) (off := 0) (i := 1) (v := (.agg #[(.int .u32 v53), (.int .i64 v54)])) (d := (some 84)) (k := 47) (by kernel_rfl) rfl (by kernel_rfl) hs766 rfl (by kernel_rfl) ?_
            refine In.run' 1 (k' := 49) rfl [(85, (.int .u32 p1))] (by kernel_rfl) ?_
            obtain ⟨z769, hz770, H⟩ := bind_elim H
            refine In.step (k' := 50) rfl (by kernel_rfl) ?_
            refine Step.callF (f := 21) (fo := (.func 21)) (xs := #[(.tmp 84), (.tmp 85)]) (tys := #[24, 22]) (first := #[]) (captured := #[]) (d := (some 86)) (k := 49) (by kernel_rfl) rfl (by kernel_rfl) (by kernel_rfl) Tryd.call21 (L_syntax_In_walk  v53 v54 p1 w763  z769 hz770) ?_
            rintro e w771 ⟨rfl, hs772⟩
            refine ⟨_, rfl, ?_⟩
            have hs773 := SP.call hs766 hs772
            clear hs772
            have hs774 : SP [] w0 w771 [boxE g17 24 #[(.int .u32 v51), (.int .i64 v52)], boxE g30 24 #[(.int .u32 v53), (.int .i64 v54)]] := hs773
            clear hs773
            refine In.run' 2 (k' := 52) rfl [(87, (.bool (!z769))), (88, (.bool (!z769)))] (by kernel_rfl) ?_
            refine In.guard (t := 88) (b := (!z769)) (by kernel_rfl) (fun hb775 => ?_) (fun hb775 => ?_)
            ·have H := ct H hb775
             refine In.run' 5 (k' := 57) rfl [(89, undef), (90, undef), (91, undef), (92, (.bool true)), (93, (.bool true))] (by kernel_rfl) ?_
             refine In.step (k' := 58) rfl (by kernel_rfl) ?_
             refine Step.load (t := 24) (x := (.tmp 11)) (g := g30) (off := 0) (i := 1) (v := (.agg #[(.int .u32 v53), (.int .i64 v54)])) (d := (some 94)) (k := 57) (by kernel_rfl) rfl (by kernel_rfl) hs774 rfl (by kernel_rfl) ?_
             refine In.run' 1 (k' := 59) rfl [(95, (.int .u32 p2))] (by kernel_rfl) ?_
             obtain ⟨z776, hz777, H⟩ := bind_elim H
             refine In.step (k' := 60) rfl (by kernel_rfl) ?_
             refine Step.callF (f := 21) (fo := (.func 21)) (xs := #[(.tmp 94), (.tmp 95)]) (tys := #[24, 22]) (first := #[]) (captured := #[]) (d := (some 96)) (k := 59) (by kernel_rfl) rfl (by kernel_rfl) (by kernel_rfl) Tryd.call21 (L_syntax_In_walk  v53 v54 p2 w771  z776 hz777) ?_
             rintro e w778 ⟨rfl, hs779⟩
             refine ⟨_, rfl, ?_⟩
             have hs780 := SP.call hs774 hs779
             clear hs779
             have hs781 : SP [] w0 w778 [boxE g17 24 #[(.int .u32 v51), (.int .i64 v52)], boxE g30 24 #[(.int .u32 v53), (.int .i64 v54)]] := hs780
             clear hs780
             refine In.run' 2 (k' := 62) rfl [(97, (.bool (!z776))), (98, (.bool (!z776)))] (by kernel_rfl) ?_
             refine In.guard (t := 98) (b := (!z776)) (by kernel_rfl) (fun hb782 => ?_) (fun hb782 => ?_)
             ·have H := ct H hb782
              refine In.run' 8 (k' := 70) rfl [(99, undef), (100, undef), (101, undef), (102, (.bool true)), (103, (.bool true)), (104, (.bool true)), (105, (.bool true)), (8, (.bool true))] (by kernel_rfl) ?_
              refine In.fin (by kernel_rfl) ?_
              exact ⟨true, ⟨(by kernel_rfl), trivial⟩, SP.sel hs781 [] rfl rfl, H⟩
             ·have H := cf H hb782
              refine In.step (k' := 63) rfl (by kernel_rfl) ?_
              refine Step.load (t := 24) (x := (.tmp 10)) (g := g17) (off := 0) (i := 0) (v := (.agg #[(.int .u32 v51), (.int .i64 v52)])) (d := (some 99)) (k := 62) (by kernel_rfl) rfl (by kernel_rfl) hs781 rfl (by kernel_rfl) ?_
              refine In.run' 1 (k' := 64) rfl [(100, (.int .u32 p2))] (by kernel_rfl) ?_
              obtain ⟨z783, hz784, H⟩ := bind_elim H
              refine In.step (k' := 65) rfl (by kernel_rfl) ?_
              refine Step.callF (f := 21) (fo := (.func 21)) (xs := #[(.tmp 99), (.tmp 100)]) (tys := #[24, 22]) (first := #[]) (captured := #[]) (d := (some 101)) (k := 64) (by kernel_rfl) rfl (by kernel_rfl) (by kernel_rfl) Tryd.call21 (L_syntax_In_walk  v51 v52 p2 w778  z783 hz784) ?_
              rintro e w785 ⟨rfl, hs786⟩
              refine ⟨_, rfl, ?_⟩
              have hs787 := SP.call hs781 hs786
              clear hs786
              have hs788 : SP [] w0 w785 [boxE g17 24 #[(.int .u32 v51), (.int .i64 v52)], boxE g30 24 #[(.int .u32 v53), (.int .i64 v54)]] := hs787
              clear hs787
              refine In.run' 5 (k' := 70) rfl [(102, (.bool z783)), (103, (.bool z783)), (104, (.bool z783)), (105, (.bool z783)), (8, (.bool z783))] (by kernel_rfl) ?_
              refine In.fin (by kernel_rfl) ?_
              exact ⟨z783, ⟨(by kernel_rfl), trivial⟩, SP.sel hs788 [] rfl rfl, H⟩
            ·have H := cf H hb775
             refine In.step (k' := 53) rfl (by kernel_rfl) ?_
             refine Step.load (t := 24) (x := (.tmp 10)) (g := g17) (off := 0) (i := 0) (v := (.agg #[(.int .u32 v51), (.int .i64 v52)])) (d := (some 89)) (k := 52) (by kernel_rfl) rfl (by kernel_rfl) hs774 rfl (by kernel_rfl) ?_
             refine In.run' 1 (k' := 54) rfl [(90, (.int .u32 p1))] (by kernel_rfl) ?_
             obtain ⟨z789, hz790, H⟩ := bind_elim H
             refine In.step (k' := 55) rfl (by kernel_rfl) ?_
             refine Step.callF (f := 21) (fo := (.func 21)) (xs := #[(.tmp 89), (.tmp 90)]) (tys := #[24, 22]) (first := #[]) (captured := #[]) (d := (some 91)) (k := 54) (by kernel_rfl) rfl (by kernel_rfl) (by kernel_rfl) Tryd.call21 (L_syntax_In_walk  v51 v52 p1 w771  z789 hz790) ?_
             rintro e w791 ⟨rfl, hs792⟩
             refine ⟨_, rfl, ?_⟩
             have hs793 := SP.call hs774 hs792
             clear hs792
             have hs794 : SP [] w0 w791 [boxE g17 24 #[(.int .u32 v51), (.int .i64 v52)], boxE g30 24 #[(.int .u32 v53), (.int .i64 v54)]] := hs793
             clear hs793
             refine In.run' 2 (k' := 57) rfl [(92, (.bool z789)), (93, (.bool z789))] (by kernel_rfl) ?_
             refine In.guard (t := 93) (b := z789) (by kernel_rfl) (fun hb795 => ?_) (fun hb795 => ?_)
             ·have H := ct H hb795
              refine In.step (k' := 58) rfl (by kernel_rfl) ?_
              refine Step.load (t := 24) (x := (.tmp 11)) (g := g30) (off := 0) (i := 1) (v := (.agg #[(.int .u32 v53), (.int .i64 v54)])) (d := (some 94)) (k := 57) (by kernel_rfl) rfl (by kernel_rfl) hs794 rfl (by kernel_rfl) ?_
              refine In.run' 1 (k' := 59) rfl [(95, (.int .u32 p2))] (by kernel_rfl) ?_
              obtain ⟨z796, hz797, H⟩ := bind_elim H
              refine In.step (k' := 60) rfl (by kernel_rfl) ?_
              refine Step.callF (f := 21) (fo := (.func 21)) (xs := #[(.tmp 94), (.tmp 95)]) (tys := #[24, 22]) (first := #[]) (captured := #[]) (d := (some 96)) (k := 59) (by kernel_rfl) rfl (by kernel_rfl) (by kernel_rfl) Tryd.call21 (L_syntax_In_walk  v53 v54 p2 w791  z796 hz797) ?_
              rintro e w798 ⟨rfl, hs799⟩
              refine ⟨_, rfl, ?_⟩
              have hs800 := SP.call hs794 hs799
              clear hs799
              have hs801 : SP [] w0 w798 [boxE g17 24 #[(.int .u32 v51), (.int .i64 v52)], boxE g30 24 #[(.int .u32 v53), (.int .i64 v54)]] := hs800
              clear hs800
              refine In.run' 2 (k' := 62) rfl [(97, (.bool (!z796))), (98, (.bool (!z796)))] (by kernel_rfl) ?_
              refine In.guard (t := 98) (b := (!z796)) (by kernel_rfl) (fun hb802 => ?_) (fun hb802 => ?_)
              ·have H := ct H hb802
               refine In.run' 8 (k' := 70) rfl [(99, undef), (100, undef), (101, undef), (102, (.bool true)), (103, (.bool true)), (104, (.bool true)), (105, (.bool true)), (8, (.bool true))] (by kernel_rfl) ?_
               refine In.fin (by kernel_rfl) ?_
               exact ⟨true, ⟨(by kernel_rfl), trivial⟩, SP.sel hs801 [] rfl rfl, H⟩
              ·have H := cf H hb802
               refine In.step (k' := 63) rfl (by kernel_rfl) ?_
               refine Step.load (t := 24) (x := (.tmp 10)) (g := g17) (off := 0) (i := 0) (v := (.agg #[(.int .u32 v51), (.int .i64 v52)])) (d := (some 99)) (k := 62) (by kernel_rfl) rfl (by kernel_rfl) hs801 rfl (by kernel_rfl) ?_
               refine In.run' 1 (k' := 64) rfl [(100, (.int .u32 p2))] (by kernel_rfl) ?_
               obtain ⟨z803, hz804, H⟩ := bind_elim H
               refine In.step (k' := 65) rfl (by kernel_rfl) ?_
               refine Step.callF (f := 21) (fo := (.func 21)) (xs := #[(.tmp 99), (.tmp 100)]) (tys := #[24, 22]) (first := #[]) (captured := #[]) (d := (some 101)) (k := 64) (by kernel_rfl) rfl (by kernel_rfl) (by kernel_rfl) Tryd.call21 (L_syntax_In_walk  v51 v52 p2 w798  z803 hz804) ?_
               rintro e w805 ⟨rfl, hs806⟩
               refine ⟨_, rfl, ?_⟩
               have hs807 := SP.call hs801 hs806
               clear hs806
               have hs808 : SP [] w0 w805 [boxE g17 24 #[(.int .u32 v51), (.int .i64 v52)], boxE g30 24 #[(.int .u32 v53), (.int .i64 v54)]] := hs807
               clear hs807
               refine In.run' 5 (k' := 70) rfl [(102, (.bool z803)), (103, (.bool z803)), (104, (.bool z803)), (105, (.bool z803)), (8, (.bool z803))] (by kernel_rfl) ?_
               refine In.fin (by kernel_rfl) ?_
               exact ⟨z803, ⟨(by kernel_rfl), trivial⟩, SP.sel hs808 [] rfl rfl, H⟩
             ·have H := cf H hb795
              refine In.run' 13 (k' := 70) rfl [(94, undef), (95, undef), (96, undef), (97, undef), (98, undef), (99, undef), (100, undef), (101, undef), (102, undef), (103, (.bool false)), (104, (.bool false)), (105, (.bool false)), (8, (.bool false))] (by kernel_rfl) ?_
              refine In.fin (by kernel_rfl) ?_
              exact ⟨false, ⟨(by kernel_rfl), trivial⟩, SP.sel hs794 [] rfl rfl, H⟩
          ·have H := cf H hb767
           refine In.run' 26 (k' := 70) rfl [(81, undef), (82, undef), (83, undef), (84, undef), (85, undef), (86, undef), (87, undef), (88, undef), (89, undef), (90, undef), (91, undef), (92, undef), (93, undef), (94, undef), (95, undef), (96, undef), (97, undef), (98, undef), (99, undef), (100, undef), (101, undef), (102, undef), (103, undef), (104, undef), (105, (.bool false)), (8, (.bool false))] (by kernel_rfl) ?_
           refine In.fin (by kernel_rfl) ?_
           exact ⟨false, ⟨(by kernel_rfl), trivial⟩, SP.sel hs766 [] rfl rfl, H⟩
       ·have H := cf H hb670
        refine In.step (k' := 23) rfl (by kernel_rfl) ?_
        refine Step.load (t := 24) (x := (.tmp 11)) (g := g30) (off := 0) (i := 1) (v := (.agg #[(.int .u32 v53), (.int .i64 v54)])) (d := (some 59)) (k := 22) (by kernel_rfl) rfl (by kernel_rfl) hs669 rfl (by kernel_rfl) ?_
        refine In.run' 1 (k' := 24) rfl [(60, (.int .u32 p1))] (by kernel_rfl) ?_
        obtain ⟨z809, hz810, H⟩ := bind_elim H
        refine In.step (k' := 25) rfl (by kernel_rfl) ?_
        refine Step.callF (f := 21) (fo := (.func 21)) (xs := #[(.tmp 59), (.tmp 60)]) (tys := #[24, 22]) (first := #[]) (captured := #[]) (d := (some 61)) (k := 24) (by kernel_rfl) rfl (by kernel_rfl) (by kernel_rfl) Tryd.call21 (L_syntax_In_walk  v53 v54 p1 w666  z809 hz810) ?_
        rintro e w811 ⟨rfl, hs812⟩
        refine ⟨_, rfl, ?_⟩
        have hs813 := SP.call hs669 hs812
        clear hs812
        have hs814 : SP [] w0 w811 [boxE g17 24 #[(.int .u32 v51), (.int .i64 v52)], boxE g30 24 #[(.int .u32 v53), (.int .i64 v54)]] := hs813
        clear hs813
        refine In.run' 4 (k' := 29) rfl [(62, (.bool (!z809))), (63, (.bool (!z809))), (64, (.bool (!z809))), (65, (.bool (!z809)))] (by kernel_rfl) ?_
        refine In.guard (t := 65) (b := (!z809)) (by kernel_rfl) (fun hb815 => ?_) (fun hb815 => ?_)
        ·have H := ct H hb815
         refine In.run' 2 (k' := 31) rfl [(66, (.bool z57)), (67, (.bool z57))] (by kernel_rfl) ?_
         refine In.guard (t := 67) (b := z57) (by kernel_rfl) (fun hb816 => ?_) (fun hb816 => ?_)
         ·have H := ct H hb816
          refine In.run' 16 (k' := 47) rfl [(68, undef), (69, undef), (70, undef), (71, undef), (72, (.bool true)), (73, (.bool true)), (74, undef), (75, undef), (76, undef), (77, undef), (78, (.bool true)), (79, (.bool true)), (80, (.bool true)), (81, (.bool z57)), (82, (.bool (!z57))), (83, (.bool (!z57)))] (by kernel_rfl) ?_
          refine In.guard (t := 83) (b := (!z57)) (by kernel_rfl) (fun hb817 => ?_) (fun hb817 => ?_)
          ·have H := ct H hb817
           refine In.run' 23 (k' := 70) rfl [(84, undef), (85, undef), (86, undef), (87, undef), (88, undef), (89, undef), (90, undef), (91, undef), (92, undef), (93, undef), (94, undef), (95, undef), (96, undef), (97, undef), (98, undef), (99, undef), (100, undef), (101, undef), (102, undef), (103, undef), (104, (.bool true)), (105, (.bool true)), (8, (.bool true))] (by kernel_rfl) ?_
           refine In.fin (by kernel_rfl) ?_
           exact ⟨true, ⟨(by kernel_rfl), trivial⟩, SP.sel hs814 [] rfl rfl, H⟩
          ·have H := cf H hb817
           refine In.step (k' := 48) rfl (by kernel_rfl) ?_
           refine Step.load (t := 24) (x := (.tmp 11)) (g := g30) (off := 0) (i := 1) (v := (.agg #[(.int .u32 v53), (.int .i64 v54)])) (d := (some 84)) (k := 47) (by kernel_rfl) rfl (by kernel_rfl) hs814 rfl (by kernel_rfl) ?_
           refine In.run' 1 (k' := 49) rfl [(85, (.int .u32 p1))] (by kernel_rfl) ?_
           obtain ⟨z818, hz819, H⟩ := bind_elim H
           refine In.step (k' := 50) rfl (by kernel_rfl) ?_
           refine Step.callF (f := 21) (fo := (.func 21)) (xs := #[(.tmp 84), (.tmp 85)]) (tys := #[24, 22]) (first := #[]) (captured := #[]) (d := (some 86)) (k := 49) (by kernel_rfl) rfl (by kernel_rfl) (by kernel_rfl) Tryd.call21 (L_syntax_In_walk  v53 v54 p1 w811  z818 hz819) ?_
           rintro e w820 ⟨rfl, hs821⟩
           refine ⟨_, rfl, ?_⟩
           have hs822 := SP.call hs814 hs821
           clear hs821
           have hs823 : SP [] w0 w820 [boxE g17 24 #[(.int .u32 v51), (.int .i64 v52)], boxE g30 24 #[(.int .u32 v53), (.int .i64 v54)]] := hs822
           clear hs822
           refine In.run' 2 (k' := 52) rfl [(87, (.bool (!z818))), (88, (.bool (!z818)))] (by kernel_rfl) ?_
           refine In.guard (t := 88) (b := (!z818)) (by kernel_rfl) (fun hb824 => ?_) (fun hb824 => ?_)
           ·have H := ct H hb824
            refine In.run' 5 (k' := 57) rfl [(89, undef), (90, undef), (91, undef), (92, (.bool true)), (93, (.bool true))] (by kernel_rfl) ?_
            refine In.step (k' := 58) rfl (by kernel_rfl) ?_
            refine Step.load (t := 24) (x := (.tmp 11)) (g := g30) (off := 0) (i := 1) (v := (.agg #[(.int .u32 v53), (.int .i64 v54)])) (d := (some 94)) (k := 57) (by kernel_rfl) rfl (by kernel_rfl) hs823 rfl (by kernel_rfl) ?_
            refine In.run' 1 (k' := 59) rfl [(95, (.int .u32 p2))] (by kernel_rfl) ?_
            obtain ⟨z825, hz826, H⟩ := bind_elim H
            refine In.step (k' := 60) rfl (by kernel_rfl) ?_
            refine Step.callF (f := 21) (fo := (.func 21)) (xs := #[(.tmp 94), (.tmp 95)]) (tys := #[24, 22]) (first := #[]) (captured := #[]) (d := (some 96)) (k := 59) (by kernel_rfl) rfl (by kernel_rfl) (by kernel_rfl) Tryd.call21 (L_syntax_In_walk  v53 v54 p2 w820  z825 hz826) ?_
            rintro e w827 ⟨rfl, hs828⟩
            refine ⟨_, rfl, ?_⟩
            have hs829 := SP.call hs823 hs828
            clear hs828
            have hs830 : SP [] w0 w827 [boxE g17 24 #[(.int .u32 v51), (.int .i64 v52)], boxE g30 24 #[(.int .u32 v53), (.int .i64 v54)]] := hs829
            clear hs829
            refine In.run' 2 (k' := 62) rfl [(97, (.bool (!z825))), (98, (.bool (!z825)))] (by kernel_rfl) ?_
            refine In.guard (t := 98) (b := (!z825)) (by kernel_rfl) (fun hb831 => ?_) (fun hb831 => ?_)
            ·have H := ct H hb831
             refine In.run' 8 (k' := 70) rfl [(99, undef), (100, undef), (101, undef), (102, (.bool true)), (103, (.bool true)), (104, (.bool true)), (105, (.bool true)), (8, (.bool true))] (by kernel_rfl) ?_
             refine In.fin (by kernel_rfl) ?_
             exact ⟨true, ⟨(by kernel_rfl), trivial⟩, SP.sel hs830 [] rfl rfl, H⟩
            ·have H := cf H hb831
             refine In.step (k' := 63) rfl (by kernel_rfl) ?_
             refine Step.load (t := 24) (x := (.tmp 10)) (g := g17) (off := 0) (i := 0) (v := (.agg #[(.int .u32 v51), (.int .i64 v52)])) (d := (some 99)) (k := 62) (by kernel_rfl) rfl (by kernel_rfl) hs830 rfl (by kernel_rfl) ?_
             refine In.run' 1 (k' := 64) rfl [(100, (.int .u32 p2))] (by kernel_rfl) ?_
             obtain ⟨z832, hz833, H⟩ := bind_elim H
             refine In.step (k' := 65) rfl (by kernel_rfl) ?_
             refine Step.callF (f := 21) (fo := (.func 21)) (xs := #[(.tmp 99), (.tmp 100)]) (tys := #[24, 22]) (first := #[]) (captured := #[]) (d := (some 101)) (k := 64) (by kernel_rfl) rfl (by kernel_rfl) (by kernel_rfl) Tryd.call21 (L_syntax_In_walk  v51 v52 p2 w827  z832 hz833) ?_
             rintro e w834 ⟨rfl, hs835⟩
             refine ⟨_, rfl, ?_⟩
             have hs836 := SP.call hs830 hs835
             clear hs835
             have hs837 : SP [] w0 w834 [boxE g17 24 #[(.int .u32 v51), (.int .i64 v52)], boxE g30 24 #[(.int .u32 v53), (.int .i64 v54)]] := hs836
             clear hs836
             refine In.run' 5 (k' := 70) rfl [(102, (.bool z832)), (103, (.bool z832)), (104, (.bool z832)), (105, (.bool z832)), (8, (.bool z832))] (by kernel_rfl) ?_
             refine In.fin (by kernel_rfl) ?_
             exact ⟨z832, ⟨(by kernel_rfl), trivial⟩, SP.sel hs837 [] rfl rfl, H⟩
           ·have H := cf H hb824
            refine In.step (k' := 53) rfl (by kernel_rfl) ?_
            refine Step.load (t := 24) (x := (.tmp 10)) (g := g17) (off := 0) (i := 0) (v := (.agg #[(.int .u32 v51), (.int .i64 v52)])) (d := (some 89)) (k := 52) (by kernel_rfl) rfl (by kernel_rfl) hs823 rfl (by kernel_rfl) ?_
            refine In.run' 1 (k' := 54) rfl [(90, (.int .u32 p1))] (by kernel_rfl) ?_
            obtain ⟨z838, hz839, H⟩ := bind_elim H
            refine In.step (k' := 55) rfl (by kernel_rfl) ?_
            refine Step.callF (f := 21) (fo := (.func 21)) (xs := #[(.tmp 89), (.tmp 90)]) (tys := #[24, 22]) (first := #[]) (captured := #[]) (d := (some 91)) (k := 54) (by kernel_rfl) rfl (by kernel_rfl) (by kernel_rfl) Tryd.call21 (L_syntax_In_walk  v51 v52 p1 w820  z838 hz839) ?_
            rintro e w840 ⟨rfl, hs841⟩
            refine ⟨_, rfl, ?_⟩
            have hs842 := SP.call hs823 hs841
            clear hs841
            have hs843 : SP [] w0 w840 [boxE g17 24 #[(.int .u32 v51), (.int .i64 v52)], boxE g30 24 #[(.int .u32 v53), (.int .i64 v54)]] := hs842
            clear hs842
            refine In.run' 2 (k' := 57) rfl [(92, (.bool z838)), (93, (.bool z838))] (by kernel_rfl) ?_
            refine In.guard (t := 93) (b := z838) (by kernel_rfl) (fun hb844 => ?_) (fun hb844 => ?_)
            ·have H := ct H hb844
             refine In.step (k' := 58) rfl (by kernel_rfl) ?_
             refine Step.load (t := 24) (x := (.tmp 11)) (g := g30) (off := 0) (i := 1) (v := (.agg #[(.int .u32 v53), (.int .i64 v54)])) (d := (some 94)) (k := 57) (by kernel_rfl) rfl (by kernel_rfl) hs843 rfl (by kernel_rfl) ?_
             refine In.run' 1 (k' := 59) rfl [(95, (.int .u32 p2))] (by kernel_rfl) ?_
             obtain ⟨z845, hz846, H⟩ := bind_elim H
             refine In.step (k' := 60) rfl (by kernel_rfl) ?_
             refine Step.callF (f := 21) (fo := (.func 21)) (xs := #[(.tmp 94), (.tmp 95)]) (tys := #[24, 22]) (first := #[]) (captured := #[]) (d := (some 96)) (k := 59) (by kernel_rfl) rfl (by kernel_rfl) (by kernel_rfl) Tryd.call21 (L_syntax_In_walk  v53 v54 p2 w840  z845 hz846) ?_
             rintro e w847 ⟨rfl, hs848⟩
             refine ⟨_, rfl, ?_⟩
             have hs849 := SP.call hs843 hs848
             clear hs848
             have hs850 : SP [] w0 w847 [boxE g17 24 #[(.int .u32 v51), (.int .i64 v52)], boxE g30 24 #[(.int .u32 v53), (.int .i64 v54)]] := hs849
             clear hs849
             refine In.run' 2 (k' := 62) rfl [(97, (.bool (!z845))), (98, (.bool (!z845)))] (by kernel_rfl) ?_
             refine In.guard (t := 98) (b := (!z845)) (by kernel_rfl) (fun hb851 => ?_) (fun hb851 => ?_)
             ·have H := ct H hb851
              refine In.run' 8 (k' := 70) rfl [(99, undef), (100, undef), (101, undef), (102, (.bool true)), (103, (.bool true)), (104, (.bool true)), (105, (.bool true)), (8, (.bool true))] (by kernel_rfl) ?_
              refine In.fin (by kernel_rfl) ?_
              exact ⟨true, ⟨(by kernel_rfl), trivial⟩, SP.sel hs850 [] rfl rfl, H⟩
             ·have H := cf H hb851
              refine In.step (k' := 63) rfl (by kernel_rfl) ?_
              refine Step.load (t := 24) (x := (.tmp 10)) (g := g17) (off := 0) (i := 0) (v := (.agg #[(.int .u32 v51), (.int .i64 v52)])) (d := (some 99)) (k := 62) (by kernel_rfl) rfl (by kernel_rfl) hs850 rfl (by kernel_rfl) ?_
              refine In.run' 1 (k' := 64) rfl [(100, (.int .u32 p2))] (by kernel_rfl) ?_
              obtain ⟨z852, hz853, H⟩ := bind_elim H
              refine In.step (k' := 65) rfl (by kernel_rfl) ?_
              refine Step.callF (f := 21) (fo := (.func 21)) (xs := #[(.tmp 99), (.tmp 100)]) (tys := #[24, 22]) (first := #[]) (captured := #[]) (d := (some 101)) (k := 64) (by kernel_rfl) rfl (by kernel_rfl) (by kernel_rfl) Tryd.call21 (L_syntax_In_walk  v51 v52 p2 w847  z852 hz853) ?_
              rintro e w854 ⟨rfl, hs855⟩
              refine ⟨_, rfl, ?_⟩
              have hs856 := SP.call hs850 hs855
              clear hs855
              have hs857 : SP [] w0 w854 [boxE g17 24 #[(.int .u32 v51), (.int .i64 v52)], boxE g30 24 #[(.int .u32 v53), (.int .i64 v54)]] := hs856
              clear hs856
              refine In.run' 5 (k' := 70) rfl [(102, (.bool z852)), (103, (.bool z852)), (104, (.bool z852)), (105, (.bool z852)), (8, (.bool z852))] (by kernel_rfl) ?_
              refine In.fin (by kernel_rfl) ?_
              exact ⟨z852, ⟨(by kernel_rfl), trivial⟩, SP.sel hs857 [] rfl rfl, H⟩
            ·have H := cf H hb844
             refine In.run' 13 (k' := 70) rfl [(94, undef), (95, undef), (96, undef), (97, undef), (98, undef), (99, undef), (100, undef), (101, undef), (102, undef), (103, (.bool false)), (104, (.bool false)), (105, (.bool false)), (8, (.bool false))] (by kernel_rfl) ?_
             refine In.fin (by kernel_rfl) ?_
             exact ⟨false, ⟨(by kernel_rfl), trivial⟩, SP.sel hs843 [] rfl rfl, H⟩
         ·have H := cf H hb816
          refine In.step (k' := 32) rfl (by kernel_rfl) ?_
          refine Step.load (t := 24) (x := (.tmp 10)) (g := g17) (off := 0) (i := 0) (v := (.agg #[(.int .u32 v51), (.int .i64 v52)])) (d := (some 68)) (k := 31) (by kernel_rfl) rfl (by kernel_rfl) hs814 rfl (by kernel_rfl) ?_
          refine In.run' 1 (k' := 33) rfl [(69, (.int .u32 p2))] (by kernel_rfl) ?_
          obtain ⟨z858, hz859, H⟩ := bind_elim H
          refine In.step (k' := 34) rfl (by kernel_rfl) ?_
          refine Step.callF (f := 21) (fo := (.func 21)) (xs := #[(.tmp 68), (.tmp 69)]) (tys := #[24, 22]) (first := #[]) (captured := #[]) (d := (some 70)) (k := 33) (by kernel_rfl) rfl (by kernel_rfl) (by kernel_rfl) Tryd.call21 (L_syntax_In_walk  v51 v52 p2 w811  z858 hz859) ?_
          rintro e w860 ⟨rfl, hs861⟩
          refine ⟨_, rfl, ?_⟩
          have hs862 := SP.call hs814 hs861
          clear hs861
          have hs863 : SP [] w0 w860 [boxE g17 24 #[(.int .u32 v51), (.int .i64 v52)], boxE g30 24 #[(.int .u32 v53), (.int .i64 v54)]] := hs862
          clear hs862
          refine In.run' 3 (k' := 37) rfl [(71, (.bool (!z858))), (72, (.bool (!z858))), (73, (.bool (!z858)))] (by kernel_rfl) ?_
          refine In.guard (t := 73) (b := (!z858)) (by kernel_rfl) (fun hb864 => ?_) (fun hb864 => ?_)
          ·have H := ct H hb864
           refine In.run' 10 (k' := 47) rfl [(74, undef), (75, undef), (76, undef), (77, undef), (78, (.bool true)), (79, (.bool true)), (80, (.bool true)), (81, (.bool z57)), (82, (.bool (!z57))), (83, (.bool (!z57)))] (by kernel_rfl) ?_
           refine In.guard (t := 83) (b := (!z57)) (by kernel_rfl) (fun hb865 => ?_) (fun hb865 => ?_)
           ·have H := ct H hb865
            refine In.run' 23 (k' := 70) rfl [(84, undef), (85, undef), (86, undef), (87, undef), (88, undef), (89, undef), (90, undef), (91, undef), (92, undef), (93, undef), (94, undef), (95, undef), (96, undef), (97, undef), (98, undef), (99, undef), (100, undef), (101, undef), (102, undef), (103, undef), (104, (.bool true)), (105, (.bool true)), (8, (.bool true))] (by kernel_rfl) ?_
            refine In.fin (by kernel_rfl) ?_
            exact ⟨true, ⟨(by kernel_rfl), trivial⟩, SP.sel hs863 [] rfl rfl, H⟩
           ·have H := cf H hb865
            refine In.step (k' := 48) rfl (by kernel_rfl) ?_
            refine Step.load (t := 24) (x := (.tmp 11)) (g := g30) (off := 0) (i := 1) (v := (.agg #[(.int .u32 v53), (.int .i64 v54)])) (d := (some 84)) (k := 47) (by kernel_rfl) rfl (by kernel_rfl) hs863 rfl (by kernel_rfl) ?_
            refine In.run' 1 (k' := 49) rfl [(85, (.int .u32 p1))] (by kernel_rfl) ?_
            obtain ⟨z866, hz867, H⟩ := bind_elim H
            refine In.step (k' := 50) rfl (by kernel_rfl) ?_
            refine Step.callF (f := 21) (fo := (.func 21)) (xs := #[(.tmp 84), (.tmp 85)]) (tys := #[24, 22]) (first := #[]) (captured := #[]) (d := (some 86)) (k := 49) (by kernel_rfl) rfl (by kernel_rfl) (by kernel_rfl) Tryd.call21 (L_syntax_In_walk  v53 v54 p1 w860  z866 hz867) ?_
            rintro e w868 ⟨rfl, hs869⟩
            refine ⟨_, rfl, ?_⟩
            have hs870 := SP.call hs863 hs869
            clear hs869
            have hs871 : SP [] w0 w868 [boxE g17 24 #[(.int .u32 v51), (.int .i64 v52)], boxE g30 24 #[(.int .u32 v53), (.int .i64 v54)]] := hs870
            clear hs870
            refine In.run' 2 (k' := 52) rfl [(87, (.bool (!z866))), (88, (.bool (!z866)))] (by kernel_rfl) ?_
            refine In.guard (t := 88) (b := (!z866)) (by kernel_rfl) (fun hb872 => ?_) (fun hb872 => ?_)
            ·have H := ct H hb872
             refine In.run' 5 (k' := 57) rfl [(89, undef), (90, undef), (91, undef), (92, (.bool true)), (93, (.bool true))] (by kernel_rfl) ?_
             refine In.step (k' := 58) rfl (by kernel_rfl) ?_
             refine Step.load (t := 24) (x := (.tmp 11)) (g := g30) (off := 0) (i := 1) (v := (.agg #[(.int .u32 v53), (.int .i64 v54)])) (d := (some 94)) (k := 57) (by kernel_rfl) rfl (by kernel_rfl) hs871 rfl (by kernel_rfl) ?_
             refine In.run' 1 (k' := 59) rfl [(95, (.int .u32 p2))] (by kernel_rfl) ?_
             obtain ⟨z873, hz874, H⟩ := bind_elim H
             refine In.step (k' := 60) rfl (by kernel_rfl) ?_
             refine Step.callF (f := 21) (fo := (.func 21)) (xs := #[(.tmp 94), (.tmp 95)]) (tys := #[24, 22]) (first := #[]) (captured := #[]) (d := (some 96)) (k := 59) (by kernel_rfl) rfl (by kernel_rfl) (by kernel_rfl) Tryd.call21 (L_syntax_In_walk  v53 v54 p2 w868  z873 hz874) ?_
             rintro e w875 ⟨rfl, hs876⟩
             refine ⟨_, rfl, ?_⟩
             have hs877 := SP.call hs871 hs876
             clear hs876
             have hs878 : SP [] w0 w875 [boxE g17 24 #[(.int .u32 v51), (.int .i64 v52)], boxE g30 24 #[(.int .u32 v53), (.int .i64 v54)]] := hs877
             clear hs877
             refine In.run' 2 (k' := 62) rfl [(97, (.bool (!z873))), (98, (.bool (!z873)))] (by kernel_rfl) ?_
             refine In.guard (t := 98) (b := (!z873)) (by kernel_rfl) (fun hb879 => ?_) (fun hb879 => ?_)
             ·have H := ct H hb879
              refine In.run' 8 (k' := 70) rfl [(99, undef), (100, undef), (101, undef), (102, (.bool true)), (103, (.bool true)), (104, (.bool true)), (105, (.bool true)), (8, (.bool true))] (by kernel_rfl) ?_
              refine In.fin (by kernel_rfl) ?_
              exact ⟨true, ⟨(by kernel_rfl), trivial⟩, SP.sel hs878 [] rfl rfl, H⟩
             ·have H := cf H hb879
              refine In.step (k' := 63) rfl (by kernel_rfl) ?_
              refine Step.load (t := 24) (x := (.tmp 10)) (g := g17) (off := 0) (i := 0) (v := (.agg #[(.int .u32 v51), (.int .i64 v52)])) (d := (some 99)) (k := 62) (by kernel_rfl) rfl (by kernel_rfl) hs878 rfl (by kernel_rfl) ?_
              refine In.run' 1 (k' := 64) rfl [(100, (.int .u32 p2))] (by kernel_rfl) ?_
              obtain ⟨z880, hz881, H⟩ := bind_elim H
              refine In.step (k' := 65) rfl (by kernel_rfl) ?_
              refine Step.callF (f := 21) (fo := (.func 21)) (xs := #[(.tmp 99), (.tmp 100)]) (tys := #[24, 22]) (first := #[]) (captured := #[]) (d := (some 101)) (k := 64) (by kernel_rfl) rfl (by kernel_rfl) (by kernel_rfl) Tryd.call21 (L_syntax_In_walk  v51 v52 p2 w875  z880 hz881) ?_
              rintro e w882 ⟨rfl, hs883⟩
              refine ⟨_, rfl, ?_⟩
              have hs884 := SP.call hs878 hs883
              clear hs883
              have hs885 : SP [] w0 w882 [boxE g17 24 #[(.int .u32 v51), (.int .i64 v52)], boxE g30 24 #[(.int .u32 v53), (.int .i64 v54)]] := hs884
              clear hs884
              refine In.run' 5 (k' := 70) rfl [(102, (.bool z880)), (103, (.bool z880)), (104, (.bool z880)), (105, (.bool z880)), (8, (.bool z880))] (by kernel_rfl) ?_
              refine In.fin (by kernel_rfl) ?_
              exact ⟨z880, ⟨(by kernel_rfl), trivial⟩, SP.sel hs885 [] rfl rfl, H⟩
            ·have H := cf H hb872
             refine In.step (k' := 53) rfl (by kernel_rfl) ?_
             refine Step.load (t := 24) (x := (.tmp 10)) (g := g17) (off := 0) (i := 0) (v := (.agg #[(.int .u32 v51), (.int .i64 v52)])) (d := (some 89)) (k := 52) (by kernel_rfl) rfl (by kernel_rfl) hs871 rfl (by kernel_rfl) ?_
             refine In.run' 1 (k' := 54) rfl [(90, (.int .u32 p1))] (by kernel_rfl) ?_
             obtain ⟨z886, hz887, H⟩ := bind_elim H
             refine In.step (k' := 55) rfl (by kernel_rfl) ?_
             refine Step.callF (f := 21) (fo := (.func 21)) (xs := #[(.tmp 89), (.tmp 90)]) (tys := #[24, 22]) (first := #[]) (captured := #[]) (d := (some 91)) (k := 54) (by kernel_rfl) rfl (by kernel_rfl) (by kernel_rfl) Tryd.call21 (L_syntax_In_walk  v51 v52 p1 w868  z886 hz887) ?_
             rintro e w888 ⟨rfl, hs889⟩
             refine ⟨_, rfl, ?_⟩
             have hs890 := SP.call hs871 hs889
             clear hs889
             have hs891 : SP [] w0 w888 [boxE g17 24 #[(.int .u32 v51), (.int .i64 v52)], boxE g30 24 #[(.int .u32 v53), (.int .i64 v54)]] := hs890
             clear hs890
             refine In.run' 2 (k' := 57) rfl [(92, (.bool z886)), (93, (.bool z886))] (by kernel_rfl) ?_
             refine In.guard (t := 93) (b := z886) (by kernel_rfl) (fun hb892 => ?_) (fun hb892 => ?_)
             ·have H := ct H hb892
              refine In.step (k' := 58) rfl (by kernel_rfl) ?_
              refine Step.load (t := 24) (x := (.tmp 11)) (g := g30) (off := 0) (i := 1) (v := (.agg #[(.int .u32 v53), (.int .i64 v54)])) (d := (some 94)) (k := 57) (by kernel_rfl) rfl (by kernel_rfl) hs891 rfl (by kernel_rfl) ?_
              refine In.run' 1 (k' := 59) rfl [(95, (.int .u32 p2))] (by kernel_rfl) ?_
              obtain ⟨z893, hz894, H⟩ := bind_elim H
              refine In.step (k' := 60) rfl (by kernel_rfl) ?_
              refine Step.callF (f := 21) (fo := (.func 21)) (xs := #[(.tmp 94), (.tmp 95)]) (tys := #[24, 22]) (first := #[]) (captured := #[]) (d := (some 96)) (k := 59) (by kernel_rfl) rfl (by kernel_rfl) (by kernel_rfl) Tryd.call21 (L_syntax_In_walk  v53 v54 p2 w888  z893 hz894) ?_
              rintro e w895 ⟨rfl, hs896⟩
              refine ⟨_, rfl, ?_⟩
              have hs897 := SP.call hs891 hs896
              clear hs896
              have hs898 : SP [] w0 w895 [boxE g17 24 #[(.int .u32 v51), (.int .i64 v52)], boxE g30 24 #[(.int .u32 v53), (.int .i64 v54)]] := hs897
              clear hs897
              refine In.run' 2 (k' := 62) rfl [(97, (.bool (!z893))), (98, (.bool (!z893)))] (by kernel_rfl) ?_
              refine In.guard (t := 98) (b := (!z893)) (by kernel_rfl) (fun hb899 => ?_) (fun hb899 => ?_)
              ·have H := ct H hb899
               refine In.run' 8 (k' := 70) rfl [(99, undef), (100, undef), (101, undef), (102, (.bool true)), (103, (.bool true)), (104, (.bool true)), (105, (.bool true)), (8, (.bool true))] (by kernel_rfl) ?_
               refine In.fin (by kernel_rfl) ?_
               exact ⟨true, ⟨(by kernel_rfl), trivial⟩, SP.sel hs898 [] rfl rfl, H⟩
              ·have H := cf H hb899
               refine In.step (k' := 63) rfl (by kernel_rfl) ?_
               refine Step.load (t := 24) (x := (.tmp 10)) (g := g17) (off := 0) (i := 0) (v := (.agg #[(.int .u32 v51), (.int .i64 v52)])) (d := (some 99)) (k := 62) (by kernel_rfl) rfl (by kernel_rfl) hs898 rfl (by kernel_rfl) ?_
               refine In.run' 1 (k' := 64) rfl [(100, (.int .u32 p2))] (by kernel_rfl) ?_
               obtain ⟨z900, hz901, H⟩ := bind_elim H
               refine In.step (k' := 65) rfl (by kernel_rfl) ?_
               refine Step.callF (f := 21) (fo := (.func 21)) (xs := #[(.tmp 99), (.tmp 100)]) (tys := #[24, 22]) (first := #[]) (captured := #[]) (d := (some 101)) (k := 64) (by kernel_rfl) rfl (by kernel_rfl) (by kernel_rfl) Tryd.call21 (L_syntax_In_walk  v51 v52 p2 w895  z900 hz901) ?_
               rintro e w902 ⟨rfl, hs903⟩
               refine ⟨_, rfl, ?_⟩
               have hs904 := SP.call hs898 hs903
               clear hs903
               have hs905 : SP [] w0 w902 [boxE g17 24 #[(.int .u32 v51), (.int .i64 v52)], boxE g30 24 #[(.int .u32 v53), (.int .i64 v54)]] := hs904
               clear hs904
               refine In.run' 5 (k' := 70) rfl [(102, (.bool z900)), (103, (.bool z900)), (104, (.bool z900)), (105, (.bool z900)), (8, (.bool z900))] (by kernel_rfl) ?_
               refine In.fin (by kernel_rfl) ?_
               exact ⟨z900, ⟨(by kernel_rfl), trivial⟩, SP.sel hs905 [] rfl rfl, H⟩
             ·have H := cf H hb892
              refine In.run' 13 (k' := 70) rfl [(94, undef), (95, undef), (96, undef), (97, undef), (98, undef), (99, undef), (100, undef), (101, undef), (102, undef), (103, (.bool false)), (104, (.bool false)), (105, (.bool false)), (8, (.bool false))] (by kernel_rfl) ?_
              refine In.fin (by kernel_rfl) ?_
              exact ⟨false, ⟨(by kernel_rfl), trivial⟩, SP.sel hs891 [] rfl rfl, H⟩
          ·have H := cf H hb864
           refine In.step (k' := 38) rfl (by kernel_rfl) ?_
           refine Step.load (t := 24) (x := (.tmp 11)) (g := g30) (off := 0) (i := 1) (v := (.agg #[(.int .u32 v53), (.int .i64 v54)])) (d := (some 74)) (k := 37) (by kernel_rfl) rfl (by kernel_rfl) hs863 rfl (by kernel_rfl) ?_
           refine In.run' 1 (k' := 39) rfl [(75, (.int .u32 p2))] (by kernel_rfl) ?_
           obtain ⟨z906, hz907, H⟩ := bind_elim H
           refine In.step (k' := 40) rfl (by kernel_rfl) ?_
           refine Step.callF (f := 21) (fo := (.func 21)) (xs := #[(.tmp 74), (.tmp 75)]) (tys := #[24, 22]) (first := #[]) (captured := #[]) (d := (some 76)) (k := 39) (by kernel_rfl) rfl (by kernel_rfl) (by kernel_rfl) Tryd.call21 (L_syntax_In_walk  v53 v54 p2 w860  z906 hz907) ?_
           rintro e w908 ⟨rfl, hs909⟩
           refine ⟨_, rfl, ?_⟩
           have hs910 := SP.call hs863 hs909
           clear hs909
           have hs911 : SP [] w0 w908 [boxE g17 24 #[(.int .u32 v51), (.int .i64 v52)], boxE g30 24 #[(.int .u32 v53), (.int .i64 v54)]] := hs910
           clear hs910
           refine In.run' 4 (k' := 44) rfl [(77, (.bool (!z906))), (78, (.bool (!z906))), (79, (.bool (!z906))), (80, (.bool (!z906)))] (by kernel_rfl) ?_
           refine In.guard (t := 80) (b := (!z906)) (by kernel_rfl) (fun hb912 => ?_) (fun hb912 => ?_)
           ·have H := ct H hb912
            refine In.run' 3 (k' := 47) rfl [(81, (.bool z57)), (82, (.bool (!z57))), (83, (.bool (!z57)))] (by kernel_rfl) ?_
            refine In.guard (t := 83) (b := (!z57)) (by kernel_rfl) (fun hb913 => ?_) (fun hb913 => ?_)
            ·have H := ct H hb913
             refine In.run' 23 (k' := 70) rfl [(84, undef), (85, undef), (86, undef), (87, undef), (88, undef), (89, undef), (90, undef), (91, undef), (92, undef), (93, undef), (94, undef), (95, undef), (96, undef), (97, undef), (98, undef), (99, undef), (100, undef), (101, undef), (102, undef), (103, undef), (104, (.bool true)), (105, (.bool true)), (8, (.bool true))] (by kernel_rfl) ?_
             refine In.fin (by kernel_rfl) ?_
             exact ⟨true, ⟨(by kernel_rfl), trivial⟩, SP.sel hs911 [] rfl rfl, H⟩
            ·have H := cf H hb913
             refine In.step (k' := 48) rfl (by kernel_rfl) ?_
             refine Step.load (t := 24) (x := (.tmp 11)) (g := g30) (off := 0) (i := 1) (v := (.agg #[(.int .u32 v53), (.int .i64 v54)])) (d := (some 84)) (k := 47) (by kernel_rfl) rfl (by kernel_rfl) hs911 rfl (by kernel_rfl) ?_
             refine In.run' 1 (k' := 49) rfl [(85, (.int .u32 p1))] (by kernel_rfl) ?_
             obtain ⟨z914, hz915, H⟩ := bind_elim H
             refine In.step (k' := 50) rfl (by kernel_rfl) ?_
             refine Step.callF (f := 21) (fo := (.func 21)) (xs := #[(.tmp 84), (.tmp 85)]) (tys := #[24, 22]) (first := #[]) (captured := #[]) (d := (some 86)) (k := 49) (by kernel_rfl) rfl (by kernel_rfl) (by kernel_rfl) Tryd.call21 (L_syntax_In_walk  v53 v54 p1 w908  z914 hz915) ?_
             rintro e w916 ⟨rfl, hs917⟩
             refine ⟨_, rfl, ?_⟩
             have hs918 := SP.call hs911 hs917
             clear hs917
             have hs919 : SP [] w0 w916 [boxE g17 24 #[(.int .u32 v51), (.int .i64 v52)], boxE g30 24 #[(.int .u32 v53), (.int .i64 v54)]] := hs918
             clear hs918
             refine In.run' 2 (k' := 52) rfl [(87, (.bool (!z914))), (88, (.bool (!z914)))] (by kernel_rfl) ?_
             refine In.guard (t := 88) (b := (!z914)) (by kernel_rfl) (fun hb920 => ?_) (fun hb920 => ?_)
             ·have H := ct H hb920
              refine In.run' 5 (k' := 57) rfl [(89, undef), (90, undef), (91, undef), (92, (.bool true)), (93, (.bool true))] (by kernel_rfl) ?_
              refine In.step (k' := 58) rfl (by kernel_rfl) ?_
              refine Step.load (t := 24) (x := (.tmp 11)) (g := g30) (off := 0) (i := 1) (v := (.agg #[(.int .u32 v53), (.int .i64 v54)])) (d := (some 94)) (k := 57) (by kernel_rfl) rfl (by kernel_rfl) hs919 rfl (by kernel_rfl) ?_
              refine In.run' 1 (k' := 59) rfl [(95, (.int .u32 p2))] (by kernel_rfl) ?_
              obtain ⟨z921, hz922, H⟩ := bind_elim H
              refine In.step (k' := 60) rfl (by kernel_rfl) ?_
              refine Step.callF (f := 21) (fo := (.func 21)) (xs := #[(.tmp 94), (.tmp 95)]) (tys := #[24, 22]) (first := #[]) (captured := #[]) (d := (some 96)) (k := 59) (by kernel_rfl) rfl (by kernel_rfl) (by kernel_rfl) Tryd.call21 (L_syntax_In_walk  v53 v54 p2 w916  z921 hz922) ?_
              rintro e w923 ⟨rfl, hs924⟩
              refine ⟨_, rfl, ?_⟩
              have hs925 := SP.call hs919 hs924
              clear hs924
              have hs926 : SP [] w0 w923 [boxE g17 24 #[(.int .u32 v51), (.int .i64 v52)], boxE g30 24 #[(.int .u32 v53), (.int .i64 v54)]] := hs925
              clear hs925
              refine In.run' 2 (k' := 62) rfl [(97, (.bool (!z921))), (98, (.bool (!z921)))] (by kernel_rfl) ?_
              refine In.guard (t := 98) (b := (!z921)) (by kernel_rfl) (fun hb927 => ?_) (fun hb927 => ?_)
              ·have H := ct H hb927
               refine In.run' 8 (k' := 70) rfl [(99, undef), (100, undef), (101, undef), (102, (.bool true)), (103, (.bool true)), (104, (.bool true)), (105, (.bool true)), (8, (.bool true))] (by kernel_rfl) ?_
               refine In.fin (by kernel_rfl) ?_
               exact ⟨true, ⟨(by kernel_rfl), trivial⟩, SP.sel hs926 [] rfl rfl, H⟩
              ·have H := cf H hb927
               refine In.step (k' := 63) rfl (by kernel_rfl) ?_
               refine Step.load (t := 24) (x := (.tmp 10)) (g := g17) (off := 0) (i := 0) (v := (.agg #[(.int .u32 v51), (.int .i64 v52)])) (d := (some 99)) (k := 62) (by kernel_rfl) rfl (by kernel_rfl) hs926 rfl (by kernel_rfl) ?_
               refine In.run' 1 (k' := 64) rfl [(100, (.int .u32 p2))] (by kernel_rfl) ?_
               obtain ⟨z928, hz929, H⟩ := bind_elim H
               refine In.step (k' := 65) rfl (by kernel_rfl) ?_
               refine Step.callF (f := 21) (fo := (.func 21)) (xs := #[(.tmp 99), (.tmp 100)]) (tys := #[24, 22]) (first := #[]) (captured := #[]) (d := (some 101)) (k := 64) (by kernel_rfl) rfl (by kernel_rfl) (by kernel_rfl) Tryd.call21 (L_syntax_In_walk  v51 v52 p2 w923  z928 hz929) ?_
               rintro e w930 ⟨rfl, hs931⟩
               refine ⟨_, rfl, ?_⟩
               have hs932 := SP.call hs926 hs931
               clear hs931
               have hs933 : SP [] w0 w930 [boxE g17 24 #[(.int .u32 v51), (.int .i64 v52)], boxE g30 24 #[(.int .u32 v53), (.int .i64 v54)]] := hs932
               clear hs932
               refine In.run' 5 (k' := 70) rfl [(102, (.bool z928)), (103, (.bool z928)), (104, (.bool z928)), (105, (.bool z928)), (8, (.bool z928))] (by kernel_rfl) ?_
               refine In.fin (by kernel_rfl) ?_
               exact ⟨z928, ⟨(by kernel_rfl), trivial⟩, SP.sel hs933 [] rfl rfl, H⟩
             ·have H := cf H hb920
              refine In.step (k' := 53) rfl (by kernel_rfl) ?_
              refine Step.load (t := 24) (x := (.tmp 10)) (g := g17) (off := 0) (i := 0) (v := (.agg #[(.int .u32 v51), (.int .i64 v52)])) (d := (some 89)) (k := 52) (by kernel_rfl) rfl (by kernel_rfl) hs919 rfl (by kernel_rfl) ?_
              refine In.run' 1 (k' := 54) rfl [(90, (.int .u32 p1))] (by kernel_rfl) ?_
              obtain ⟨z934, hz935, H⟩ := bind_elim H
              refine In.step (k' := 55) rfl (by kernel_rfl) ?_
              refine Step.callF (f := 21) (fo := (.func 21)) (xs := #[(.tmp 89), (.tmp 90)]) (tys := #[24, 22]) (first := #[]) (captured := #[]) (d := (some 91)) (k := 54) (by kernel_rfl) rfl (by kernel_rfl) (by kernel_rfl) Tryd.call21 (L_syntax_In_walk  v51 v52 p1 w916  z934 hz935) ?_
              rintro e w936 ⟨rfl, hs937⟩
              refine ⟨_, rfl, ?_⟩
              have hs938 := SP.call hs919 hs937
              clear hs937
              have hs939 : SP [] w0 w936 [boxE g17 24 #[(.int .u32 v51), (.int .i64 v52)], boxE g30 24 #[(.int .u32 v53), (.int .i64 v54)]] := hs938
              clear hs938
              refine In.run' 2 (k' := 57) rfl [(92, (.bool z934)), (93, (.bool z934))] (by kernel_rfl) ?_
              refine In.guard (t := 93) (b := z934) (by kernel_rfl) (fun hb940 => ?_) (fun hb940 => ?_)
              ·have H := ct H hb940
               refine In.step (k' := 58) rfl (by kernel_rfl) ?_
               refine Step.load (t := 24) (x := (.tmp 11)) (g := g30) (off := 0) (i := 1) (v := (.agg #[(.int .u32 v53), (.int .i64 v54)])) (d := (some 94)) (k := 57) (by kernel_rfl) rfl (by kernel_rfl) hs939 rfl (by kernel_rfl) ?_
               refine In.run' 1 (k' := 59) rfl [(95, (.int .u32 p2))] (by kernel_rfl) ?_
               obtain ⟨z941, hz942, H⟩ := bind_elim H
               refine In.step (k' := 60) rfl (by kernel_rfl) ?_
               refine Step.callF (f := 21) (fo := (.func 21)) (xs := #[(.tmp 94), (.tmp 95)]) (tys := #[24, 22]) (first := #[]) (captured := #[]) (d := (some 96)) (k := 59) (by kernel_rfl) rfl (by kernel_rfl) (by kernel_rfl) Tryd.call21 (L_syntax_In_walk  v53 v54 p2 w936  z941 hz942) ?_
               rintro e w943 ⟨rfl, hs944⟩
               refine ⟨_, rfl, ?_⟩
               have hs945 := SP.call hs939 hs944
               clear hs944
               have hs946 : SP [] w0 w943 [boxE g17 24 #[(.int .u32 v51), (.int .i64 v52)], boxE g30 24 #[(.int .u32 v53), (.int .i64 v54)]] := hs945
               clear hs945
               refine In.run' 2 (k' := 62) rfl [(97, (.bool (!z941))), (98, (.bool (!z941)))] (by kernel_rfl) ?_
               refine In.guard (t := 98) (b := (!z941)) (by kernel_rfl) (fun hb947 => ?_) (fun hb947 => ?_)
               ·have H := ct H hb947
                refine In.run' 8 (k' := 70) rfl [(99, undef), (100, undef), (101, undef), (102, (.bool true)), (103, (.bool true)), (104, (.bool true)), (105, (.bool true)), (8, (.bool true))] (by kernel_rfl) ?_
                refine In.fin (by kernel_rfl) ?_
                exact ⟨true, ⟨(by kernel_rfl), trivial⟩, SP.sel hs946 [] rfl rfl, H⟩
               ·have H := cf H hb947
                refine In.step (k' := 63) rfl (by kernel_rfl) ?_
                refine Step.load (t := 24) (x := (.tmp 10)) (g := g17) (off := 0) (i := 0) (v := (.agg #[(.int .u32 v51), (.int .i64 v52)])) (d := (some 99)) (k := 62) (by kernel_rfl) rfl (by kernel_rfl) hs946 rfl (by kernel_rfl) ?_
                refine In.run' 1 (k' := 64) rfl [(100, (.int .u32 p2))] (by kernel_rfl) ?_
                obtain ⟨z948, hz949, H⟩ := bind_elim H
                refine In.step (k' := 65) rfl (by kernel_rfl) ?_
                refine Step.callF (f := 21) (fo := (.func 21)) (xs := #[(.tmp 99), (.tmp 100)]) (tys := #[24, 22]) (first := #[]) (captured := #[]) (d := (some 101)) (k := 64) (by kernel_rfl) rfl (by kernel_rfl) (by kernel_rfl) Tryd.call21 (L_syntax_In_walk  v51 v52 p2 w943  z948 hz949) ?_
                rintro e w950 ⟨rfl, hs951⟩
                refine ⟨_, rfl, ?_⟩
                have hs952 := SP.call hs946 hs951
                clear hs951
                have hs953 : SP [] w0 w950 [boxE g17 24 #[(.int .u32 v51), (.int .i64 v52)], boxE g30 24 #[(.int .u32 v53), (.int .i64 v54)]] := hs952
                clear hs952
                refine In.run' 5 (k' := 70) rfl [(102, (.bool z948)), (103, (.bool z948)), (104, (.bool z948)), (105, (.bool z948)), (8, (.bool z948))] (by kernel_rfl) ?_
                refine In.fin (by kernel_rfl) ?_
                exact ⟨z948, ⟨(by kernel_rfl), trivial⟩, SP.sel hs953 [] rfl rfl, H⟩
              ·have H := cf H hb940
               refine In.run' 13 (k' := 70) rfl [(94, undef), (95, undef), (96, undef), (97, undef), (98, undef), (99, undef), (100, undef), (101, undef), (102, undef), (103, (.bool false)), (104, (.bool false)), (105, (.bool false)), (8, (.bool false))] (by kernel_rfl) ?_
               refine In.fin (by kernel_rfl) ?_
               exact ⟨false, ⟨(by kernel_rfl), trivial⟩, SP.sel hs939 [] rfl rfl, H⟩
           ·have H := cf H hb912
            refine In.run' 26 (k' := 70) rfl [(81, undef), (82, undef), (83, undef), (84, undef), (85, undef), (86, undef), (87, undef), (88, undef), (89, undef), (90, undef), (91, undef), (92, undef), (93, undef), (94, undef), (95, undef), (96, undef), (97, undef), (98, undef), (99, undef), (100, undef), (101, undef), (102, undef), (103, undef), (104, undef), (105, (.bool false)), (8, (.bool false))] (by kernel_rfl) ?_
            refine In.fin (by kernel_rfl) ?_
            exact ⟨false, ⟨(by kernel_rfl), trivial⟩, SP.sel hs911 [] rfl rfl, H⟩
        ·have H := cf H hb815
         refine In.run' 41 (k' := 70) rfl [(66, undef), (67, undef), (68, undef), (69, undef), (70, undef), (71, undef), (72, undef), (73, undef), (74, undef), (75, undef), (76, undef), (77, undef), (78, undef), (79, (.bool false)), (80, (.bool false)), (81, undef), (82, undef), (83, undef), (84, undef), (85, undef), (86, undef), (87, undef), (88, undef), (89, undef), (90, undef), (91, undef), (92, undef), (93, undef), (94, undef), (95, undef), (96, undef), (97, undef), (98, undef), (99, undef), (100, undef), (101, undef), (102, undef), (103, undef), (104, undef), (105, (.bool false)), (8, (.bool false))] (by kernel_rfl) ?_
         refine In.fin (by kernel_rfl) ?_
         exact ⟨false, ⟨(by kernel_rfl), trivial⟩, SP.sel hs814 [] rfl rfl, H⟩
     ·have H := cf H hb524
      refine In.run' 56 (k' := 70) rfl [(51, undef), (52, undef), (53, undef), (54, undef), (55, undef), (56, undef), (57, undef), (58, undef), (59, undef), (60, undef), (61, undef), (62, undef), (63, undef), (64, (.bool false)), (65, (.bool false)), (66, undef), (67, undef), (68, undef), (69, undef), (70, undef), (71, undef), (72, undef), (73, undef), (74, undef), (75, undef), (76, undef), (77, undef), (78, undef), (79, (.bool false)), (80, (.bool false)), (81, undef), (82, undef), (83, undef), (84, undef), (85, undef), (86, undef), (87, undef), (88, undef), (89, undef), (90, undef), (91, undef), (92, undef), (93, undef), (94, undef), (95, undef), (96, undef), (97, undef), (98, undef), (99, undef), (100, undef), (101, undef), (102, undef), (103, undef), (104, undef), (105, (.bool false)), (8, (.bool false))] (by kernel_rfl) ?_
      refine In.fin (by kernel_rfl) ?_
      exact ⟨false, ⟨(by kernel_rfl), trivial⟩, SP.sel hs523 [] rfl rfl, H⟩
    ·have H := cf H hb517
     refine In.run' 62 (k' := 70) rfl [(45, undef), (46, undef), (47, undef), (48, undef), (49, (.bool false)), (50, (.bool false)), (51, undef), (52, undef), (53, undef), (54, undef), (55, undef), (56, undef), (57, undef), (58, undef), (59, undef), (60, undef), (61, undef), (62, undef), (63, undef), (64, (.bool false)), (65, (.bool false)), (66, undef), (67, undef), (68, undef), (69, undef), (70, undef), (71, undef), (72, undef), (73, undef), (74, undef), (75, undef), (76, undef), (77, undef), (78, undef), (79, (.bool false)), (80, (.bool false)), (81, undef), (82, undef), (83, undef), (84, undef), (85, undef), (86, undef), (87, undef), (88, undef), (89, undef), (90, undef), (91, undef), (92, undef), (93, undef), (94, undef), (95, undef), (96, undef), (97, undef), (98, undef), (99, undef), (100, undef), (101, undef), (102, undef), (103, undef), (104, undef), (105, (.bool false)), (8, (.bool false))] (by kernel_rfl) ?_
     refine In.fin (by kernel_rfl) ?_
     exact ⟨false, ⟨(by kernel_rfl), trivial⟩, SP.sel hs516 [] rfl rfl, H⟩
   ·have H := cf H hb510
    refine In.run' 68 (k' := 70) rfl [(39, undef), (40, undef), (41, undef), (42, undef), (43, (.bool false)), (44, (.bool false)), (45, undef), (46, undef), (47, undef), (48, undef), (49, (.bool false)), (50, (.bool false)), (51, undef), (52, undef), (53, undef), (54, undef), (55, undef), (56, undef), (57, undef), (58, undef), (59, undef), (60, undef), (61, undef), (62, undef), (63, undef), (64, (.bool false)), (65, (.bool false)), (66, undef), (67, undef), (68, undef), (69, undef), (70, undef), (71, undef), (72, undef), (73, undef), (74, undef), (75, undef), (76, undef), (77, undef), (78, undef), (79, (.bool false)), (80, (.bool false)), (81, undef), (82, undef), (83, undef), (84, undef), (85, undef), (86, undef), (87, undef), (88, undef), (89, undef), (90, undef), (91, undef), (92, undef), (93, undef), (94, undef), (95, undef), (96, undef), (97, undef), (98, undef), (99, undef), (100, undef), (101, undef), (102, undef), (103, undef), (104, undef), (105, (.bool false)), (8, (.bool false))] (by kernel_rfl) ?_
    refine In.fin (by kernel_rfl) ?_
    exact ⟨false, ⟨(by kernel_rfl), trivial⟩, SP.sel hs62 [] rfl rfl, H⟩
  ·rintro ρ w508 ⟨v507, hk, hs509, H⟩
   unfold L_subwaylaw04_SyntaxNets_k2 at H
   refine At.known [(8, (.bool v507))] hk ?_
   refine At.ret (by kernel_rfl) ?_
   refine ⟨(.bool v507), by kernel_rfl, ?_⟩
   obtain rfl := some_elim H
   exact ⟨rfl, SP.sel hs509 [] rfl rfl⟩
end Go.Proofs.YthnakiihenbcjaaDoor
