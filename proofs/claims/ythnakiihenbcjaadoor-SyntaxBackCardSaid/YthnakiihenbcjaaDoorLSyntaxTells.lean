/- LIFTED BY PROGRAM (tools/lift.py): what functions compute, and that they do. -/
import Derived.Test.YthnakiihenbcjaaDoorLSH
namespace Go.Proofs.YthnakiihenbcjaaDoor
set_option linter.unusedSimpArgs false
set_option linter.unusedVariables false
open Go.RowKit

/-! L_subwaylaw04_SyntaxTells -/
def L_subwaylaw04_SyntaxTells_k1 (v872 : Bool) : Option (Bool) :=
  (some (v872))
def L_subwaylaw04_SyntaxTells (p1 : (List UInt8)) (p2 : Int) (pAddr3 : Int) (pBits4 : Int) : Option (Bool) :=
  ((L_subwaylaw04_head ).bind fun z9 => (cond (decide (((List.length p1 : Nat) : Int) > 9000)) (some (z9)) ((L_syntax_Addr p1).bind fun z16 => ((L_subwayref04_Addr p1).bind fun z22 => ((L_syntax_Net p1).bind fun z28 => ((L_subwayref04_Net p1).bind fun z41 => (cond z9 ((L_syntax_Name p1).bind fun z876 => ((L_subwayref04_Name p1).bind fun z882 => (cond (z876 == z882) (cond (z16.1 == z22.1) (cond (z16.2 == z22.2) (cond ((z28.1 == z41.1) && (z28.2.1 == z41.2.1)) (cond (z28.2.2 == z41.2.2) ((L_syntax_Dots p2).bind fun z893 => ((L_subwayref04_Dots p2).bind fun z899 => (cond (z893 == z899) ((L_syntax_Slash pAddr3 pBits4).bind fun z906 => ((L_subwayref04_Slash pAddr3 pBits4).bind fun z912 => (cond (z906 == z912) ((L_syntax_In pAddr3 pBits4 p2).bind fun z919 => ((L_subwayref04_In pAddr3 pBits4 p2).bind fun z925 => (L_subwaylaw04_SyntaxTells_k1 (z919 == z925)))) (L_subwaylaw04_SyntaxTells_k1 false)))) (L_subwaylaw04_SyntaxTells_k1 false)))) (L_subwaylaw04_SyntaxTells_k1 false)) (L_subwaylaw04_SyntaxTells_k1 false)) (L_subwaylaw04_SyntaxTells_k1 false)) (L_subwaylaw04_SyntaxTells_k1 false)) (L_subwaylaw04_SyntaxTells_k1 false)))) (L_subwaylaw04_SyntaxTells_k1 false))))))))
set_option maxRecDepth 100000 in
set_option maxHeartbeats 4000000 in
theorem L_subwaylaw04_SyntaxTells_walk  (p1 : (List UInt8)) (p2 : Int) (pAddr3 : Int) (pBits4 : Int) (w0 : World) (hL : LaidW w0)  (r : (Bool)) (H : L_subwaylaw04_SyntaxTells p1 p2 pAddr3 pBits4 = some r) :
  Calls Tryd.prog 3 #[(.string ⟨List.toArray p1⟩), (.int .u32 p2), (.agg #[(.int .u32 pAddr3), (.int .i64 pBits4)])] w0 (fun e w' => e = .returned (.bool r) ∧ SP [] w0 w' []) := by
 unfold L_subwaylaw04_SyntaxTells at H
 refine calls_start (n := 92) Tryd.func3 (by kernel_rfl) (by kernel_rfl) (by kernel_rfl) ?_
 have hs0 := SP.start [] w0
 refine At.seq (by kernel_rfl) (p0 := [false]) (p1 := [true]) rfl rfl ?_
 refine At.region (by kernel_rfl) (by kernel_rfl) ?_
 refine In.step (k' := 1) rfl (by kernel_rfl) ?_
 refine Step.box (t := 24) (x := (.tmp 2)) (v := (.agg #[(.int .u32 pAddr3), (.int .i64 pBits4)])) (d := (some 5)) (k := 0) (by kernel_rfl) rfl (by kernel_rfl) hs0 ?_
 intro g5 w6 hs7
 have hs8 : SP [] w0 w6 [boxE g5 24 #[(.int .u32 pAddr3), (.int .i64 pBits4)]] := hs7
 clear hs7
 refine In.run' 1 (k' := 2) rfl [(6, (.bool false))] (by kernel_rfl) ?_
 refine In.fin (by kernel_rfl) ?_
 refine At.seq (by kernel_rfl) (p0 := [true, false]) (p1 := [true, true]) rfl rfl ?_
 refine At.region (by kernel_rfl) (by kernel_rfl) ?_
 obtain ⟨z9, hz10, H⟩ := bind_elim H
 refine In.step (k' := 1) rfl (by kernel_rfl) ?_
 refine Step.callF (f := 10) (fo := (.func 10)) (xs := #[]) (tys := #[]) (first := #[]) (captured := #[]) (d := (some 16)) (k := 0) (by kernel_rfl) rfl (by kernel_rfl) (by kernel_rfl) Tryd.call10 (L_subwaylaw04_head_walk   w6 (laid_below hL (SP.keeps hs8)) z9 hz10) ?_
 rintro e w11 ⟨rfl, hs12⟩
 refine ⟨_, rfl, ?_⟩
 have hs13 := SP.call hs8 hs12
 clear hs12
 have hs14 : SP [] w0 w11 [boxE g5 24 #[(.int .u32 pAddr3), (.int .i64 pBits4)]] := hs13
 clear hs13
 refine In.run' 1 (k' := 2) rfl [(7, (.bool z9))] (by kernel_rfl) ?_
 refine In.fin (by kernel_rfl) ?_
 refine At.seq (by kernel_rfl) (p0 := [true, true, false]) (p1 := [true, true, true]) rfl rfl ?_
 refine At.seq (by kernel_rfl) (p0 := [true, true, false, false]) (p1 := [true, true, false, true]) rfl rfl ?_
 refine At.region (by kernel_rfl) (by kernel_rfl) ?_
 refine In.run' 3 (k' := 3) rfl [(17, (.string ⟨List.toArray p1⟩)), (18, (.int .i64 ((List.length p1 : Nat) : Int))), (19, (.bool (decide (((List.length p1 : Nat) : Int) > 9000))))] (by kernel_rfl) ?_
 refine In.fin (by kernel_rfl) ?_
 refine At.cond (by kernel_rfl) (o := (.tmp 19)) (by kernel_rfl) (b := (decide (((List.length p1 : Nat) : Int) > 9000))) (by kernel_rfl) (p0 := [true, true, false, true, false]) (p1 := [true, true, false, true, true]) rfl rfl (fun hb15 => ?_) (fun hb15 => ?_)
 ·have H := ct H hb15
  refine At.seq (by kernel_rfl) (p0 := [true, true, false, true, false, false]) (p1 := [true, true, false, true, false, true]) rfl rfl ?_
  refine At.region (by kernel_rfl) (by kernel_rfl) ?_
  refine In.run' 2 (k' := 2) rfl [(20, (.bool z9)), (6, (.bool z9))] (by kernel_rfl) ?_
  refine In.fin (by kernel_rfl) ?_
  refine At.ret (by kernel_rfl) ?_
  refine ⟨(.bool z9), by kernel_rfl, ?_⟩
  obtain rfl := some_elim H
  exact ⟨rfl, SP.sel hs14 [] rfl rfl⟩
 ·have H := cf H hb15
  refine At.skip (by kernel_rfl) ?_
  refine At.seq (by kernel_rfl) (p0 := [true, true, true, false]) (p1 := [true, true, true, true]) rfl rfl ?_
  refine At.region (by kernel_rfl) (by kernel_rfl) ?_
  refine In.run' 1 (k' := 1) rfl [(22, (.string ⟨List.toArray p1⟩))] (by kernel_rfl) ?_
  obtain ⟨z16, hz17, H⟩ := bind_elim H
  refine In.step (k' := 2) rfl (by kernel_rfl) ?_
  refine Step.callF (f := 11) (fo := (.func 11)) (xs := #[(.tmp 22)]) (tys := #[9]) (first := #[]) (captured := #[]) (d := (some 23)) (k := 1) (by kernel_rfl) rfl (by kernel_rfl) (by kernel_rfl) Tryd.call11 (L_syntax_Addr_walk  p1 w11 (laid_below hL (SP.keeps hs14)) z16 hz17) ?_
  rintro e w18 ⟨rfl, hs19⟩
  refine ⟨_, rfl, ?_⟩
  have hs20 := SP.call hs14 hs19
  clear hs19
  have hs21 : SP [] w0 w18 [boxE g5 24 #[(.int .u32 pAddr3), (.int .i64 pBits4)]] := hs20
  clear hs20
  refine In.run' 5 (k' := 7) rfl [(21, (.tuple #[(.int .u32 z16.1), (.bool z16.2)])), (24, (.int .u32 z16.1)), (25, (.bool z16.2)), (8, (.int .u32 z16.1)), (9, (.bool z16.2))] (by kernel_rfl) ?_
  refine In.fin (by kernel_rfl) ?_
  refine At.seq (by kernel_rfl) (p0 := [true, true, true, true, false]) (p1 := [true, true, true, true, true]) rfl rfl ?_
  refine At.region (by kernel_rfl) (by kernel_rfl) ?_
  refine In.run' 1 (k' := 1) rfl [(27, (.string ⟨List.toArray p1⟩))] (by kernel_rfl) ?_
  obtain ⟨z22, hz23, H⟩ := bind_elim H
  refine In.step (k' := 2) rfl (by kernel_rfl) ?_
  refine Step.callF (f := 12) (fo := (.func 12)) (xs := #[(.tmp 27)]) (tys := #[9]) (first := #[]) (captured := #[]) (d := (some 28)) (k := 1) (by kernel_rfl) rfl (by kernel_rfl) (by kernel_rfl) Tryd.call12 (L_subwayref04_Addr_walk  p1 w18  z22 hz23) ?_
  rintro e w24 ⟨rfl, hs25⟩
  refine ⟨_, rfl, ?_⟩
  have hs26 := SP.call hs21 hs25
  clear hs25
  have hs27 : SP [] w0 w24 [boxE g5 24 #[(.int .u32 pAddr3), (.int .i64 pBits4)]] := hs26
  clear hs26
  refine In.run' 5 (k' := 7) rfl [(26, (.tuple #[(.int .u32 z22.1), (.bool z22.2)])), (29, (.int .u32 z22.1)), (30, (.bool z22.2)), (10, (.int .u32 z22.1)), (11, (.bool z22.2))] (by kernel_rfl) ?_
  refine In.fin (by kernel_rfl) ?_
  refine At.seq (by kernel_rfl) (p0 := [true, true, true, true, true, false]) (p1 := [true, true, true, true, true, true]) rfl rfl ?_
  refine At.region (by kernel_rfl) (by kernel_rfl) ?_
  refine In.run' 1 (k' := 1) rfl [(32, (.string ⟨List.toArray p1⟩))] (by kernel_rfl) ?_
  obtain ⟨z28, hz29, H⟩ := bind_elim H
  refine In.step (k' := 2) rfl (by kernel_rfl) ?_
  refine Step.callF (f := 13) (fo := (.func 13)) (xs := #[(.tmp 32)]) (tys := #[9]) (first := #[]) (captured := #[]) (d := (some 33)) (k := 1) (by kernel_rfl) rfl (by kernel_rfl) (by kernel_rfl) Tryd.call13 (L_syntax_Net_walk  p1 w24 (laid_below hL (SP.keeps hs27)) z28 hz29) ?_
  rintro e w30 ⟨rfl, hs31⟩
  refine ⟨_, rfl, ?_⟩
  have hs32 := SP.call hs27 hs31
  clear hs31
  have hs33 : SP [] w0 w30 [boxE g5 24 #[(.int .u32 pAddr3), (.int .i64 pBits4)]] := hs32
  clear hs32
  refine In.run' 3 (k' := 5) rfl [(31, (.tuple #[(.agg #[(.int .u32 z28.1), (.int .i64 z28.2.1)]), (.bool z28.2.2)])), (34, (.agg #[(.int .u32 z28.1), (.int .i64 z28.2.1)])), (35, (.bool z28.2.2))] (by kernel_rfl) ?_
  refine In.step (k' := 6) rfl (by kernel_rfl) ?_
  refine Step.alloc (t := 24) (z := (.agg #[(.int .u32 0), (.int .i64 0)])) (d := (some 12)) (k := 5) (by kernel_rfl) rfl (by kernel_rfl) hs33 ?_
  intro g34 w35 hs36
  have hs37 : SP [] w0 w35 [boxE g5 24 #[(.int .u32 pAddr3), (.int .i64 pBits4)], boxE g34 24 #[(.int .u32 0), (.int .i64 0)]] := hs36
  clear hs36
  refine In.step (k' := 7) rfl (by kernel_rfl) ?_
  refine Step.store (t := 24) (x := (.tmp 12)) (y := (.tmp 34)) (g := g34) (off := 0) (i := 1) (v := (.agg #[(.int .u32 z28.1), (.int .i64 z28.2.1)])) (cs' := #[(.int .u32 z28.1), (.int .i64 z28.2.1)]) (d := none) (k := 6) (by kernel_rfl) rfl (by kernel_rfl) (by kernel_rfl) hs37 rfl (by kernel_rfl) ?_
  intro w38 hs39
  have hs40 : SP [] w0 w38 [boxE g5 24 #[(.int .u32 pAddr3), (.int .i64 pBits4)], boxE g34 24 #[(.int .u32 z28.1), (.int .i64 z28.2.1)]] := hs39
  clear hs39
  refine In.run' 1 (k' := 8) rfl [(13, (.bool z28.2.2))] (by kernel_rfl) ?_
  refine In.fin (by kernel_rfl) ?_
  refine At.seq (by kernel_rfl) (p0 := [true, true, true, true, true, true, false]) (p1 := [true, true, true, true, true, true, true]) rfl rfl ?_
  refine At.region (by kernel_rfl) (by kernel_rfl) ?_
  refine In.run' 1 (k' := 1) rfl [(37, (.string ⟨List.toArray p1⟩))] (by kernel_rfl) ?_
  obtain ⟨z41, hz42, H⟩ := bind_elim H
  refine In.step (k' := 2) rfl (by kernel_rfl) ?_
  refine Step.callF (f := 14) (fo := (.func 14)) (xs := #[(.tmp 37)]) (tys := #[9]) (first := #[]) (captured := #[]) (d := (some 38)) (k := 1) (by kernel_rfl) rfl (by kernel_rfl) (by kernel_rfl) Tryd.call14 (L_subwayref04_Net_walk  p1 w38  z41 hz42) ?_
  rintro e w43 ⟨rfl, hs44⟩
  refine ⟨_, rfl, ?_⟩
  have hs45 := SP.call hs40 hs44
  clear hs44
  have hs46 : SP [] w0 w43 [boxE g5 24 #[(.int .u32 pAddr3), (.int .i64 pBits4)], boxE g34 24 #[(.int .u32 z28.1), (.int .i64 z28.2.1)]] := hs45
  clear hs45
  refine In.run' 3 (k' := 5) rfl [(36, (.tuple #[(.agg #[(.int .u32 z41.1), (.int .i64 z41.2.1)]), (.bool z41.2.2)])), (39, (.agg #[(.int .u32 z41.1), (.int .i64 z41.2.1)])), (40, (.bool z41.2.2))] (by kernel_rfl) ?_
  refine In.step (k' := 6) rfl (by kernel_rfl) ?_
  refine Step.alloc (t := 24) (z := (.agg #[(.int .u32 0), (.int .i64 0)])) (d := (some 14)) (k := 5) (by kernel_rfl) rfl (by kernel_rfl) hs46 ?_
  intro g47 w48 hs49
  have hs50 : SP [] w0 w48 [boxE g5 24 #[(.int .u32 pAddr3), (.int .i64 pBits4)], boxE g34 24 #[(.int .u32 z28.1), (.int .i64 z28.2.1)], boxE g47 24 #[(.int .u32 0), (.int .i64 0)]] := hs49
  clear hs49
  refine In.step (k' := 7) rfl (by kernel_rfl) ?_
  refine Step.store (t := 24) (x := (.tmp 14)) (y := (.tmp 39)) (g := g47) (off := 0) (i := 2) (v := (.agg #[(.int .u32 z41.1), (.int .i64 z41.2.1)])) (cs' := #[(.int .u32 z41.1), (.int .i64 z41.2.1)]) (d := none) (k := 6) (by kernel_rfl) rfl (by kernel_rfl) (by kernel_rfl) hs50 rfl (by kernel_rfl) ?_
  intro w51 hs52
  have hs53 : SP [] w0 w51 [boxE g5 24 #[(.int .u32 pAddr3), (.int .i64 pBits4)], boxE g34 24 #[(.int .u32 z28.1), (.int .i64 z28.2.1)], boxE g47 24 #[(.int .u32 z41.1), (.int .i64 z41.2.1)]] := hs52
  clear hs52
  refine In.run' 1 (k' := 8) rfl [(15, (.bool z41.2.2))] (by kernel_rfl) ?_
  refine In.fin (by kernel_rfl) ?_
  refine At.seq (by kernel_rfl) (p0 := [true, true, true, true, true, true, true, false]) (p1 := [true, true, true, true, true, true, true, true]) rfl rfl ?_
  refine At.join (fun ρ w => ∃ (v872 : Bool), Known ρ [(6, (.bool v872))] ∧ SP [] w0 w [] ∧ L_subwaylaw04_SyntaxTells_k1 v872 = some r) ?_ ?_
  ·rcases Bool.eq_false_or_eq_true z9 with hb875 | hb875
   ·have H := ct H hb875
    obtain ⟨z876, hz877, H⟩ := bind_elim H
    obtain ⟨z882, hz883, H⟩ := bind_elim H
    rcases Bool.eq_false_or_eq_true (z876 == z882) with hb888 | hb888
    ·have H := ct H hb888
     rcases Bool.eq_false_or_eq_true (z16.1 == z22.1) with hb889 | hb889
     ·have H := ct H hb889
      rcases Bool.eq_false_or_eq_true (z16.2 == z22.2) with hb890 | hb890
      ·have H := ct H hb890
       rcases Bool.eq_false_or_eq_true ((z28.1 == z41.1) && (z28.2.1 == z41.2.1)) with hb891 | hb891
       ·have H := ct H hb891
        rcases Bool.eq_false_or_eq_true (z28.2.2 == z41.2.2) with hb892 | hb892
        ·have H := ct H hb892
         obtain ⟨z893, hz894, H⟩ := bind_elim H
         obtain ⟨z899, hz900, H⟩ := bind_elim H
         rcases Bool.eq_false_or_eq_true (z893 == z899) with hb905 | hb905
         ·have H := ct H hb905
          obtain ⟨z906, hz907, H⟩ := bind_elim H
          obtain ⟨z912, hz913, H⟩ := bind_elim H
          rcases Bool.eq_false_or_eq_true (z906 == z912) with hb918 | hb918
          ·have H := ct H hb918
           obtain ⟨z919, hz920, H⟩ := bind_elim H
           obtain ⟨z925, hz926, H⟩ := bind_elim H
           refine At.stages (by kernel_rfl) (by kernel_rfl) (by kernel_rfl) (by kernel_rfl) (by kernel_rfl) [GEq (.bool z9), GEq (.bool z9), GEq (.string ⟨List.toArray p1⟩), GEq (.bool z876), GEq (.string ⟨List.toArray p1⟩), GEq (.bool z882), GEq (.bool (z876 == z882)), GEq (.bool (z876 == z882)), GEq (.bool (z876 == z882)), GEq (.int .u32 z16.1), GEq (.int .u32 z22.1), GEq (.bool (z16.1 == z22.1)), GEq (.bool (z16.1 == z22.1)), GEq (.bool (z16.1 == z22.1)), GEq (.bool z16.2), GEq (.bool z22.2), GEq (.bool (z16.2 == z22.2)), GEq (.bool (z16.2 == z22.2)), GEq (.bool (z16.2 == z22.2)), GEq (.agg #[(.int .u32 z28.1), (.int .i64 z28.2.1)]), GEq (.agg #[(.int .u32 z41.1), (.int .i64 z41.2.1)]), GEq (.bool ((z28.1 == z41.1) && (z28.2.1 == z41.2.1))), GEq (.bool ((z28.1 == z41.1) && (z28.2.1 == z41.2.1))), GEq (.bool ((z28.1 == z41.1) && (z28.2.1 == z41.2.1))), GEq (.bool z28.2.2), GEq (.bool z41.2.2), GEq (.bool (z28.2.2 == z41.2.2)), GEq (.bool (z28.2.2 == z41.2.2)), GEq (.bool (z28.2.2 == z41.2.2)), GEq (.int .u32 p2), GEq (.string ⟨List.toArray z893⟩), GEq (.int .u32 p2), GEq (.string ⟨List.toArray z899⟩), GEq (.bool (z893 == z899)), GEq (.bool (z893 == z899)), GEq (.bool (z893 == z899)), GEq (.agg #[(.int .u32 pAddr3), (.int .i64 pBits4)]), GEq (.string ⟨List.toArray z906⟩), GEq (.agg #[(.int .u32 pAddr3), (.int .i64 pBits4)]), GEq (.string ⟨List.toArray z912⟩), GEq (.bool (z906 == z912)), GEq (.bool (z906 == z912)), GEq (.bool (z906 == z912)), GEq (.agg #[(.int .u32 pAddr3), (.int .i64 pBits4)]), GEq (.int .u32 p2), GEq (.bool z919), GEq (.agg #[(.int .u32 pAddr3), (.int .i64 pBits4)]), GEq (.int .u32 p2), GEq (.bool z925), GEq (.bool (z919 == z925)), GEq (.bool (z919 == z925)), GEq (.bool (z919 == z925))] [3, 5, 30, 32, 37, 39, 45, 48] [([], fun vs w => VL vs [] ∧ SP [] w0 w [boxE g5 24 #[(.int .u32 pAddr3), (.int .i64 pBits4)], boxE g34 24 #[(.int .u32 z28.1), (.int .i64 z28.2.1)], boxE g47 24 #[(.int .u32 z41.1), (.int .i64 z41.2.1)]]), ([3], fun vs w => VL vs [(.bool z876)] ∧ SP [] w0 w [boxE g5 24 #[(.int .u32 pAddr3), (.int .i64 pBits4)], boxE g34 24 #[(.int .u32 z28.1), (.int .i64 z28.2.1)], boxE g47 24 #[(.int .u32 z41.1), (.int .i64 z41.2.1)]]), ([3, 5], fun vs w => VL vs [(.bool z876), (.bool z882)] ∧ SP [] w0 w [boxE g5 24 #[(.int .u32 pAddr3), (.int .i64 pBits4)], boxE g34 24 #[(.int .u32 z28.1), (.int .i64 z28.2.1)], boxE g47 24 #[(.int .u32 z41.1), (.int .i64 z41.2.1)]]), ([3, 5, 30], fun vs w => VL vs [(.bool z876), (.bool z882), (.string ⟨List.toArray z893⟩)] ∧ SP [] w0 w [boxE g5 24 #[(.int .u32 pAddr3), (.int .i64 pBits4)], boxE g34 24 #[(.int .u32 z28.1), (.int .i64 z28.2.1)], boxE g47 24 #[(.int .u32 z41.1), (.int .i64 z41.2.1)]]), ([3, 5, 30, 32], fun vs w => VL vs [(.bool z876), (.bool z882), (.string ⟨List.toArray z893⟩), (.string ⟨List.toArray z899⟩)] ∧ SP [] w0 w [boxE g5 24 #[(.int .u32 pAddr3), (.int .i64 pBits4)], boxE g34 24 #[(.int .u32 z28.1), (.int .i64 z28.2.1)], boxE g47 24 #[(.int .u32 z41.1), (.int .i64 z41.2.1)]]), ([3, 5, 30, 32, 37], fun vs w => VL vs [(.bool z876), (.bool z882), (.string ⟨List.toArray z893⟩), (.string ⟨List.toArray z899⟩), (.string ⟨List.toArray z906⟩)] ∧ SP [] w0 w [boxE g5 24 #[(.int .u32 pAddr3), (.int .i64 pBits4)], boxE g34 24 #[(.int .u32 z28.1), (.int .i64 z28.2.1)], boxE g47 24 #[(.int .u32 z41.1), (.int .i64 z41.2.1)]]), ([3, 5, 30, 32, 37, 39], fun vs w => VL vs [(.bool z876), (.bool z882), (.string ⟨List.toArray z893⟩), (.string ⟨List.toArray z899⟩), (.string ⟨List.toArray z906⟩), (.string ⟨List.toArray z912⟩)] ∧ SP [] w0 w [boxE g5 24 #[(.int .u32 pAddr3), (.int .i64 pBits4)], boxE g34 24 #[(.int .u32 z28.1), (.int .i64 z28.2.1)], boxE g47 24 #[(.int .u32 z41.1), (.int .i64 z41.2.1)]]), ([3, 5, 30, 32, 37, 39, 45], fun vs w => VL vs [(.bool z876), (.bool z882), (.string ⟨List.toArray z893⟩), (.string ⟨List.toArray z899⟩), (.string ⟨List.toArray z906⟩), (.string ⟨List.toArray z912⟩), (.bool z919)] ∧ SP [] w0 w [boxE g5 24 #[(.int .u32 pAddr3), (.int .i64 pBits4)], boxE g34 24 #[(.int .u32 z28.1), (.int .i64 z28.2.1)], boxE g47 24 #[(.int .u32 z41.1), (.int .i64 z41.2.1)]]), ([3, 5, 30, 32, 37, 39, 45, 48], fun vs w => VL vs [(.bool z876), (.bool z882), (.string ⟨List.toArray z893⟩), (.string ⟨List.toArray z899⟩), (.string ⟨List.toArray z906⟩), (.string ⟨List.toArray z912⟩), (.bool z919), (.bool z925)] ∧ SP [] w0 w [boxE g5 24 #[(.int .u32 pAddr3), (.int .i64 pBits4)], boxE g34 24 #[(.int .u32 z28.1), (.int .i64 z28.2.1)], boxE g47 24 #[(.int .u32 z41.1), (.int .i64 z41.2.1)]])] (N := 52) (by kernel_rfl) ⟨by kernel_rfl, Nat.zero_lt_succ _⟩ (show VL [] [] ∧ SP [] w0 w51.drew [boxE g5 24 #[(.int .u32 pAddr3), (.int .i64 pBits4)], boxE g34 24 #[(.int .u32 z28.1), (.int .i64 z28.2.1)], boxE g47 24 #[(.int .u32 z41.1), (.int .i64 z41.2.1)]] from ⟨trivial, SP.drew hs53⟩) ⟨⟨⟨⟨⟨⟨⟨⟨⟨⟨⟨⟨⟨⟨⟨⟨⟨⟨⟨⟨⟨⟨⟨⟨⟨⟨⟨⟨⟨⟨⟨⟨⟨⟨⟨⟨⟨⟨⟨⟨⟨⟨⟨⟨⟨⟨⟨⟨⟨⟨⟨⟨trivial, ?_⟩, ?_⟩, ?_⟩, ?_⟩, ?_⟩, ?_⟩, ?_⟩, ?_⟩, ?_⟩, ?_⟩, ?_⟩, ?_⟩, ?_⟩, ?_⟩, ?_⟩, ?_⟩, ?_⟩, ?_⟩, ?_⟩, ?_⟩, ?_⟩, ?_⟩, ?_⟩, ?_⟩, ?_⟩, ?_⟩, ?_⟩, ?_⟩, ?_⟩, ?_⟩, ?_⟩, ?_⟩, ?_⟩, ?_⟩, ?_⟩, ?_⟩, ?_⟩, ?_⟩, ?_⟩, ?_⟩, ?_⟩, ?_⟩, ?_⟩, ?_⟩, ?_⟩, ?_⟩, ?_⟩, ?_⟩, ?_⟩, ?_⟩, ?_⟩, ?_⟩ (last := 8) (by kernel_rfl) ?_
           ·exact Owe.run (by kernel_rfl) [(7, (.bool z9))] ⟨gS (by kernel_rfl) (by kernel_rfl), trivial⟩ (.bool z9) (fun _ _ => by kernel_rfl) rfl
           ·exact Owe.run (by kernel_rfl) [(41, (.bool z9))] ⟨gA 0 (by kernel_rfl) (by kernel_rfl), trivial⟩ (.bool z9) (fun _ _ => by kernel_rfl) rfl
           ·exact Owe.run (by kernel_rfl) [(0, (.string ⟨List.toArray p1⟩)), (42, (.bool true))] ⟨gS (by kernel_rfl) (by kernel_rfl), gB 1 (by kernel_rfl) z9 (by kernel_rfl) hb875, trivial⟩ (.string ⟨List.toArray p1⟩) (fun _ _ => by kernel_rfl) rfl
           ·refine Owe.heavy (by kernel_rfl) [(0, 1)] (by kernel_rfl) (all_cons ⟨by kernel_rfl, by kernel_rfl, ?_⟩ all_nil)
            ·intro ρ' w' hs hah hP
             obtain ⟨hvl1076, hs1075⟩ := hP
             have e43 := hah 2 43 (by kernel_rfl)
             have e42 := hah 1 42 (by kernel_rfl)
             have hkn : Known ρ' [(43, (.string ⟨List.toArray p1⟩)), (42, (.bool true))] := ⟨e43, (Eq.trans e42 (congrArg Value.bool hb875)), trivial⟩
             refine Step.known _ hkn ?_
             refine Step.callF (f := 15) (fo := (.func 15)) (xs := #[(.tmp 43)]) (tys := #[9]) (first := #[]) (captured := #[]) (d := (some 44)) (k := 3) (by kernel_rfl) rfl (by kernel_rfl) (by kernel_rfl) Tryd.call15 (L_syntax_Name_walk  p1 w'  z876 hz877) ?_
             rintro e w1077 ⟨rfl, hs1078⟩
             refine ⟨_, rfl, ?_⟩
             have hs1079 := SP.call hs1075 hs1078
             clear hs1078
             have hs1080 : SP [] w0 w1077 [boxE g5 24 #[(.int .u32 pAddr3), (.int .i64 pBits4)], boxE g34 24 #[(.int .u32 z28.1), (.int .i64 z28.2.1)], boxE g47 24 #[(.int .u32 z41.1), (.int .i64 z41.2.1)]] := hs1079
             clear hs1079
             refine ⟨_, updO_known hkn, rfl, ?_⟩
             exact (And.intro (And.intro rfl (trivial)) (hs1080))
           ·exact Owe.run (by kernel_rfl) [(0, (.string ⟨List.toArray p1⟩)), (42, (.bool true))] ⟨gS (by kernel_rfl) (by kernel_rfl), gB 1 (by kernel_rfl) z9 (by kernel_rfl) hb875, trivial⟩ (.string ⟨List.toArray p1⟩) (fun _ _ => by kernel_rfl) rfl
           ·refine Owe.heavy (by kernel_rfl) [(1, 2)] (by kernel_rfl) (all_cons ⟨by kernel_rfl, by kernel_rfl, ?_⟩ all_nil)
            ·intro ρ' w' hs hah hP
             obtain ⟨hvl1083, hs1081⟩ := hP
             obtain ⟨q1082, -⟩ := hvl1083
             have e45 := hah 4 45 (by kernel_rfl)
             have e42 := hah 1 42 (by kernel_rfl)
             have hkn : Known ρ' [(45, (.string ⟨List.toArray p1⟩)), (42, (.bool true))] := ⟨e45, (Eq.trans e42 (congrArg Value.bool hb875)), trivial⟩
             refine Step.known _ hkn ?_
             refine Step.callF (f := 16) (fo := (.func 16)) (xs := #[(.tmp 45)]) (tys := #[9]) (first := #[]) (captured := #[]) (d := (some 46)) (k := 5) (by kernel_rfl) rfl (by kernel_rfl) (by kernel_rfl) Tryd.call16 (L_subwayref04_Name_walk  p1 w'  z882 hz883) ?_
             rintro e w1084 ⟨rfl, hs1085⟩
             refine ⟨_, rfl, ?_⟩
             have hs1086 := SP.call hs1081 hs1085
             clear hs1085
             have hs1087 : SP [] w0 w1084 [boxE g5 24 #[(.int .u32 pAddr3), (.int .i64 pBits4)], boxE g34 24 #[(.int .u32 z28.1), (.int .i64 z28.2.1)], boxE g47 24 #[(.int .u32 z41.1), (.int .i64 z41.2.1)]] := hs1086
             clear hs1086
             refine ⟨_, updO_known hkn, rfl, ?_⟩
             exact (And.intro (And.intro q1082 (And.intro rfl (trivial))) (hs1087))
           ·exact Owe.run (by kernel_rfl) [(44, (.bool z876)), (46, (.bool z882)), (42, (.bool true))] ⟨gA 3 (by kernel_rfl) (by kernel_rfl), gA 5 (by kernel_rfl) (by kernel_rfl), gB 1 (by kernel_rfl) z9 (by kernel_rfl) hb875, trivial⟩ (.bool (z876 == z882)) (fun _ _ => by kernel_rfl) rfl
           ·exact Owe.run (by kernel_rfl) [(42, (.bool true)), (47, (.bool (z876 == z882)))] ⟨gB 1 (by kernel_rfl) z9 (by kernel_rfl) hb875, gA 6 (by kernel_rfl) (by kernel_rfl), trivial⟩ (.bool (z876 == z882)) (fun _ _ => by kernel_rfl) rfl
           ·exact Owe.run (by kernel_rfl) [(48, (.bool (z876 == z882)))] ⟨gA 7 (by kernel_rfl) (by kernel_rfl), trivial⟩ (.bool (z876 == z882)) (fun _ _ => by kernel_rfl) rfl
           ·exact Owe.run (by kernel_rfl) [(8, (.int .u32 z16.1)), (49, (.bool true))] ⟨gS (by kernel_rfl) (by kernel_rfl), gB 8 (by kernel_rfl) (z876 == z882) (by kernel_rfl) hb888, trivial⟩ (.int .u32 z16.1) (fun _ _ => by kernel_rfl) rfl
           ·exact Owe.run (by kernel_rfl) [(10, (.int .u32 z22.1)), (49, (.bool true))] ⟨gS (by kernel_rfl) (by kernel_rfl), gB 8 (by kernel_rfl) (z876 == z882) (by kernel_rfl) hb888, trivial⟩ (.int .u32 z22.1) (fun _ _ => by kernel_rfl) rfl
           ·exact Owe.run (by kernel_rfl) [(50, (.int .u32 z16.1)), (51, (.int .u32 z22.1)), (49, (.bool true))] ⟨gA 9 (by kernel_rfl) (by kernel_rfl), gA 10 (by kernel_rfl) (by kernel_rfl), gB 8 (by kernel_rfl) (z876 == z882) (by kernel_rfl) hb888, trivial⟩ (.bool (z16.1 == z22.1)) (fun _ _ => by kernel_rfl) rfl
           ·exact Owe.run (by kernel_rfl) [(49, (.bool true)), (52, (.bool (z16.1 == z22.1)))] ⟨gB 8 (by kernel_rfl) (z876 == z882) (by kernel_rfl) hb888, gA 11 (by kernel_rfl) (by kernel_rfl), trivial⟩ (.bool (z16.1 == z22.1)) (fun _ _ => by kernel_rfl) rfl
           ·exact Owe.run (by kernel_rfl) [(53, (.bool (z16.1 == z22.1)))] ⟨gA 12 (by kernel_rfl) (by kernel_rfl), trivial⟩ (.bool (z16.1 == z22.1)) (fun _ _ => by kernel_rfl) rfl
           ·exact Owe.run (by kernel_rfl) [(9, (.bool z16.2)), (54, (.bool true))] ⟨gS (by kernel_rfl) (by kernel_rfl), gB 13 (by kernel_rfl) (z16.1 == z22.1) (by kernel_rfl) hb889, trivial⟩ (.bool z16.2) (fun _ _ => by kernel_rfl) rfl
           ·exact Owe.run (by kernel_rfl) [(11, (.bool z22.2)), (54, (.bool true))] ⟨gS (by kernel_rfl) (by kernel_rfl), gB 13 (by kernel_rfl) (z16.1 == z22.1) (by kernel_rfl) hb889, trivial⟩ (.bool z22.2) (fun _ _ => by kernel_rfl) rfl
           ·exact Owe.run (by kernel_rfl) [(55, (.bool z16.2)), (56, (.bool z22.2)), (54, (.bool true))] ⟨gA 14 (by kernel_rfl) (by kernel_rfl), gA 15 (by kernel_rfl) (by kernel_rfl), gB 13 (by kernel_rfl) (z16.1 == z22.1) (by kernel_rfl) hb889, trivial⟩ (.bool (z16.2 == z22.2)) (fun _ _ => by kernel_rfl) rfl
           ·exact Owe.run (by kernel_rfl) [(54, (.bool true)), (57, (.bool (z16.2 == z22.2)))] ⟨gB 13 (by kernel_rfl) (z16.1 == z22.1) (by kernel_rfl) hb889, gA 16 (by kernel_rfl) (by kernel_rfl), trivial⟩ (.bool (z16.2 == z22.2)) (fun _ _ => by kernel_rfl) rfl
           ·exact Owe.run (by kernel_rfl) [(58, (.bool (z16.2 == z22.2)))] ⟨gA 17 (by kernel_rfl) (by kernel_rfl), trivial⟩ (.bool (z16.2 == z22.2)) (fun _ _ => by kernel_rfl) rfl
           ·refine Owe.light (by kernel_rfl) [2] (by kernel_rfl) (all_cons ?_ all_nil)
            ·intro ρ' w' hs hah hP
             obtain ⟨hvl1091, hs1088⟩ := hP
             obtain ⟨q1089, q1090, -⟩ := hvl1091
             have e12 : ρ' 12 = (.pointer (some ⟨g34, 0, none⟩)) := (hs 12 (by kernel_rfl)).trans (by kernel_rfl)
             have e59 := hah 18 59 (by kernel_rfl)
             have hkn : Known ρ' [(12, (.pointer (some ⟨g34, 0, none⟩))), (59, (.bool true))] := ⟨e12, (Eq.trans e59 (congrArg Value.bool hb890)), trivial⟩
             refine Step.known _ hkn ?_
             refine Step.load (t := 24) (x := (.tmp 12)) (g := g34) (off := 0) (i := 1) (v := (.agg #[(.int .u32 z28.1), (.int .i64 z28.2.1)])) (d := (some 60)) (k := 19) (by kernel_rfl) rfl (by kernel_rfl) hs1088 rfl (by kernel_rfl) ?_
             exact ⟨rfl, _, updO_known hkn, rfl⟩
           ·refine Owe.light (by kernel_rfl) [2] (by kernel_rfl) (all_cons ?_ all_nil)
            ·intro ρ' w' hs hah hP
             obtain ⟨hvl1095, hs1092⟩ := hP
             obtain ⟨q1093, q1094, -⟩ := hvl1095
             have e14 : ρ' 14 = (.pointer (some ⟨g47, 0, none⟩)) := (hs 14 (by kernel_rfl)).trans (by kernel_rfl)
             have e59 := hah 18 59 (by kernel_rfl)
             have hkn : Known ρ' [(14, (.pointer (some ⟨g47, 0, none⟩))), (59, (.bool true))] := ⟨e14, (Eq.trans e59 (congrArg Value.bool hb890)), trivial⟩
             refine Step.known _ hkn ?_
             refine Step.load (t := 24) (x := (.tmp 14)) (g := g47) (off := 0) (i := 2) (v := (.agg #[(.int .u32 z41.1), (.int .i64 z41.2.1)])) (d := (some 61)) (k := 20) (by kernel_rfl) rfl (by kernel_rfl) hs1092 rfl (by kernel_rfl) ?_
             exact ⟨rfl, _, updO_known hkn, rfl⟩
           ·refine Owe.light (by kernel_rfl) [2] (by kernel_rfl) (all_cons ?_ all_nil)
            ·intro ρ' w' hs hah hP
             obtain ⟨hvl1099, hs1096⟩ := hP
             obtain ⟨q1097, q1098, -⟩ := hvl1099
             have e60 := hah 19 60 (by kernel_rfl)
             have e61 := hah 20 61 (by kernel_rfl)
             have e59 := hah 18 59 (by kernel_rfl)
             have hkn : Known ρ' [(60, (.agg #[(.int .u32 z28.1), (.int .i64 z28.2.1)])), (61, (.agg #[(.int .u32 z41.1), (.int .i64 z41.2.1)])), (59, (.bool true))] := ⟨e60, e61, (Eq.trans e59 (congrArg Value.bool hb890)), trivial⟩
             refine Step.known _ hkn ?_
             refine Step.bin (op := .eql) (T := 24) (T' := 24) (x := (.tmp 60)) (y := (.tmp 61)) (vx := (.agg #[(.int .u32 z28.1), (.int .i64 z28.2.1)])) (vy := (.agg #[(.int .u32 z41.1), (.int .i64 z41.2.1)])) (v := (.bool ((z28.1 == z41.1) && (z28.2.1 == z41.2.1)))) (d := (some 62)) (k := 21) (by kernel_rfl) rfl (by kernel_rfl) (by kernel_rfl) (by clear H; intro w; simp only [beq_dec]; go_simp; simp only [struct_ifn, struct_ifn0, struct_if, beq_dec, Bool.and_true] <;> simp only [Bool.not_and]) ?_
             exact ⟨rfl, _, updO_known hkn, rfl⟩
           ·exact Owe.run (by kernel_rfl) [(59, (.bool true)), (62, (.bool ((z28.1 == z41.1) && (z28.2.1 == z41.2.1))))] ⟨gB 18 (by kernel_rfl) (z16.2 == z22.2) (by kernel_rfl) hb890, gA 21 (by kernel_rfl) (by kernel_rfl), trivial⟩ (.bool ((z28.1 == z41.1) && (z28.2.1 == z41.2.1))) (fun _ _ => by kernel_rfl) rfl
           ·exact Owe.run (by kernel_rfl) [(63, (.bool ((z28.1 == z41.1) && (z28.2.1 == z41.2.1))))] ⟨gA 22 (by kernel_rfl) (by kernel_rfl), trivial⟩ (.bool ((z28.1 == z41.1) && (z28.2.1 == z41.2.1))) (fun _ _ => by kernel_rfl) rfl
           ·exact Owe.run (by kernel_rfl) [(13, (.bool z28.2.2)), (64, (.bool true))] ⟨gS (by kernel_rfl) (by kernel_rfl), gB 23 (by kernel_rfl) ((z28.1 == z41.1) && (z28.2.1 == z41.2.1)) (by kernel_rfl) hb891, trivial⟩ (.bool z28.2.2) (fun _ _ => by kernel_rfl) rfl
           ·exact Owe.run (by kernel_rfl) [(15, (.bool z41.2.2)), (64, (.bool true))] ⟨gS (by kernel_rfl) (by kernel_rfl), gB 23 (by kernel_rfl) ((z28.1 == z41.1) && (z28.2.1 == z41.2.1)) (by kernel_rfl) hb891, trivial⟩ (.bool z41.2.2) (fun _ _ => by kernel_rfl) rfl
           ·exact Owe.run (by kernel_rfl) [(65, (.bool z28.2.2)), (66, (.bool z41.2.2)), (64, (.bool true))] ⟨gA 24 (by kernel_rfl) (by kernel_rfl), gA 25 (by kernel_rfl) (by kernel_rfl), gB 23 (by kernel_rfl) ((z28.1 == z41.1) && (z28.2.1 == z41.2.1)) (by kernel_rfl) hb891, trivial⟩ (.bool (z28.2.2 == z41.2.2)) (fun _ _ => by kernel_rfl) rfl
           ·exact Owe.run (by kernel_rfl) [(64, (.bool true)), (67, (.bool (z28.2.2 == z41.2.2)))] ⟨gB 23 (by kernel_rfl) ((z28.1 == z41.1) && (z28.2.1 == z41.2.1)) (by kernel_rfl) hb891, gA 26 (by kernel_rfl) (by kernel_rfl), trivial⟩ (.bool (z28.2.2 == z41.2.2)) (fun _ _ => by kernel_rfl) rfl
           ·exact Owe.run (by kernel_rfl) [(68, (.bool (z28.2.2 == z41.2.2)))] ⟨gA 27 (by kernel_rfl) (by kernel_rfl), trivial⟩ (.bool (z28.2.2 == z41.2.2)) (fun _ _ => by kernel_rfl) rfl
           ·exact Owe.run (by kernel_rfl) [(1, (.int .u32 p2)), (69, (.bool true))] ⟨gS (by kernel_rfl) (by kernel_rfl), gB 28 (by kernel_rfl) (z28.2.2 == z41.2.2) (by kernel_rfl) hb892, trivial⟩ (.int .u32 p2) (fun _ _ => by kernel_rfl) rfl
           ·refine Owe.heavy (by kernel_rfl) [(2, 3)] (by kernel_rfl) (all_cons ⟨by kernel_rfl, by kernel_rfl, ?_⟩ all_nil)
            ·intro ρ' w' hs hah hP
             obtain ⟨hvl1103, hs1100⟩ := hP
             obtain ⟨q1101, q1102, -⟩ := hvl1103
             have e70 := hah 29 70 (by kernel_rfl)
             have e69 := hah 28 69 (by kernel_rfl)
             have hkn : Known ρ' [(70, (.int .u32 p2)), (69, (.bool true))] := ⟨e70, (Eq.trans e69 (congrArg Value.bool hb892)), trivial⟩
             refine Step.known _ hkn ?_
             refine Step.callF (f := 17) (fo := (.func 17)) (xs := #[(.tmp 70)]) (tys := #[22]) (first := #[]) (captured := #[]) (d := (some 71)) (k := 30) (by kernel_rfl) rfl (by kernel_rfl) (by kernel_rfl) Tryd.call17 (L_syntax_Dots_walk  p2 w' (laid_below hL (SP.keeps hs1100)) z893 hz894) ?_
             rintro e w1104 ⟨rfl, hs1105⟩
             refine ⟨_, rfl, ?_⟩
             have hs1106 := SP.call hs1100 hs1105
             clear hs1105
             have hs1107 : SP [] w0 w1104 [boxE g5 24 #[(.int .u32 pAddr3), (.int .i64 pBits4)], boxE g34 24 #[(.int .u32 z28.1), (.int .i64 z28.2.1)], boxE g47 24 #[(.int .u32 z41.1), (.int .i64 z41.2.1)]] := hs1106
             clear hs1106
             refine ⟨_, updO_known hkn, rfl, ?_⟩
             exact (And.intro (And.intro q1101 (And.intro q1102 (And.intro rfl (trivial)))) (hs1107))
           ·exact Owe.run (by kernel_rfl) [(1, (.int .u32 p2)), (69, (.bool true))] ⟨gS (by kernel_rfl) (by kernel_rfl), gB 28 (by kernel_rfl) (z28.2.2 == z41.2.2) (by kernel_rfl) hb892, trivial⟩ (.int .u32 p2) (fun _ _ => by kernel_rfl) rfl
           ·refine Owe.heavy (by kernel_rfl) [(3, 4)] (by kernel_rfl) (all_cons ⟨by kernel_rfl, by kernel_rfl, ?_⟩ all_nil)
            ·intro ρ' w' hs hah hP
             obtain ⟨hvl1112, hs1108⟩ := hP
             obtain ⟨q1109, q1110, q1111, -⟩ := hvl1112
             have e72 := hah 31 72 (by kernel_rfl)
             have e69 := hah 28 69 (by kernel_rfl)
             have hkn : Known ρ' [(72, (.int .u32 p2)), (69, (.bool true))] := ⟨e72, (Eq.trans e69 (congrArg Value.bool hb892)), trivial⟩
             refine Step.known _ hkn ?_
             refine Step.callF (f := 18) (fo := (.func 18)) (xs := #[(.tmp 72)]) (tys := #[22]) (first := #[]) (captured := #[]) (d := (some 73)) (k := 32) (by kernel_rfl) rfl (by kernel_rfl) (by kernel_rfl) Tryd.call18 (L_subwayref04_Dots_walk  p2 w'  z899 hz900) ?_
             rintro e w1113 ⟨rfl, hs1114⟩
             refine ⟨_, rfl, ?_⟩
             have hs1115 := SP.call hs1108 hs1114
             clear hs1114
             have hs1116 : SP [] w0 w1113 [boxE g5 24 #[(.int .u32 pAddr3), (.int .i64 pBits4)], boxE g34 24 #[(.int .u32 z28.1), (.int .i64 z28.2.1)], boxE g47 24 #[(.int .u32 z41.1), (.int .i64 z41.2.1)]] := hs1115
             clear hs1115
             refine ⟨_, updO_known hkn, rfl, ?_⟩
             exact (And.intro (And.intro q1109 (And.intro q1110 (And.intro q1111 (And.intro rfl (trivial))))) (hs1116))
           ·refine Owe.light (by kernel_rfl) [4] (by kernel_rfl) (all_cons ?_ all_nil)
            ·intro ρ' w' hs hah hP
             obtain ⟨hvl1122, hs1117⟩ := hP
             obtain ⟨q1118, q1119, q1120, q1121, -⟩ := hvl1122
             have e71 : ρ' 71 = (.string ⟨List.toArray z893⟩) := (valF_eq (h := 30) (by kernel_rfl)).symm.trans q1120
             have e73 : ρ' 73 = (.string ⟨List.toArray z899⟩) := (valF_eq (h := 32) (by kernel_rfl)).symm.trans q1121
             have e69 := hah 28 69 (by kernel_rfl)
             have hkn : Known ρ' [(71, (.string ⟨List.toArray z893⟩)), (73, (.string ⟨List.toArray z899⟩)), (69, (.bool true))] := ⟨e71, e73, (Eq.trans e69 (congrArg Value.bool hb892)), trivial⟩
             refine Step.known _ hkn ?_
             refine Step.strOp (op := .eql) (T := 9) (T' := 9) (x := (.tmp 71)) (y := (.tmp 73)) (a := z893) (b := z899) (r := (.bool (z893 == z899))) (d := (some 74)) (k := 33) (by kernel_rfl) rfl (by kernel_rfl) (by kernel_rfl) rfl ?_
             exact ⟨rfl, _, updO_known hkn, rfl⟩
           ·exact Owe.run (by kernel_rfl) [(69, (.bool true)), (74, (.bool (z893 == z899)))] ⟨gB 28 (by kernel_rfl) (z28.2.2 == z41.2.2) (by kernel_rfl) hb892, gA 33 (by kernel_rfl) (by kernel_rfl), trivial⟩ (.bool (z893 == z899)) (fun _ _ => by kernel_rfl) rfl
           ·exact Owe.run (by kernel_rfl) [(75, (.bool (z893 == z899)))] ⟨gA 34 (by kernel_rfl) (by kernel_rfl), trivial⟩ (.bool (z893 == z899)) (fun _ _ => by kernel_rfl) rfl
           ·refine Owe.light (by kernel_rfl) [4] (by kernel_rfl) (all_cons ?_ all_nil)
            ·intro ρ' w' hs hah hP
             obtain ⟨hvl1128, hs1123⟩ := hP
             obtain ⟨q1124, q1125, q1126, q1127, -⟩ := hvl1128
             have e5 : ρ' 5 = (.pointer (some ⟨g5, 0, none⟩)) := (hs 5 (by kernel_rfl)).trans (by kernel_rfl)
             have e76 := hah 35 76 (by kernel_rfl)
             have hkn : Known ρ' [(5, (.pointer (some ⟨g5, 0, none⟩))), (76, (.bool true))] := ⟨e5, (Eq.trans e76 (congrArg Value.bool hb905)), trivial⟩
             refine Step.known _ hkn ?_
             refine Step.load (t := 24) (x := (.tmp 5)) (g := g5) (off := 0) (i := 0) (v := (.agg #[(.int .u32 pAddr3), (.int .i64 pBits4)])) (d := (some 77)) (k := 36) (by kernel_rfl) rfl (by kernel_rfl) hs1123 rfl (by kernel_rfl) ?_
             exact ⟨rfl, _, updO_known hkn, rfl⟩
           ·refine Owe.heavy (by kernel_rfl) [(4, 5)] (by kernel_rfl) (all_cons ⟨by kernel_rfl, by kernel_rfl, ?_⟩ all_nil)
            ·intro ρ' w' hs hah hP
             obtain ⟨hvl1134, hs1129⟩ := hP
             obtain ⟨q1130, q1131, q1132, q1133, -⟩ := hvl1134
             have e77 := hah 36 77 (by kernel_rfl)
             have e76 := hah 35 76 (by kernel_rfl)
             have hkn : Known ρ' [(77, (.agg #[(.int .u32 pAddr3), (.int .i64 pBits4)])), (76, (.bool true))] := ⟨e77, (Eq.trans e76 (congrArg Value.bool hb905)), trivial⟩
             refine Step.known _ hkn ?_
             refine Step.callF (f := 19) (fo := (.func 19)) (xs := #[(.tmp 77)]) (tys := #[24]) (first := #[]) (captured := #[]) (d := (some 78)) (k := 37) (by kernel_rfl) rfl (by kernel_rfl) (by kernel_rfl) Tryd.call19 (L_syntax_Slash_walk  pAddr3 pBits4 w' (laid_below hL (SP.keeps hs1129)) z906 hz907) ?_
             rintro e w1135 ⟨rfl, hs1136⟩
             refine ⟨_, rfl, ?_⟩
             have hs1137 := SP.call hs1129 hs1136
             clear hs1136
             have hs1138 : SP [] w0 w1135 [boxE g5 24 #[(.int .u32 pAddr3), (.int .i64 pBits4)], boxE g34 24 #[(.int .u32 z28.1), (.int .i64 z28.2.1)], boxE g47 24 #[(.int .u32 z41.1), (.int .i64 z41.2.1)]] := hs1137
             clear hs1137
             refine ⟨_, updO_known hkn, rfl, ?_⟩
             exact (And.intro (And.intro q1130 (And.intro q1131 (And.intro q1132 (And.intro q1133 (And.intro rfl (trivial)))))) (hs1138))
           ·refine Owe.light (by kernel_rfl) [4, 5] (by kernel_rfl) (all_cons ?_ (all_cons ?_ all_nil))
            ·intro ρ' w' hs hah hP
             obtain ⟨hvl1144, hs1139⟩ := hP
             obtain ⟨q1140, q1141, q1142, q1143, -⟩ := hvl1144
             have e5 : ρ' 5 = (.pointer (some ⟨g5, 0, none⟩)) := (hs 5 (by kernel_rfl)).trans (by kernel_rfl)
             have e76 := hah 35 76 (by kernel_rfl)
             have hkn : Known ρ' [(5, (.pointer (some ⟨g5, 0, none⟩))), (76, (.bool true))] := ⟨e5, (Eq.trans e76 (congrArg Value.bool hb905)), trivial⟩
             refine Step.known _ hkn ?_
             refine Step.load (t := 24) (x := (.tmp 5)) (g := g5) (off := 0) (i := 0) (v := (.agg #[(.int .u32 pAddr3), (.int .i64 pBits4)])) (d := (some 79)) (k := 38) (by kernel_rfl) rfl (by kernel_rfl) hs1139 rfl (by kernel_rfl) ?_
             exact ⟨rfl, _, updO_known hkn, rfl⟩
            ·intro ρ' w' hs hah hP
             obtain ⟨hvl1151, hs1145⟩ := hP
             obtain ⟨q1146, q1147, q1148, q1149, q1150, -⟩ := hvl1151
             have e5 : ρ' 5 = (.pointer (some ⟨g5, 0, none⟩)) := (hs 5 (by kernel_rfl)).trans (by kernel_rfl)
             have e76 := hah 35 76 (by kernel_rfl)
             have hkn : Known ρ' [(5, (.pointer (some ⟨g5, 0, none⟩))), (76, (.bool true))] := ⟨e5, (Eq.trans e76 (congrArg Value.bool hb905)), trivial⟩
             refine Step.known _ hkn ?_
             refine Step.load (t := 24) (x := (.tmp 5)) (g := g5) (off := 0) (i := 0) (v := (.agg #[(.int .u32 pAddr3), (.int .i64 pBits4)])) (d := (some 79)) (k := 38) (by kernel_rfl) rfl (by kernel_rfl) hs1145 rfl (by kernel_rfl) ?_
             exact ⟨rfl, _, updO_known hkn, rfl⟩
           ·refine Owe.heavy (by kernel_rfl) [(5, 6)] (by kernel_rfl) (all_cons ⟨by kernel_rfl, by kernel_rfl, ?_⟩ all_nil)
            ·intro ρ' w' hs hah hP
             obtain ⟨hvl1158, hs1152⟩ := hP
             obtain ⟨q1153, q1154, q1155, q1156, q1157, -⟩ := hvl1158
             have e79 := hah 38 79 (by kernel_rfl)
             have e76 := hah 35 76 (by kernel_rfl)
             have hkn : Known ρ' [(79, (.agg #[(.int .u32 pAddr3), (.int .i64 pBits4)])), (76, (.bool true))] := ⟨e79, (Eq.trans e76 (congrArg Value.bool hb905)), trivial⟩
             refine Step.known _ hkn ?_
             refine Step.callF (f := 20) (fo := (.func 20)) (xs := #[(.tmp 79)]) (tys := #[24]) (first := #[]) (captured := #[]) (d := (some 80)) (k := 39) (by kernel_rfl) rfl (by kernel_rfl) (by kernel_rfl) Tryd.call20 (L_subwayref04_Slash_walk  pAddr3 pBits4 w'  z912 hz913) ?_
             rintro e w1159 ⟨rfl, hs1160⟩
             refine ⟨_, rfl, ?_⟩
             have hs1161 := SP.call hs1152 hs1160
             clear hs1160
             have hs1162 : SP [] w0 w1159 [boxE g5 24 #[(.int .u32 pAddr3), (.int .i64 pBits4)], boxE g34 24 #[(.int .u32 z28.1), (.int .i64 z28.2.1)], boxE g47 24 #[(.int .u32 z41.1), (.int .i64 z41.2.1)]] := hs1161
             clear hs1161
             refine ⟨_, updO_known hkn, rfl, ?_⟩
             exact (And.intro (And.intro q1153 (And.intro q1154 (And.intro q1155 (And.intro q1156 (And.intro q1157 (And.intro rfl (trivial))))))) (hs1162))
           ·refine Owe.light (by kernel_rfl) [6] (by kernel_rfl) (all_cons ?_ all_nil)
            ·intro ρ' w' hs hah hP
             obtain ⟨hvl1170, hs1163⟩ := hP
             obtain ⟨q1164, q1165, q1166, q1167, q1168, q1169, -⟩ := hvl1170
             have e78 : ρ' 78 = (.string ⟨List.toArray z906⟩) := (valF_eq (h := 37) (by kernel_rfl)).symm.trans q1168
             have e80 : ρ' 80 = (.string ⟨List.toArray z912⟩) := (valF_eq (h := 39) (by kernel_rfl)).symm.trans q1169
             have e76 := hah 35 76 (by kernel_rfl)
             have hkn : Known ρ' [(78, (.string ⟨List.toArray z906⟩)), (80, (.string ⟨List.toArray z912⟩)), (76, (.bool true))] := ⟨e78, e80, (Eq.trans e76 (congrArg Value.bool hb905)), trivial⟩
             refine Step.known _ hkn ?_
             refine Step.strOp (op := .eql) (T := 9) (T' := 9) (x := (.tmp 78)) (y := (.tmp 80)) (a := z906) (b := z912) (r := (.bool (z906 == z912))) (d := (some 81)) (k := 40) (by kernel_rfl) rfl (by kernel_rfl) (by kernel_rfl) rfl ?_
             exact ⟨rfl, _, updO_known hkn, rfl⟩
           ·exact Owe.run (by kernel_rfl) [(76, (.bool true)), (81, (.bool (z906 == z912)))] ⟨gB 35 (by kernel_rfl) (z893 == z899) (by kernel_rfl) hb905, gA 40 (by kernel_rfl) (by kernel_rfl), trivial⟩ (.bool (z906 == z912)) (fun _ _ => by kernel_rfl) rfl
           ·exact Owe.run (by kernel_rfl) [(82, (.bool (z906 == z912)))] ⟨gA 41 (by kernel_rfl) (by kernel_rfl), trivial⟩ (.bool (z906 == z912)) (fun _ _ => by kernel_rfl) rfl
           ·refine Owe.light (by kernel_rfl) [6] (by kernel_rfl) (all_cons ?_ all_nil)
            ·intro ρ' w' hs hah hP
             obtain ⟨hvl1178, hs1171⟩ := hP
             obtain ⟨q1172, q1173, q1174, q1175, q1176, q1177, -⟩ := hvl1178
             have e5 : ρ' 5 = (.pointer (some ⟨g5, 0, none⟩)) := (hs 5 (by kernel_rfl)).trans (by kernel_rfl)
             have e83 := hah 42 83 (by kernel_rfl)
             have hkn : Known ρ' [(5, (.pointer (some ⟨g5, 0, none⟩))), (83, (.bool true))] := ⟨e5, (Eq.trans e83 (congrArg Value.bool hb918)), trivial⟩
             refine Step.known _ hkn ?_
             refine Step.load (t := 24) (x := (.tmp 5)) (g := g5) (off := 0) (i := 0) (v := (.agg #[(.int .u32 pAddr3), (.int .i64 pBits4)])) (d := (some 84)) (k := 43) (by kernel_rfl) rfl (by kernel_rfl) hs1171 rfl (by kernel_rfl) ?_
             exact ⟨rfl, _, updO_known hkn, rfl⟩
           ·exact Owe.run (by kernel_rfl) [(1, (.int .u32 p2)), (83, (.bool true))] ⟨gS (by kernel_rfl) (by kernel_rfl), gB 42 (by kernel_rfl) (z906 == z912) (by kernel_rfl) hb918, trivial⟩ (.int .u32 p2) (fun _ _ => by kernel_rfl) rfl
           ·refine Owe.heavy (by kernel_rfl) [(6, 7)] (by kernel_rfl) (all_cons ⟨by kernel_rfl, by kernel_rfl, ?_⟩ all_nil)
            ·intro ρ' w' hs hah hP
             obtain ⟨hvl1186, hs1179⟩ := hP
             obtain ⟨q1180, q1181, q1182, q1183, q1184, q1185, -⟩ := hvl1186
             have e84 := hah 43 84 (by kernel_rfl)
             have e85 := hah 44 85 (by kernel_rfl)
             have e83 := hah 42 83 (by kernel_rfl)
             have hkn : Known ρ' [(84, (.agg #[(.int .u32 pAddr3), (.int .i64 pBits4)])), (85, (.int .u32 p2)), (83, (.bool true))] := ⟨e84, e85, (Eq.trans e83 (congrArg Value.bool hb918)), trivial⟩
             refine Step.known _ hkn ?_
             refine Step.callF (f := 21) (fo := (.func 21)) (xs := #[(.tmp 84), (.tmp 85)]) (tys := #[24, 22]) (first := #[]) (captured := #[]) (d := (some 86)) (k := 45) (by kernel_rfl) rfl (by kernel_rfl) (by kernel_rfl) Tryd.call21 (L_syntax_In_walk  pAddr3 pBits4 p2 w'  z919 hz920) ?_
             rintro e w1187 ⟨rfl, hs1188⟩
             refine ⟨_, rfl, ?_⟩
             have hs1189 := SP.call hs1179 hs1188
             clear hs1188
             have hs1190 : SP [] w0 w1187 [boxE g5 24 #[(.int .u32 pAddr3), (.int .i64 pBits4)], boxE g34 24 #[(.int .u32 z28.1), (.int .i64 z28.2.1)], boxE g47 24 #[(.int .u32 z41.1), (.int .i64 z41.2.1)]] := hs1189
             clear hs1189
             refine ⟨_, updO_known hkn, rfl, ?_⟩
             exact (And.intro (And.intro q1180 (And.intro q1181 (And.intro q1182 (And.intro q1183 (And.intro q1184 (And.intro q1185 (And.intro rfl (trivial)))))))) (hs1190))
           ·refine Owe.light (by kernel_rfl) [6, 7] (by kernel_rfl) (all_cons ?_ (all_cons ?_ all_nil))
            ·intro ρ' w' hs hah hP
             obtain ⟨hvl1198, hs1191⟩ := hP
             obtain ⟨q1192, q1193, q1194, q1195, q1196, q1197, -⟩ := hvl1198
             have e5 : ρ' 5 = (.pointer (some ⟨g5, 0, none⟩)) := (hs 5 (by kernel_rfl)).trans (by kernel_rfl)
             have e83 := hah 42 83 (by kernel_rfl)
             have hkn : Known ρ' [(5, (.pointer (some ⟨g5, 0, none⟩))), (83, (.bool true))] := ⟨e5, (Eq.trans e83 (congrArg Value.bool hb918)), trivial⟩
             refine Step.known _ hkn ?_
             refine Step.load (t := 24) (x := (.tmp 5)) (g := g5) (off := 0) (i := 0) (v := (.agg #[(.int .u32 pAddr3), (.int .i64 pBits4)])) (d := (some 87)) (k := 46) (by kernel_rfl) rfl (by kernel_rfl) hs1191 rfl (by kernel_rfl) ?_
             exact ⟨rfl, _, updO_known hkn, rfl⟩
            ·intro ρ' w' hs hah hP
             obtain ⟨hvl1207, hs1199⟩ := hP
             obtain ⟨q1200, q1201, q1202, q1203, q1204, q1205, q1206, -⟩ := hvl1207
             have e5 : ρ' 5 = (.pointer (some ⟨g5, 0, none⟩)) := (hs 5 (by kernel_rfl)).trans (by kernel_rfl)
             have e83 := hah 42 83 (by kernel_rfl)
             have hkn : Known ρ' [(5, (.pointer (some ⟨g5, 0, none⟩))), (83, (.bool true))] := ⟨e5, (Eq.trans e83 (congrArg Value.bool hb918)), trivial⟩
             refine Step.known _ hkn ?_
             refine Step.load (t := 24) (x := (.tmp 5)) (g := g5) (off := 0) (i := 0) (v := (.agg #[(.int .u32 pAddr3), (.int .i64 pBits4)])) (d := (some 87)) (k := 46) (by kernel_rfl) rfl (by kernel_rfl) hs1199 rfl (by kernel_rfl) ?_
             exact ⟨rfl, _, updO_known hkn, rfl⟩
           ·exact Owe.run (by kernel_rfl) [(1, (.int .u32 p2)), (83, (.bool true))] ⟨gS (by kernel_rfl) (by kernel_rfl), gB 42 (by kernel_rfl) (z906 == z912) (by kernel_rfl) hb918, trivial⟩ (.int .u32 p2) (fun _ _ => by kernel_rfl) rfl
           ·refine Owe.heavy (by kernel_rfl) [(7, 8)] (by kernel_rfl) (all_cons ⟨by kernel_rfl, by kernel_rfl, ?_⟩ all_nil)
            ·intro ρ' w' hs hah hP
             obtain ⟨hvl1216, hs1208⟩ := hP
             obtain ⟨q1209, q1210, q1211, q1212, q1213, q1214, q1215, -⟩ := hvl1216
             have e87 := hah 46 87 (by kernel_rfl)
             have e88 := hah 47 88 (by kernel_rfl)
             have e83 := hah 42 83 (by kernel_rfl)
             have hkn : Known ρ' [(87, (.agg #[(.int .u32 pAddr3), (.int .i64 pBits4)])), (88, (.int .u32 p2)), (83, (.bool true))] := ⟨e87, e88, (Eq.trans e83 (congrArg Value.bool hb918)), trivial⟩
             refine Step.known _ hkn ?_
             refine Step.callF (f := 22) (fo := (.func 22)) (xs := #[(.tmp 87), (.tmp 88)]) (tys := #[24, 22]) (first := #[]) (captured := #[]) (d := (some 89)) (k := 48) (by kernel_rfl) rfl (by kernel_rfl) (by kernel_rfl) Tryd.call22 (L_subwayref04_In_walk  pAddr3 pBits4 p2 w'  z925 hz926) ?_
             rintro e w1217 ⟨rfl, hs1218⟩
             refine ⟨_, rfl, ?_⟩
             have hs1219 := SP.call hs1208 hs1218
             clear hs1218
             have hs1220 : SP [] w0 w1217 [boxE g5 24 #[(.int .u32 pAddr3), (.int .i64 pBits4)], boxE g34 24 #[(.int .u32 z28.1), (.int .i64 z28.2.1)], boxE g47 24 #[(.int .u32 z41.1), (.int .i64 z41.2.1)]] := hs1219
             clear hs1219
             refine ⟨_, updO_known hkn, rfl, ?_⟩
             exact (And.intro (And.intro q1209 (And.intro q1210 (And.intro q1211 (And.intro q1212 (And.intro q1213 (And.intro q1214 (And.intro q1215 (And.intro rfl (trivial))))))))) (hs1220))
           ·exact Owe.run (by kernel_rfl) [(86, (.bool z919)), (89, (.bool z925)), (83, (.bool true))] ⟨gA 45 (by kernel_rfl) (by kernel_rfl), gA 48 (by kernel_rfl) (by kernel_rfl), gB 42 (by kernel_rfl) (z906 == z912) (by kernel_rfl) hb918, trivial⟩ (.bool (z919 == z925)) (fun _ _ => by kernel_rfl) rfl
           ·exact Owe.run (by kernel_rfl) [(83, (.bool true)), (90, (.bool (z919 == z925)))] ⟨gB 42 (by kernel_rfl) (z906 == z912) (by kernel_rfl) hb918, gA 49 (by kernel_rfl) (by kernel_rfl), trivial⟩ (.bool (z919 == z925)) (fun _ _ => by kernel_rfl) rfl
           ·exact Owe.run (by kernel_rfl) [(91, (.bool (z919 == z925)))] ⟨gA 50 (by kernel_rfl) (by kernel_rfl), trivial⟩ (.bool (z919 == z925)) (fun _ _ => by kernel_rfl) rfl
           ·intro ρ' w' hs hf hP
            obtain ⟨hvl1230, hs1221⟩ := hP
            obtain ⟨q1222, q1223, q1224, q1225, q1226, q1227, q1228, q1229, -⟩ := hvl1230
            have e6 := hf 51 6 (by kernel_rfl)
            refine postKnown [(6, (.bool (z919 == z925)))] ⟨e6, trivial⟩ ?_
            obtain ⟨w1231, hww1231⟩ : ∃ x, w' = x := ⟨_, rfl⟩
            rw [hww1231] at hs1221 ⊢
            exact ⟨(z919 == z925), ⟨(by kernel_rfl), trivial⟩, SP.sel hs1221 [] rfl rfl, H⟩
          ·have H := cf H hb918
           refine At.stages (by kernel_rfl) (by kernel_rfl) (by kernel_rfl) (by kernel_rfl) (by kernel_rfl) [GEq (.bool z9), GEq (.bool z9), GEq (.string ⟨List.toArray p1⟩), GEq (.bool z876), GEq (.string ⟨List.toArray p1⟩), GEq (.bool z882), GEq (.bool (z876 == z882)), GEq (.bool (z876 == z882)), GEq (.bool (z876 == z882)), GEq (.int .u32 z16.1), GEq (.int .u32 z22.1), GEq (.bool (z16.1 == z22.1)), GEq (.bool (z16.1 == z22.1)), GEq (.bool (z16.1 == z22.1)), GEq (.bool z16.2), GEq (.bool z22.2), GEq (.bool (z16.2 == z22.2)), GEq (.bool (z16.2 == z22.2)), GEq (.bool (z16.2 == z22.2)), GEq (.agg #[(.int .u32 z28.1), (.int .i64 z28.2.1)]), GEq (.agg #[(.int .u32 z41.1), (.int .i64 z41.2.1)]), GEq (.bool ((z28.1 == z41.1) && (z28.2.1 == z41.2.1))), GEq (.bool ((z28.1 == z41.1) && (z28.2.1 == z41.2.1))), GEq (.bool ((z28.1 == z41.1) && (z28.2.1 == z41.2.1))), GEq (.bool z28.2.2), GEq (.bool z41.2.2), GEq (.bool (z28.2.2 == z41.2.2)), GEq (.bool (z28.2.2 == z41.2.2)), GEq (.bool (z28.2.2 == z41.2.2)), GEq (.int .u32 p2), GEq (.string ⟨List.toArray z893⟩), GEq (.int .u32 p2), GEq (.string ⟨List.toArray z899⟩), GEq (.bool (z893 == z899)), GEq (.bool (z893 == z899)), GEq (.bool (z893 == z899)), GEq (.agg #[(.int .u32 pAddr3), (.int .i64 pBits4)]), GEq (.string ⟨List.toArray z906⟩), GEq (.agg #[(.int .u32 pAddr3), (.int .i64 pBits4)]), GEq (.string ⟨List.toArray z912⟩), GEq (.bool (z906 == z912)), GEq (.bool (z906 == z912)), GEq (.bool (z906 == z912)), GEq undef, GEq undef, GEq undef, GEq undef, GEq undef, GEq undef, GEq undef, GEq (.bool false), GEq (.bool false)] [3, 5, 30, 32, 37, 39] [([], fun vs w => VL vs [] ∧ SP [] w0 w [boxE g5 24 #[(.int .u32 pAddr3), (.int .i64 pBits4)], boxE g34 24 #[(.int .u32 z28.1), (.int .i64 z28.2.1)], boxE g47 24 #[(.int .u32 z41.1), (.int .i64 z41.2.1)]]), ([3], fun vs w => VL vs [(.bool z876)] ∧ SP [] w0 w [boxE g5 24 #[(.int .u32 pAddr3), (.int .i64 pBits4)], boxE g34 24 #[(.int .u32 z28.1), (.int .i64 z28.2.1)], boxE g47 24 #[(.int .u32 z41.1), (.int .i64 z41.2.1)]]), ([3, 5], fun vs w => VL vs [(.bool z876), (.bool z882)] ∧ SP [] w0 w [boxE g5 24 #[(.int .u32 pAddr3), (.int .i64 pBits4)], boxE g34 24 #[(.int .u32 z28.1), (.int .i64 z28.2.1)], boxE g47 24 #[(.int .u32 z41.1), (.int .i64 z41.2.1)]]), ([3, 5, 30], fun vs w => VL vs [(.bool z876), (.bool z882), (.string ⟨List.toArray z893⟩)] ∧ SP [] w0 w [boxE g5 24 #[(.int .u32 pAddr3), (.int .i64 pBits4)], boxE g34 24 #[(.int .u32 z28.1), (.int .i64 z28.2.1)], boxE g47 24 #[(.int .u32 z41.1), (.int .i64 z41.2.1)]]), ([3, 5, 30, 32], fun vs w => VL vs [(.bool z876), (.bool z882), (.string ⟨List.toArray z893⟩), (.string ⟨List.toArray z899⟩)] ∧ SP [] w0 w [boxE g5 24 #[(.int .u32 pAddr3), (.int .i64 pBits4)], boxE g34 24 #[(.int .u32 z28.1), (.int .i64 z28.2.1)], boxE g47 24 #[(.int .u32 z41.1), (.int .i64 z41.2.1)]]), ([3, 5, 30, 32, 37], fun vs w => VL vs [(.bool z876), (.bool z882), (.string ⟨List.toArray z893⟩), (.string ⟨List.toArray z899⟩), (.string ⟨List.toArray z906⟩)] ∧ SP [] w0 w [boxE g5 24 #[(.int .u32 pAddr3), (.int .i64 pBits4)], boxE g34 24 #[(.int .u32 z28.1), (.int .i64 z28.2.1)], boxE g47 24 #[(.int .u32 z41.1), (.int .i64 z41.2.1)]]), ([3, 5, 30, 32, 37, 39], fun vs w => VL vs [(.bool z876), (.bool z882), (.string ⟨List.toArray z893⟩), (.string ⟨List.toArray z899⟩), (.string ⟨List.toArray z906⟩), (.string ⟨List.toArray z912⟩)] ∧ SP [] w0 w [boxE g5 24 #[(.int .u32 pAddr3), (.int .i64 pBits4)], boxE g34 24 #[(.int .u32 z28.1), (.int .i64 z28.2.1)], boxE g47 24 #[(.int .u32 z41.1), (.int .i64 z41.2.1)]])] (N := 52) (by kernel_rfl) ⟨by kernel_rfl, Nat.zero_lt_succ _⟩ (show VL [] [] ∧ SP [] w0 w51.drew [boxE g5 24 #[(.int .u32 pAddr3), (.int .i64 pBits4)], boxE g34 24 #[(.int .u32 z28.1), (.int .i64 z28.2.1)], boxE g47 24 #[(.int .u32 z41.1), (.int .i64 z41.2.1)]] from ⟨trivial, SP.drew hs53⟩) ⟨⟨⟨⟨⟨⟨⟨⟨⟨⟨⟨⟨⟨⟨⟨⟨⟨⟨⟨⟨⟨⟨⟨⟨⟨⟨⟨⟨⟨⟨⟨⟨⟨⟨⟨⟨⟨⟨⟨⟨⟨⟨⟨⟨⟨⟨⟨⟨⟨⟨⟨⟨trivial, ?_⟩, ?_⟩, ?_⟩, ?_⟩, ?_⟩, ?_⟩, ?_⟩, ?_⟩, ?_⟩, ?_⟩, ?_⟩, ?_⟩, ?_⟩, ?_⟩, ?_⟩, ?_⟩, ?_⟩, ?_⟩, ?_⟩, ?_⟩, ?_⟩, ?_⟩, ?_⟩, ?_⟩, ?_⟩, ?_⟩, ?_⟩, ?_⟩, ?_⟩, ?_⟩, ?_⟩, ?_⟩, ?_⟩, ?_⟩, ?_⟩, ?_⟩, ?_⟩, ?_⟩, ?_⟩, ?_⟩, ?_⟩, ?_⟩, ?_⟩, ?_⟩, ?_⟩, ?_⟩, ?_⟩, ?_⟩, ?_⟩, ?_⟩, ?_⟩, ?_⟩ (last := 6) (by kernel_rfl) ?_
           ·exact Owe.run (by kernel_rfl) [(7, (.bool z9))] ⟨gS (by kernel_rfl) (by kernel_rfl), trivial⟩ (.bool z9) (fun _ _ => by kernel_rfl) rfl
           ·exact Owe.run (by kernel_rfl) [(41, (.bool z9))] ⟨gA 0 (by kernel_rfl) (by kernel_rfl), trivial⟩ (.bool z9) (fun _ _ => by kernel_rfl) rfl
           ·exact Owe.run (by kernel_rfl) [(0, (.string ⟨List.toArray p1⟩)), (42, (.bool true))] ⟨gS (by kernel_rfl) (by kernel_rfl), gB 1 (by kernel_rfl) z9 (by kernel_rfl) hb875, trivial⟩ (.string ⟨List.toArray p1⟩) (fun _ _ => by kernel_rfl) rfl
           ·refine Owe.heavy (by kernel_rfl) [(0, 1)] (by kernel_rfl) (all_cons ⟨by kernel_rfl, by kernel_rfl, ?_⟩ all_nil)
            ·intro ρ' w' hs hah hP
             obtain ⟨hvl1317, hs1316⟩ := hP
             have e43 := hah 2 43 (by kernel_rfl)
             have e42 := hah 1 42 (by kernel_rfl)
             have hkn : Known ρ' [(43, (.string ⟨List.toArray p1⟩)), (42, (.bool true))] := ⟨e43, (Eq.trans e42 (congrArg Value.bool hb875)), trivial⟩
             refine Step.known _ hkn ?_
             refine Step.callF (f := 15) (fo := (.func 15)) (xs := #[(.tmp 43)]) (tys := #[9]) (first := #[]) (captured := #[]) (d := (some 44)) (k := 3) (by kernel_rfl) rfl (by kernel_rfl) (by kernel_rfl) Tryd.call15 (L_syntax_Name_walk  p1 w'  z876 hz877) ?_
             rintro e w1318 ⟨rfl, hs1319⟩
             refine ⟨_, rfl, ?_⟩
             have hs1320 := SP.call hs1316 hs1319
             clear hs1319
             have hs1321 : SP [] w0 w1318 [boxE g5 24 #[(.int .u32 pAddr3), (.int .i64 pBits4)], boxE g34 24 #[(.int .u32 z28.1), (.int .i64 z28.2.1)], boxE g47 24 #[(.int .u32 z41.1), (.int .i64 z41.2.1)]] := hs1320
             clear hs1320
             refine ⟨_, updO_known hkn, rfl, ?_⟩
             exact (And.intro (And.intro rfl (trivial)) (hs1321))
           ·exact Owe.run (by kernel_rfl) [(0, (.string ⟨List.toArray p1⟩)), (42, (.bool true))] ⟨gS (by kernel_rfl) (by kernel_rfl), gB 1 (by kernel_rfl) z9 (by kernel_rfl) hb875, trivial⟩ (.string ⟨List.toArray p1⟩) (fun _ _ => by kernel_rfl) rfl
           ·refine Owe.heavy (by kernel_rfl) [(1, 2)] (by kernel_rfl) (all_cons ⟨by kernel_rfl, by kernel_rfl, ?_⟩ all_nil)
            ·intro ρ' w' hs hah hP
             obtain ⟨hvl1324, hs1322⟩ := hP
             obtain ⟨q1323, -⟩ := hvl1324
             have e45 := hah 4 45 (by kernel_rfl)
             have e42 := hah 1 42 (by kernel_rfl)
             have hkn : Known ρ' [(45, (.string ⟨List.toArray p1⟩)), (42, (.bool true))] := ⟨e45, (Eq.trans e42 (congrArg Value.bool hb875)), trivial⟩
             refine Step.known _ hkn ?_
             refine Step.callF (f := 16) (fo := (.func 16)) (xs := #[(.tmp 45)]) (tys := #[9]) (first := #[]) (captured := #[]) (d := (some 46)) (k := 5) (by kernel_rfl) rfl (by kernel_rfl) (by kernel_rfl) Tryd.call16 (L_subwayref04_Name_walk  p1 w'  z882 hz883) ?_
             rintro e w1325 ⟨rfl, hs1326⟩
             refine ⟨_, rfl, ?_⟩
             have hs1327 := SP.call hs1322 hs1326
             clear hs1326
             have hs1328 : SP [] w0 w1325 [boxE g5 24 #[(.int .u32 pAddr3), (.int .i64 pBits4)], boxE g34 24 #[(.int .u32 z28.1), (.int .i64 z28.2.1)], boxE g47 24 #[(.int .u32 z41.1), (.int .i64 z41.2.1)]] := hs1327
             clear hs1327
             refine ⟨_, updO_known hkn, rfl, ?_⟩
             exact (And.intro (And.intro q1323 (And.intro rfl (trivial))) (hs1328))
           ·exact Owe.run (by kernel_rfl) [(44, (.bool z876)), (46, (.bool z882)), (42, (.bool true))] ⟨gA 3 (by kernel_rfl) (by kernel_rfl), gA 5 (by kernel_rfl) (by kernel_rfl), gB 1 (by kernel_rfl) z9 (by kernel_rfl) hb875, trivial⟩ (.bool (z876 == z882)) (fun _ _ => by kernel_rfl) rfl
           ·exact Owe.run (by kernel_rfl) [(42, (.bool true)), (47, (.bool (z876 == z882)))] ⟨gB 1 (by kernel_rfl) z9 (by kernel_rfl) hb875, gA 6 (by kernel_rfl) (by kernel_rfl), trivial⟩ (.bool (z876 == z882)) (fun _ _ => by kernel_rfl) rfl
           ·exact Owe.run (by kernel_rfl) [(48, (.bool (z876 == z882)))] ⟨gA 7 (by kernel_rfl) (by kernel_rfl), trivial⟩ (.bool (z876 == z882)) (fun _ _ => by kernel_rfl) rfl
           ·exact Owe.run (by kernel_rfl) [(8, (.int .u32 z16.1)), (49, (.bool true))] ⟨gS (by kernel_rfl) (by kernel_rfl), gB 8 (by kernel_rfl) (z876 == z882) (by kernel_rfl) hb888, trivial⟩ (.int .u32 z16.1) (fun _ _ => by kernel_rfl) rfl
           ·exact Owe.run (by kernel_rfl) [(10, (.int .u32 z22.1)), (49, (.bool true))] ⟨gS (by kernel_rfl) (by kernel_rfl), gB 8 (by kernel_rfl) (z876 == z882) (by kernel_rfl) hb888, trivial⟩ (.int .u32 z22.1) (fun _ _ => by kernel_rfl) rfl
           ·exact Owe.run (by kernel_rfl) [(50, (.int .u32 z16.1)), (51, (.int .u32 z22.1)), (49, (.bool true))] ⟨gA 9 (by kernel_rfl) (by kernel_rfl), gA 10 (by kernel_rfl) (by kernel_rfl), gB 8 (by kernel_rfl) (z876 == z882) (by kernel_rfl) hb888, trivial⟩ (.bool (z16.1 == z22.1)) (fun _ _ => by kernel_rfl) rfl
           ·exact Owe.run (by kernel_rfl) [(49, (.bool true)), (52, (.bool (z16.1 == z22.1)))] ⟨gB 8 (by kernel_rfl) (z876 == z882) (by kernel_rfl) hb888, gA 11 (by kernel_rfl) (by kernel_rfl), trivial⟩ (.bool (z16.1 == z22.1)) (fun _ _ => by kernel_rfl) rfl
           ·exact Owe.run (by kernel_rfl) [(53, (.bool (z16.1 == z22.1)))] ⟨gA 12 (by kernel_rfl) (by kernel_rfl), trivial⟩ (.bool (z16.1 == z22.1)) (fun _ _ => by kernel_rfl) rfl
           ·exact Owe.run (by kernel_rfl) [(9, (.bool z16.2)), (54, (.bool true))] ⟨gS (by kernel_rfl) (by kernel_rfl), gB 13 (by kernel_rfl) (z16.1 == z22.1) (by kernel_rfl) hb889, trivial⟩ (.bool z16.2) (fun _ _ => by kernel_rfl) rfl
           ·exact Owe.run (by kernel_rfl) [(11, (.bool z22.2)), (54, (.bool true))] ⟨gS (by kernel_rfl) (by kernel_rfl), gB 13 (by kernel_rfl) (z16.1 == z22.1) (by kernel_rfl) hb889, trivial⟩ (.bool z22.2) (fun _ _ => by kernel_rfl) rfl
           ·exact Owe.run (by kernel_rfl) [(55, (.bool z16.2)), (56, (.bool z22.2)), (54, (.bool true))] ⟨gA 14 (by kernel_rfl) (by kernel_rfl), gA 15 (by kernel_rfl) (by kernel_rfl), gB 13 (by kernel_rfl) (z16.1 == z22.1) (by kernel_rfl) hb889, trivial⟩ (.bool (z16.2 == z22.2)) (fun _ _ => by kernel_rfl) rfl
           ·exact Owe.run (by kernel_rfl) [(54, (.bool true)), (57, (.bool (z16.2 == z22.2)))] ⟨gB 13 (by kernel_rfl) (z16.1 == z22.1) (by kernel_rfl) hb889, gA 16 (by kernel_rfl) (by kernel_rfl), trivial⟩ (.bool (z16.2 == z22.2)) (fun _ _ => by kernel_rfl) rfl
           ·exact Owe.run (by kernel_rfl) [(58, (.bool (z16.2 == z22.2)))] ⟨gA 17 (by kernel_rfl) (by kernel_rfl), trivial⟩ (.bool (z16.2 == z22.2)) (fun _ _ => by kernel_rfl) rfl
           ·refine Owe.light (by kernel_rfl) [2] (by kernel_rfl) (all_cons ?_ all_nil)
            ·intro ρ' w' hs hah hP
             obtain ⟨hvl1332, hs1329⟩ := hP
             obtain ⟨q1330, q1331, -⟩ := hvl1332
             have e12 : ρ' 12 = (.pointer (some ⟨g34, 0, none⟩)) := (hs 12 (by kernel_rfl)).trans (by kernel_rfl)
             have e59 := hah 18 59 (by kernel_rfl)
             have hkn : Known ρ' [(12, (.pointer (some ⟨g34, 0, none⟩))), (59, (.bool true))] := ⟨e12, (Eq.trans e59 (congrArg Value.bool hb890)), trivial⟩
             refine Step.known _ hkn ?_
             refine Step.load (t := 24) (x := (.tmp 12)) (g := g34) (off := 0) (i := 1) (v := (.agg #[(.int .u32 z28.1), (.int .i64 z28.2.1)])) (d := (some 60)) (k := 19) (by kernel_rfl) rfl (by kernel_rfl) hs1329 rfl (by kernel_rfl) ?_
             exact ⟨rfl, _, updO_known hkn, rfl⟩
           ·refine Owe.light (by kernel_rfl) [2] (by kernel_rfl) (all_cons ?_ all_nil)
            ·intro ρ' w' hs hah hP
             obtain ⟨hvl1336, hs1333⟩ := hP
             obtain ⟨q1334, q1335, -⟩ := hvl1336
             have e14 : ρ' 14 = (.pointer (some ⟨g47, 0, none⟩)) := (hs 14 (by kernel_rfl)).trans (by kernel_rfl)
             have e59 := hah 18 59 (by kernel_rfl)
             have hkn : Known ρ' [(14, (.pointer (some ⟨g47, 0, none⟩))), (59, (.bool true))] := ⟨e14, (Eq.trans e59 (congrArg Value.bool hb890)), trivial⟩
             refine Step.known _ hkn ?_
             refine Step.load (t := 24) (x := (.tmp 14)) (g := g47) (off := 0) (i := 2) (v := (.agg #[(.int .u32 z41.1), (.int .i64 z41.2.1)])) (d := (some 61)) (k := 20) (by kernel_rfl) rfl (by kernel_rfl) hs1333 rfl (by kernel_rfl) ?_
             exact ⟨rfl, _, updO_known hkn, rfl⟩
           ·refine Owe.light (by kernel_rfl) [2] (by kernel_rfl) (all_cons ?_ all_nil)
            ·intro ρ' w' hs hah hP
             obtain ⟨hvl1340, hs1337⟩ := hP
             obtain ⟨q1338, q1339, -⟩ := hvl1340
             have e60 := hah 19 60 (by kernel_rfl)
             have e61 := hah 20 61 (by kernel_rfl)
             have e59 := hah 18 59 (by kernel_rfl)
             have hkn : Known ρ' [(60, (.agg #[(.int .u32 z28.1), (.int .i64 z28.2.1)])), (61, (.agg #[(.int .u32 z41.1), (.int .i64 z41.2.1)])), (59, (.bool true))] := ⟨e60, e61, (Eq.trans e59 (congrArg Value.bool hb890)), trivial⟩
             refine Step.known _ hkn ?_
             refine Step.bin (op := .eql) (T := 24) (T' := 24) (x := (.tmp 60)) (y := (.tmp 61)) (vx := (.agg #[(.int .u32 z28.1), (.int .i64 z28.2.1)])) (vy := (.agg #[(.int .u32 z41.1), (.int .i64 z41.2.1)])) (v := (.bool ((z28.1 == z41.1) && (z28.2.1 == z41.2.1)))) (d := (some 62)) (k := 21) (by kernel_rfl) rfl (by kernel_rfl) (by kernel_rfl) (by clear H; intro w; simp only [beq_dec]; go_simp; simp only [struct_ifn, struct_ifn0, struct_if, beq_dec, Bool.and_true] <;> simp only [Bool.not_and]) ?_
             exact ⟨rfl, _, updO_known hkn, rfl⟩
           ·exact Owe.run (by kernel_rfl) [(59, (.bool true)), (62, (.bool ((z28.1 == z41.1) && (z28.2.1 == z41.2.1))))] ⟨gB 18 (by kernel_rfl) (z16.2 == z22.2) (by kernel_rfl) hb890, gA 21 (by kernel_rfl) (by kernel_rfl), trivial⟩ (.bool ((z28.1 == z41.1) && (z28.2.1 == z41.2.1))) (fun _ _ => by kernel_rfl) rfl
           ·exact Owe.run (by kernel_rfl) [(63, (.bool ((z28.1 == z41.1) && (z28.2.1 == z41.2.1))))] ⟨gA 22 (by kernel_rfl) (by kernel_rfl), trivial⟩ (.bool ((z28.1 == z41.1) && (z28.2.1 == z41.2.1))) (fun _ _ => by kernel_rfl) rfl
           ·exact Owe.run (by kernel_rfl) [(13, (.bool z28.2.2)), (64, (.bool true))] ⟨gS (by kernel_rfl) (by kernel_rfl), gB 23 (by kernel_rfl) ((z28.1 == z41.1) && (z28.2.1 == z41.2.1)) (by kernel_rfl) hb891, trivial⟩ (.bool z28.2.2) (fun _ _ => by kernel_rfl) rfl
           ·exact Owe.run (by kernel_rfl) [(15, (.bool z41.2.2)), (64, (.bool true))] ⟨gS (by kernel_rfl) (by kernel_rfl), gB 23 (by kernel_rfl) ((z28.1 == z41.1) && (z28.2.1 == z41.2.1)) (by kernel_rfl) hb891, trivial⟩ (.bool z41.2.2) (fun _ _ => by kernel_rfl) rfl
           ·exact Owe.run (by kernel_rfl) [(65, (.bool z28.2.2)), (66, (.bool z41.2.2)), (64, (.bool true))] ⟨gA 24 (by kernel_rfl) (by kernel_rfl), gA 25 (by kernel_rfl) (by kernel_rfl), gB 23 (by kernel_rfl) ((z28.1 == z41.1) && (z28.2.1 == z41.2.1)) (by kernel_rfl) hb891, trivial⟩ (.bool (z28.2.2 == z41.2.2)) (fun _ _ => by kernel_rfl) rfl
           ·exact Owe.run (by kernel_rfl) [(64, (.bool true)), (67, (.bool (z28.2.2 == z41.2.2)))] ⟨gB 23 (by kernel_rfl) ((z28.1 == z41.1) && (z28.2.1 == z41.2.1)) (by kernel_rfl) hb891, gA 26 (by kernel_rfl) (by kernel_rfl), trivial⟩ (.bool (z28.2.2 == z41.2.2)) (fun _ _ => by kernel_rfl) rfl
           ·exact Owe.run (by kernel_rfl) [(68, (.bool (z28.2.2 == z41.2.2)))] ⟨gA 27 (by kernel_rfl) (by kernel_rfl), trivial⟩ (.bool (z28.2.2 == z41.2.2)) (fun _ _ => by kernel_rfl) rfl
           ·exact Owe.run (by kernel_rfl) [(1, (.int .u32 p2)), (69, (.bool true))] ⟨gS (by kernel_rfl) (by kernel_rfl), gB 28 (by kernel_rfl) (z28.2.2 == z41.2.2) (by kernel_rfl) hb892, trivial⟩ (.int .u32 p2) (fun _ _ => by kernel_rfl) rfl
           ·refine Owe.heavy (by kernel_rfl) [(2, 3)] (by kernel_rfl) (all_cons ⟨by kernel_rfl, by kernel_rfl, ?_⟩ all_nil)
            ·intro ρ' w' hs hah hP
             obtain ⟨hvl1344, hs1341⟩ := hP
             obtain ⟨q1342, q1343, -⟩ := hvl1344
             have e70 := hah 29 70 (by kernel_rfl)
             have e69 := hah 28 69 (by kernel_rfl)
             have hkn : Known ρ' [(70, (.int .u32 p2)), (69, (.bool true))] := ⟨e70, (Eq.trans e69 (congrArg Value.bool hb892)), trivial⟩
             refine Step.known _ hkn ?_
             refine Step.callF (f := 17) (fo := (.func 17)) (xs := #[(.tmp 70)]) (tys := #[22]) (first := #[]) (captured := #[]) (d := (some 71)) (k := 30) (by kernel_rfl) rfl (by kernel_rfl) (by kernel_rfl) Tryd.call17 (L_syntax_Dots_walk  p2 w' (laid_below hL (SP.keeps hs1341)) z893 hz894) ?_
             rintro e w1345 ⟨rfl, hs1346⟩
             refine ⟨_, rfl, ?_⟩
             have hs1347 := SP.call hs1341 hs1346
             clear hs1346
             have hs1348 : SP [] w0 w1345 [boxE g5 24 #[(.int .u32 pAddr3), (.int .i64 pBits4)], boxE g34 24 #[(.int .u32 z28.1), (.int .i64 z28.2.1)], boxE g47 24 #[(.int .u32 z41.1), (.int .i64 z41.2.1)]] := hs1347
             clear hs1347
             refine ⟨_, updO_known hkn, rfl, ?_⟩
             exact (And.intro (And.intro q1342 (And.intro q1343 (And.intro rfl (trivial)))) (hs1348))
           ·exact Owe.run (by kernel_rfl) [(1, (.int .u32 p2)), (69, (.bool true))] ⟨gS (by kernel_rfl) (by kernel_rfl), gB 28 (by kernel_rfl) (z28.2.2 == z41.2.2) (by kernel_rfl) hb892, trivial⟩ (.int .u32 p2) (fun _ _ => by kernel_rfl) rfl
           ·refine Owe.heavy (by kernel_rfl) [(3, 4)] (by kernel_rfl) (all_cons ⟨by kernel_rfl, by kernel_rfl, ?_⟩ all_nil)
            ·intro ρ' w' hs hah hP
             obtain ⟨hvl1353, hs1349⟩ := hP
             obtain ⟨q1350, q1351, q1352, -⟩ := hvl1353
             have e72 := hah 31 72 (by kernel_rfl)
             have e69 := hah 28 69 (by kernel_rfl)
             have hkn : Known ρ' [(72, (.int .u32 p2)), (69, (.bool true))] := ⟨e72, (Eq.trans e69 (congrArg Value.bool hb892)), trivial⟩
             refine Step.known _ hkn ?_
             refine Step.callF (f := 18) (fo := (.func 18)) (xs := #[(.tmp 72)]) (tys := #[22]) (first := #[]) (captured := #[]) (d := (some 73)) (k := 32) (by kernel_rfl) rfl (by kernel_rfl) (by kernel_rfl) Tryd.call18 (L_subwayref04_Dots_walk  p2 w'  z899 hz900) ?_
             rintro e w1354 ⟨rfl, hs1355⟩
             refine ⟨_, rfl, ?_⟩
             have hs1356 := SP.call hs1349 hs1355
             clear hs1355
             have hs1357 : SP [] w0 w1354 [boxE g5 24 #[(.int .u32 pAddr3), (.int .i64 pBits4)], boxE g34 24 #[(.int .u32 z28.1), (.int .i64 z28.2.1)], boxE g47 24 #[(.int .u32 z41.1), (.int .i64 z41.2.1)]] := hs1356
             clear hs1356
             refine ⟨_, updO_known hkn, rfl, ?_⟩
             exact (And.intro (And.intro q1350 (And.intro q1351 (And.intro q1352 (And.intro rfl (trivial))))) (hs1357))
           ·refine Owe.light (by kernel_rfl) [4] (by kernel_rfl) (all_cons ?_ all_nil)
            ·intro ρ' w' hs hah hP
             obtain ⟨hvl1363, hs1358⟩ := hP
             obtain ⟨q1359, q1360, q1361, q1362, -⟩ := hvl1363
             have e71 : ρ' 71 = (.string ⟨List.toArray z893⟩) := (valF_eq (h := 30) (by kernel_rfl)).symm.trans q1361
             have e73 : ρ' 73 = (.string ⟨List.toArray z899⟩) := (valF_eq (h := 32) (by kernel_rfl)).symm.trans q1362
             have e69 := hah 28 69 (by kernel_rfl)
             have hkn : Known ρ' [(71, (.string ⟨List.toArray z893⟩)), (73, (.string ⟨List.toArray z899⟩)), (69, (.bool true))] := ⟨e71, e73, (Eq.trans e69 (congrArg Value.bool hb892)), trivial⟩
             refine Step.known _ hkn ?_
             refine Step.strOp (op := .eql) (T := 9) (T' := 9) (x := (.tmp 71)) (y := (.tmp 73)) (a := z893) (b := z899) (r := (.bool (z893 == z899))) (d := (some 74)) (k := 33) (by kernel_rfl) rfl (by kernel_rfl) (by kernel_rfl) rfl ?_
             exact ⟨rfl, _, updO_known hkn, rfl⟩
           ·exact Owe.run (by kernel_rfl) [(69, (.bool true)), (74, (.bool (z893 == z899)))] ⟨gB 28 (by kernel_rfl) (z28.2.2 == z41.2.2) (by kernel_rfl) hb892, gA 33 (by kernel_rfl) (by kernel_rfl), trivial⟩ (.bool (z893 == z899)) (fun _ _ => by kernel_rfl) rfl
           ·exact Owe.run (by kernel_rfl) [(75, (.bool (z893 == z899)))] ⟨gA 34 (by kernel_rfl) (by kernel_rfl), trivial⟩ (.bool (z893 == z899)) (fun _ _ => by kernel_rfl) rfl
           ·refine Owe.light (by kernel_rfl) [4] (by kernel_rfl) (all_cons ?_ all_nil)
            ·intro ρ' w' hs hah hP
             obtain ⟨hvl1369, hs1364⟩ := hP
             obtain ⟨q1365, q1366, q1367, q1368, -⟩ := hvl1369
             have e5 : ρ' 5 = (.pointer (some ⟨g5, 0, none⟩)) := (hs 5 (by kernel_rfl)).trans (by kernel_rfl)
             have e76 := hah 35 76 (by kernel_rfl)
             have hkn : Known ρ' [(5, (.pointer (some ⟨g5, 0, none⟩))), (76, (.bool true))] := ⟨e5, (Eq.trans e76 (congrArg Value.bool hb905)), trivial⟩
             refine Step.known _ hkn ?_
             refine Step.load (t := 24) (x := (.tmp 5)) (g := g5) (off := 0) (i := 0) (v := (.agg #[(.int .u32 pAddr3), (.int .i64 pBits4)])) (d := (some 77)) (k := 36) (by kernel_rfl) rfl (by kernel_rfl) hs1364 rfl (by kernel_rfl) ?_
             exact ⟨rfl, _, updO_known hkn, rfl⟩
           ·refine Owe.heavy (by kernel_rfl) [(4, 5)] (by kernel_rfl) (all_cons ⟨by kernel_rfl, by kernel_rfl, ?_⟩ all_nil)
            ·intro ρ' w' hs hah hP
             obtain ⟨hvl1375, hs1370⟩ := hP
             obtain ⟨q1371, q1372, q1373, q1374, -⟩ := hvl1375
             have e77 := hah 36 77 (by kernel_rfl)
             have e76 := hah 35 76 (by kernel_rfl)
             have hkn : Known ρ' [(77, (.agg #[(.int .u32 pAddr3), (.int .i64 pBits4)])), (76, (.bool true))] := ⟨e77, (Eq.trans e76 (congrArg Value.bool hb905)), trivial⟩
             refine Step.known _ hkn ?_
             refine Step.callF (f := 19) (fo := (.func 19)) (xs := #[(.tmp 77)]) (tys := #[24]) (first := #[]) (captured := #[]) (d := (some 78)) (k := 37) (by kernel_rfl) rfl (by kernel_rfl) (by kernel_rfl) Tryd.call19 (L_syntax_Slash_walk  pAddr3 pBits4 w' (laid_below hL (SP.keeps hs1370)) z906 hz907) ?_
             rintro e w1376 ⟨rfl, hs1377⟩
             refine ⟨_, rfl, ?_⟩
             have hs1378 := SP.call hs1370 hs1377
             clear hs1377
             have hs1379 : SP [] w0 w1376 [boxE g5 24 #[(.int .u32 pAddr3), (.int .i64 pBits4)], boxE g34 24 #[(.int .u32 z28.1), (.int .i64 z28.2.1)], boxE g47 24 #[(.int .u32 z41.1), (.int .i64 z41.2.1)]] := hs1378
             clear hs1378
             refine ⟨_, updO_known hkn, rfl, ?_⟩
             exact (And.intro (And.intro q1371 (And.intro q1372 (And.intro q1373 (And.intro q1374 (And.intro rfl (trivial)))))) (hs1379))
           ·refine Owe.light (by kernel_rfl) [4, 5] (by kernel_rfl) (all_cons ?_ (all_cons ?_ all_nil))
            ·intro ρ' w' hs hah hP
             obtain ⟨hvl1385, hs1380⟩ := hP
             obtain ⟨q1381, q1382, q1383, q1384, -⟩ := hvl1385
             have e5 : ρ' 5 = (.pointer (some ⟨g5, 0, none⟩)) := (hs 5 (by kernel_rfl)).trans (by kernel_rfl)
             have e76 := hah 35 76 (by kernel_rfl)
             have hkn : Known ρ' [(5, (.pointer (some ⟨g5, 0, none⟩))), (76, (.bool true))] := ⟨e5, (Eq.trans e76 (congrArg Value.bool hb905)), trivial⟩
             refine Step.known _ hkn ?_
             refine Step.load (t := 24) (x := (.tmp 5)) (g := g5) (off := 0) (i := 0) (v := (.agg #[(.int .u32 pAddr3), (.int .i64 pBits4)])) (d := (some 79)) (k := 38) (by kernel_rfl) rfl (by kernel_rfl) hs1380 rfl (by kernel_rfl) ?_
             exact ⟨rfl, _, updO_known hkn, rfl⟩
            ·intro ρ' w' hs hah hP
             obtain ⟨hvl1392, hs1386⟩ := hP
             obtain ⟨q1387, q1388, q1389, q1390, q1391, -⟩ := hvl1392
             have e5 : ρ' 5 = (.pointer (some ⟨g5, 0, none⟩)) := (hs 5 (by kernel_rfl)).trans (by kernel_rfl)
             have e76 := hah 35 76 (by kernel_rfl)
             have hkn : Known ρ' [(5, (.pointer (some ⟨g5, 0, none⟩))), (76, (.bool true))] := ⟨e5, (Eq.trans e76 (congrArg Value.bool hb905)), trivial⟩
             refine Step.known _ hkn ?_
             refine Step.load (t := 24) (x := (.tmp 5)) (g := g5) (off := 0) (i := 0) (v := (.agg #[(.int .u32 pAddr3), (.int .i64 pBits4)])) (d := (some 79)) (k := 38) (by kernel_rfl) rfl (by kernel_rfl) hs1386 rfl (by kernel_rfl) ?_
             exact ⟨rfl, _, updO_known hkn, rfl⟩
           ·refine Owe.heavy (by kernel_rfl) [(5, 6)] (by kernel_rfl) (all_cons ⟨by kernel_rfl, by kernel_rfl, ?_⟩ all_nil)
            ·intro ρ' w' hs hah hP
             obtain ⟨hvl1399, hs1393⟩ := hP
             obtain ⟨q1394, q1395, q1396, q1397, q1398, -⟩ := hvl1399
             have e79 := hah 38 79 (by kernel_rfl)
             have e76 := hah 35 76 (by kernel_rfl)
             have hkn : Known ρ' [(79, (.agg #[(.int .u32 pAddr3), (.int .i64 pBits4)])), (76, (.bool true))] := ⟨e79, (Eq.trans e76 (congrArg Value.bool hb905)), trivial⟩
             refine Step.known _ hkn ?_
             refine Step.callF (f := 20) (fo := (.func 20)) (xs := #[(.tmp 79)]) (tys := #[24]) (first := #[]) (captured := #[]) (d := (some 80)) (k := 39) (by kernel_rfl) rfl (by kernel_rfl) (by kernel_rfl) Tryd.call20 (L_subwayref04_Slash_walk  pAddr3 pBits4 w'  z912 hz913) ?_
             rintro e w1400 ⟨rfl, hs1401⟩
             refine ⟨_, rfl, ?_⟩
             have hs1402 := SP.call hs1393 hs1401
             clear hs1401
             have hs1403 : SP [] w0 w1400 [boxE g5 24 #[(.int .u32 pAddr3), (.int .i64 pBits4)], boxE g34 24 #[(.int .u32 z28.1), (.int .i64 z28.2.1)], boxE g47 24 #[(.int .u32 z41.1), (.int .i64 z41.2.1)]] := hs1402
             clear hs1402
             refine ⟨_, updO_known hkn, rfl, ?_⟩
             exact (And.intro (And.intro q1394 (And.intro q1395 (And.intro q1396 (And.intro q1397 (And.intro q1398 (And.intro rfl (trivial))))))) (hs1403))
           ·refine Owe.light (by kernel_rfl) [6] (by kernel_rfl) (all_cons ?_ all_nil)
            ·intro ρ' w' hs hah hP
             obtain ⟨hvl1411, hs1404⟩ := hP
             obtain ⟨q1405, q1406, q1407, q1408, q1409, q1410, -⟩ := hvl1411
             have e78 : ρ' 78 = (.string ⟨List.toArray z906⟩) := (valF_eq (h := 37) (by kernel_rfl)).symm.trans q1409
             have e80 : ρ' 80 = (.string ⟨List.toArray z912⟩) := (valF_eq (h := 39) (by kernel_rfl)).symm.trans q1410
             have e76 := hah 35 76 (by kernel_rfl)
             have hkn : Known ρ' [(78, (.string ⟨List.toArray z906⟩)), (80, (.string ⟨List.toArray z912⟩)), (76, (.bool true))] := ⟨e78, e80, (Eq.trans e76 (congrArg Value.bool hb905)), trivial⟩
             refine Step.known _ hkn ?_
             refine Step.strOp (op := .eql) (T := 9) (T' := 9) (x := (.tmp 78)) (y := (.tmp 80)) (a := z906) (b := z912) (r := (.bool (z906 == z912))) (d := (some 81)) (k := 40) (by kernel_rfl) rfl (by kernel_rfl) (by kernel_rfl) rfl ?_
             exact ⟨rfl, _, updO_known hkn, rfl⟩
           ·exact Owe.run (by kernel_rfl) [(76, (.bool true)), (81, (.bool (z906 == z912)))] ⟨gB 35 (by kernel_rfl) (z893 == z899) (by kernel_rfl) hb905, gA 40 (by kernel_rfl) (by kernel_rfl), trivial⟩ (.bool (z906 == z912)) (fun _ _ => by kernel_rfl) rfl
           ·exact Owe.run (by kernel_rfl) [(82, (.bool (z906 == z912)))] ⟨gA 41 (by kernel_rfl) (by kernel_rfl), trivial⟩ (.bool (z906 == z912)) (fun _ _ => by kernel_rfl) rfl
           ·exact Owe.skip (by kernel_rfl) [(83, (.bool false))] ⟨gB 42 (by kernel_rfl) (z906 == z912) (by kernel_rfl) hb918, trivial⟩ (some 84) (fun _ => by kernel_rfl) (by kernel_rfl) rfl
           ·exact Owe.skip (by kernel_rfl) [(83, (.bool false))] ⟨gB 42 (by kernel_rfl) (z906 == z912) (by kernel_rfl) hb918, trivial⟩ (some 85) (fun _ => by kernel_rfl) (by kernel_rfl) rfl
           ·exact Owe.skip (by kernel_rfl) [(83, (.bool false))] ⟨gB 42 (by kernel_rfl) (z906 == z912) (by kernel_rfl) hb918, trivial⟩ (some 86) (fun _ => by kernel_rfl) (by kernel_rfl) rfl
           ·exact Owe.skip (by kernel_rfl) [(83, (.bool false))] ⟨gB 42 (by kernel_rfl) (z906 == z912) (by kernel_rfl) hb918, trivial⟩ (some 87) (fun _ => by kernel_rfl) (by kernel_rfl) rfl
           ·exact Owe.skip (by kernel_rfl) [(83, (.bool false))] ⟨gB 42 (by kernel_rfl) (z906 == z912) (by kernel_rfl) hb918, trivial⟩ (some 88) (fun _ => by kernel_rfl) (by kernel_rfl) rfl
           ·exact Owe.skip (by kernel_rfl) [(83, (.bool false))] ⟨gB 42 (by kernel_rfl) (z906 == z912) (by kernel_rfl) hb918, trivial⟩ (some 89) (fun _ => by kernel_rfl) (by kernel_rfl) rfl
           ·exact Owe.skip (by kernel_rfl) [(83, (.bool false))] ⟨gB 42 (by kernel_rfl) (z906 == z912) (by kernel_rfl) hb918, trivial⟩ (some 90) (fun _ => by kernel_rfl) (by kernel_rfl) rfl
           ·exact Owe.run (by kernel_rfl) [(83, (.bool false)), (90, undef)] ⟨gB 42 (by kernel_rfl) (z906 == z912) (by kernel_rfl) hb918, gA 49 (by kernel_rfl) (by kernel_rfl), trivial⟩ (.bool false) (fun _ _ => by kernel_rfl) rfl
           ·exact Owe.run (by kernel_rfl) [(91, (.bool false))] ⟨gA 50 (by kernel_rfl) (by kernel_rfl), trivial⟩ (.bool false) (fun _ _ => by kernel_rfl) rfl
           ·intro ρ' w' hs hf hP
            obtain ⟨hvl1419, hs1412⟩ := hP
            obtain ⟨q1413, q1414, q1415, q1416, q1417, q1418, -⟩ := hvl1419
            have e6 := hf 51 6 (by kernel_rfl)
            refine postKnown [(6, (.bool false))] ⟨e6, trivial⟩ ?_
            obtain ⟨w1420, hww1420⟩ : ∃ x, w' = x := ⟨_, rfl⟩
            rw [hww1420] at hs1412 ⊢
            exact ⟨false, ⟨(by kernel_rfl), trivial⟩, SP.sel hs1412 [] rfl rfl, H⟩
         ·have H := cf H hb905
          refine At.stages (by kernel_rfl) (by kernel_rfl) (by kernel_rfl) (by kernel_rfl) (by kernel_rfl) [GEq (.bool z9), GEq (.bool z9), GEq (.string ⟨List.toArray p1⟩), GEq (.bool z876), GEq (.string ⟨List.toArray p1⟩), GEq (.bool z882), GEq (.bool (z876 == z882)), GEq (.bool (z876 == z882)), GEq (.bool (z876 == z882)), GEq (.int .u32 z16.1), GEq (.int .u32 z22.1), GEq (.bool (z16.1 == z22.1)), GEq (.bool (z16.1 == z22.1)), GEq (.bool (z16.1 == z22.1)), GEq (.bool z16.2), GEq (.bool z22.2), GEq (.bool (z16.2 == z22.2)), GEq (.bool (z16.2 == z22.2)), GEq (.bool (z16.2 == z22.2)), GEq (.agg #[(.int .u32 z28.1), (.int .i64 z28.2.1)]), GEq (.agg #[(.int .u32 z41.1), (.int .i64 z41.2.1)]), GEq (.bool ((z28.1 == z41.1) && (z28.2.1 == z41.2.1))), GEq (.bool ((z28.1 == z41.1) && (z28.2.1 == z41.2.1))), GEq (.bool ((z28.1 == z41.1) && (z28.2.1 == z41.2.1))), GEq (.bool z28.2.2), GEq (.bool z41.2.2), GEq (.bool (z28.2.2 == z41.2.2)), GEq (.bool (z28.2.2 == z41.2.2)), GEq (.bool (z28.2.2 == z41.2.2)), GEq (.int .u32 p2), GEq (.string ⟨List.toArray z893⟩), GEq (.int .u32 p2), GEq (.string ⟨List.toArray z899⟩), GEq (.bool (z893 == z899)), GEq (.bool (z893 == z899)), GEq (.bool (z893 == z899)), GEq undef, GEq undef, GEq undef, GEq undef, GEq undef, GEq (.bool false), GEq (.bool false), GEq undef, GEq undef, GEq undef, GEq undef, GEq undef, GEq undef, GEq undef, GEq (.bool false), GEq (.bool false)] [3, 5, 30, 32] [([], fun vs w => VL vs [] ∧ SP [] w0 w [boxE g5 24 #[(.int .u32 pAddr3), (.int .i64 pBits4)], boxE g34 24 #[(.int .u32 z28.1), (.int .i64 z28.2.1)], boxE g47 24 #[(.int .u32 z41.1), (.int .i64 z41.2.1)]]), ([3], fun vs w => VL vs [(.bool z876)] ∧ SP [] w0 w [boxE g5 24 #[(.int .u32 pAddr3), (.int .i64 pBits4)], boxE g34 24 #[(.int .u32 z28.1), (.int .i64 z28.2.1)], boxE g47 24 #[(.int .u32 z41.1), (.int .i64 z41.2.1)]]), ([3, 5], fun vs w => VL vs [(.bool z876), (.bool z882)] ∧ SP [] w0 w [boxE g5 24 #[(.int .u32 pAddr3), (.int .i64 pBits4)], boxE g34 24 #[(.int .u32 z28.1), (.int .i64 z28.2.1)], boxE g47 24 #[(.int .u32 z41.1), (.int .i64 z41.2.1)]]), ([3, 5, 30], fun vs w => VL vs [(.bool z876), (.bool z882), (.string ⟨List.toArray z893⟩)] ∧ SP [] w0 w [boxE g5 24 #[(.int .u32 pAddr3), (.int .i64 pBits4)], boxE g34 24 #[(.int .u32 z28.1), (.int .i64 z28.2.1)], boxE g47 24 #[(.int .u32 z41.1), (.int .i64 z41.2.1)]]), ([3, 5, 30, 32], fun vs w => VL vs [(.bool z876), (.bool z882), (.string ⟨List.toArray z893⟩), (.string ⟨List.toArray z899⟩)] ∧ SP [] w0 w [boxE g5 24 #[(.int .u32 pAddr3), (.int .i64 pBits4)], boxE g34 24 #[(.int .u32 z28.1), (.int .i64 z28.2.1)], boxE g47 24 #[(.int .u32 z41.1), (.int .i64 z41.2.1)]])] (N := 52) (by kernel_rfl) ⟨by kernel_rfl, Nat.zero_lt_succ _⟩ (show VL [] [] ∧ SP [] w0 w51.drew [boxE g5 24 #[(.int .u32 pAddr3), (.int .i64 pBits4)], boxE g34 24 #[(.int .u32 z28.1), (.int .i64 z28.2.1)], boxE g47 24 #[(.int .u32 z41.1), (.int .i64 z41.2.1)]] from ⟨trivial, SP.drew hs53⟩) ⟨⟨⟨⟨⟨⟨⟨⟨⟨⟨⟨⟨⟨⟨⟨⟨⟨⟨⟨⟨⟨⟨⟨⟨⟨⟨⟨⟨⟨⟨⟨⟨⟨⟨⟨⟨⟨⟨⟨⟨⟨⟨⟨⟨⟨⟨⟨⟨⟨⟨⟨⟨trivial, ?_⟩, ?_⟩, ?_⟩, ?_⟩, ?_⟩, ?_⟩, ?_⟩, ?_⟩, ?_⟩, ?_⟩, ?_⟩, ?_⟩, ?_⟩, ?_⟩, ?_⟩, ?_⟩, ?_⟩, ?_⟩, ?_⟩, ?_⟩, ?_⟩, ?_⟩, ?_⟩, ?_⟩, ?_⟩, ?_⟩, ?_⟩, ?_⟩, ?_⟩, ?_⟩, ?_⟩, ?_⟩, ?_⟩, ?_⟩, ?_⟩, ?_⟩, ?_⟩, ?_⟩, ?_⟩, ?_⟩, ?_⟩, ?_⟩, ?_⟩, ?_⟩, ?_⟩, ?_⟩, ?_⟩, ?_⟩, ?_⟩, ?_⟩, ?_⟩, ?_⟩ (last := 4) (by kernel_rfl) ?_
          ·exact Owe.run (by kernel_rfl) [(7, (.bool z9))] ⟨gS (by kernel_rfl) (by kernel_rfl), trivial⟩ (.bool z9) (fun _ _ => by kernel_rfl) rfl
          ·exact Owe.run (by kernel_rfl) [(41, (.bool z9))] ⟨gA 0 (by kernel_rfl) (by kernel_rfl), trivial⟩ (.bool z9) (fun _ _ => by kernel_rfl) rfl
          ·exact Owe.run (by kernel_rfl) [(0, (.string ⟨List.toArray p1⟩)), (42, (.bool true))] ⟨gS (by kernel_rfl) (by kernel_rfl), gB 1 (by kernel_rfl) z9 (by kernel_rfl) hb875, trivial⟩ (.string ⟨List.toArray p1⟩) (fun _ _ => by kernel_rfl) rfl
          ·refine Owe.heavy (by kernel_rfl) [(0, 1)] (by kernel_rfl) (all_cons ⟨by kernel_rfl, by kernel_rfl, ?_⟩ all_nil)
           ·intro ρ' w' hs hah hP
            obtain ⟨hvl1462, hs1461⟩ := hP
            have e43 := hah 2 43 (by kernel_rfl)
            have e42 := hah 1 42 (by kernel_rfl)
            have hkn : Known ρ' [(43, (.string ⟨List.toArray p1⟩)), (42, (.bool true))] := ⟨e43, (Eq.trans e42 (congrArg Value.bool hb875)), trivial⟩
            refine Step.known _ hkn ?_
            refine Step.callF (f := 15) (fo := (.func 15)) (xs := #[(.tmp 43)]) (tys := #[9]) (first := #[]) (captured := #[]) (d := (some 44)) (k := 3) (by kernel_rfl) rfl (by kernel_rfl) (by kernel_rfl) Tryd.call15 (L_syntax_Name_walk  p1 w'  z876 hz877) ?_
            rintro e w1463 ⟨rfl, hs1464⟩
            refine ⟨_, rfl, ?_⟩
            have hs1465 := SP.call hs1461 hs1464
            clear hs1464
            have hs1466 : SP [] w0 w1463 [boxE g5 24 #[(.int .u32 pAddr3), (.int .i64 pBits4)], boxE g34 24 #[(.int .u32 z28.1), (.int .i64 z28.2.1)], boxE g47 24 #[(.int .u32 z41.1), (.int .i64 z41.2.1)]] := hs1465
            clear hs1465
            refine ⟨_, updO_known hkn, rfl, ?_⟩
            exact (And.intro (And.intro rfl (trivial)) (hs1466))
          ·exact Owe.run (by kernel_rfl) [(0, (.string ⟨List.toArray p1⟩)), (42, (.bool true))] ⟨gS (by kernel_rfl) (by kernel_rfl), gB 1 (by kernel_rfl) z9 (by kernel_rfl) hb875, trivial⟩ (.string ⟨List.toArray p1⟩) (fun _ _ => by kernel_rfl) rfl
          ·refine Owe.heavy (by kernel_rfl) [(1, 2)] (by kernel_rfl) (all_cons ⟨by kernel_rfl, by kernel_rfl, ?_⟩ all_nil)
           ·intro ρ' w' hs hah hP
            obtain ⟨hvl1469, hs1467⟩ := hP
            obtain ⟨q1468, -⟩ := hvl1469
            have e45 := hah 4 45 (by kernel_rfl)
            have e42 := hah 1 42 (by kernel_rfl)
            have hkn : Known ρ' [(45, (.string ⟨List.toArray p1⟩)), (42, (.bool true))] := ⟨e45, (Eq.trans e42 (congrArg Value.bool hb875)), trivial⟩
            refine Step.known _ hkn ?_
            refine Step.callF (f := 16) (fo := (.func 16)) (xs := #[(.tmp 45)]) (tys := #[9]) (first := #[]) (captured := #[]) (d := (some 46)) (k := 5) (by kernel_rfl) rfl (by kernel_rfl) (by kernel_rfl) Tryd.call16 (L_subwayref04_Name_walk  p1 w'  z882 hz883) ?_
            rintro e w1470 ⟨rfl, hs1471⟩
            refine ⟨_, rfl, ?_⟩
            have hs1472 := SP.call hs1467 hs1471
            clear hs1471
            have hs1473 : SP [] w0 w1470 [boxE g5 24 #[(.int .u32 pAddr3), (.int .i64 pBits4)], boxE g34 24 #[(.int .u32 z28.1), (.int .i64 z28.2.1)], boxE g47 24 #[(.int .u32 z41.1), (.int .i64 z41.2.1)]] := hs1472
            clear hs1472
            refine ⟨_, updO_known hkn, rfl, ?_⟩
            exact (And.intro (And.intro q1468 (And.intro rfl (trivial))) (hs1473))
          ·exact Owe.run (by kernel_rfl) [(44, (.bool z876)), (46, (.bool z882)), (42, (.bool true))] ⟨gA 3 (by kernel_rfl) (by kernel_rfl), gA 5 (by kernel_rfl) (by kernel_rfl), gB 1 (by kernel_rfl) z9 (by kernel_rfl) hb875, trivial⟩ (.bool (z876 == z882)) (fun _ _ => by kernel_rfl) rfl
          ·exact Owe.run (by kernel_rfl) [(42, (.bool true)), (47, (.bool (z876 == z882)))] ⟨gB 1 (by kernel_rfl) z9 (by kernel_rfl) hb875, gA 6 (by kernel_rfl) (by kernel_rfl), trivial⟩ (.bool (z876 == z882)) (fun _ _ => by kernel_rfl) rfl
          ·exact Owe.run (by kernel_rfl) [(48, (.bool (z876 == z882)))] ⟨gA 7 (by kernel_rfl) (by kernel_rfl), trivial⟩ (.bool (z876 == z882)) (fun _ _ => by kernel_rfl) rfl
          ·exact Owe.run (by kernel_rfl) [(8, (.int .u32 z16.1)), (49, (.bool true))] ⟨gS (by kernel_rfl) (by kernel_rfl), gB 8 (by kernel_rfl) (z876 == z882) (by kernel_rfl) hb888, trivial⟩ (.int .u32 z16.1) (fun _ _ => by kernel_rfl) rfl
          ·exact Owe.run (by kernel_rfl) [(10, (.int .u32 z22.1)), (49, (.bool true))] ⟨gS (by kernel_rfl) (by kernel_rfl), gB 8 (by kernel_rfl) (z876 == z882) (by kernel_rfl) hb888, trivial⟩ (.int .u32 z22.1) (fun _ _ => by kernel_rfl) rfl
          ·exact Owe.run (by kernel_rfl) [(50, (.int .u32 z16.1)), (51, (.int .u32 z22.1)), (49, (.bool true))] ⟨gA 9 (by kernel_rfl) (by kernel_rfl), gA 10 (by kernel_rfl) (by kernel_rfl), gB 8 (by kernel_rfl) (z876 == z882) (by kernel_rfl) hb888, trivial⟩ (.bool (z16.1 == z22.1)) (fun _ _ => by kernel_rfl) rfl
          ·exact Owe.run (by kernel_rfl) [(49, (.bool true)), (52, (.bool (z16.1 == z22.1)))] ⟨gB 8 (by kernel_rfl) (z876 == z882) (by kernel_rfl) hb888, gA 11 (by kernel_rfl) (by kernel_rfl), trivial⟩ (.bool (z16.1 == z22.1)) (fun _ _ => by kernel_rfl) rfl
          ·exact Owe.run (by kernel_rfl) [(53, (.bool (z16.1 == z22.1)))] ⟨gA 12 (by kernel_rfl) (by kernel_rfl), trivial⟩ (.bool (z16.1 == z22.1)) (fun _ _ => by kernel_rfl) rfl
          ·exact Owe.run (by kernel_rfl) [(9, (.bool z16.2)), (54, (.bool true))] ⟨gS (by kernel_rfl) (by kernel_rfl), gB 13 (by kernel_rfl) (z16.1 == z22.1) (by kernel_rfl) hb889, trivial⟩ (.bool z16.2) (fun _ _ => by kernel_rfl) rfl
          ·exact Owe.run (by kernel_rfl) [(11, (.bool z22.2)), (54, (.bool true))] ⟨gS (by kernel_rfl) (by kernel_rfl), gB 13 (by kernel_rfl) (z16.1 == z22.1) (by kernel_rfl) hb889, trivial⟩ (.bool z22.2) (fun _ _ => by kernel_rfl) rfl
          ·exact Owe.run (by kernel_rfl) [(55, (.bool z16.2)), (56, (.bool z22.2)), (54, (.bool true))] ⟨gA 14 (by kernel_rfl) (by kernel_rfl), gA 15 (by kernel_rfl) (by kernel_rfl), gB 13 (by kernel_rfl) (z16.1 == z22.1) (by kernel_rfl) hb889, trivial⟩ (.bool (z16.2 == z22.2)) (fun _ _ => by kernel_rfl) rfl
          ·exact Owe.run (by kernel_rfl) [(54, (.bool true)), (57, (.bool (z16.2 == z22.2)))] ⟨gB 13 (by kernel_rfl) (z16.1 == z22.1) (by kernel_rfl) hb889, gA 16 (by kernel_rfl) (by kernel_rfl), trivial⟩ (.bool (z16.2 == z22.2)) (fun _ _ => by kernel_rfl) rfl
          ·exact Owe.run (by kernel_rfl) [(58, (.bool (z16.2 == z22.2)))] ⟨gA 17 (by kernel_rfl) (by kernel_rfl), trivial⟩ (.bool (z16.2 == z22.2)) (fun _ _ => by kernel_rfl) rfl
          ·refine Owe.light (by kernel_rfl) [2] (by kernel_rfl) (all_cons ?_ all_nil)
           ·intro ρ' w' hs hah hP
            obtain ⟨hvl1477, hs1474⟩ := hP
            obtain ⟨q1475, q1476, -⟩ := hvl1477
            have e12 : ρ' 12 = (.pointer (some ⟨g34, 0, none⟩)) := (hs 12 (by kernel_rfl)).trans (by kernel_rfl)
            have e59 := hah 18 59 (by kernel_rfl)
            have hkn : Known ρ' [(12, (.pointer (some ⟨g34, 0, none⟩))), (59, (.bool true))] := ⟨e12, (Eq.trans e59 (congrArg Value.bool hb890)), trivial⟩
            refine Step.known _ hkn ?_
            refine Step.load (t := 24) (x := (.tmp 12)) (g := g34) (off := 0) (i := 1) (v := (.agg #[(.int .u32 z28.1), (.int .i64 z28.2.1)])) (d := (some 60)) (k := 19) (by kernel_rfl) rfl (by kernel_rfl) hs1474 rfl (by kernel_rfl) ?_
            exact ⟨rfl, _, updO_known hkn, rfl⟩
          ·refine Owe.light (by kernel_rfl) [2] (by kernel_rfl) (all_cons ?_ all_nil)
           ·intro ρ' w' hs hah hP
            obtain ⟨hvl1481, hs1478⟩ := hP
            obtain ⟨q1479, q1480, -⟩ := hvl1481
            have e14 : ρ' 14 = (.pointer (some ⟨g47, 0, none⟩)) := (hs 14 (by kernel_rfl)).trans (by kernel_rfl)
            have e59 := hah 18 59 (by kernel_rfl)
            have hkn : Known ρ' [(14, (.pointer (some ⟨g47, 0, none⟩))), (59, (.bool true))] := ⟨e14, (Eq.trans e59 (congrArg Value.bool hb890)), trivial⟩
            refine Step.known _ hkn ?_
            refine Step.load (t := 24) (x := (.tmp 14)) (g := g47) (off := 0) (i := 2) (v := (.agg #[(.int .u32 z41.1), (.int .i64 z41.2.1)])) (d := (some 61)) (k := 20) (by kernel_rfl) rfl (by kernel_rfl) hs1478 rfl (by kernel_rfl) ?_
            exact ⟨rfl, _, updO_known hkn, rfl⟩
          ·refine Owe.light (by kernel_rfl) [2] (by kernel_rfl) (all_cons ?_ all_nil)
           ·intro ρ' w' hs hah hP
            obtain ⟨hvl1485, hs1482⟩ := hP
            obtain ⟨q1483, q1484, -⟩ := hvl1485
            have e60 := hah 19 60 (by kernel_rfl)
            have e61 := hah 20 61 (by kernel_rfl)
            have e59 := hah 18 59 (by kernel_rfl)
            have hkn : Known ρ' [(60, (.agg #[(.int .u32 z28.1), (.int .i64 z28.2.1)])), (61, (.agg #[(.int .u32 z41.1), (.int .i64 z41.2.1)])), (59, (.bool true))] := ⟨e60, e61, (Eq.trans e59 (congrArg Value.bool hb890)), trivial⟩
            refine Step.known _ hkn ?_
            refine Step.bin (op := .eql) (T := 24) (T' := 24) (x := (.tmp 60)) (y := (.tmp 61)) (vx := (.agg #[(.int .u32 z28.1), (.int .i64 z28.2.1)])) (vy := (.agg #[(.int .u32 z41.1), (.int .i64 z41.2.1)])) (v := (.bool ((z28.1 == z41.1) && (z28.2.1 == z41.2.1)))) (d := (some 62)) (k := 21) (by kernel_rfl) rfl (by kernel_rfl) (by kernel_rfl) (by clear H; intro w; simp only [beq_dec]; go_simp; simp only [struct_ifn, struct_ifn0, struct_if, beq_dec, Bool.and_true] <;> simp only [Bool.not_and]) ?_
            exact ⟨rfl, _, updO_known hkn, rfl⟩
          ·exact Owe.run (by kernel_rfl) [(59, (.bool true)), (62, (.bool ((z28.1 == z41.1) && (z28.2.1 == z41.2.1))))] ⟨gB 18 (by kernel_rfl) (z16.2 == z22.2) (by kernel_rfl) hb890, gA 21 (by kernel_rfl) (by kernel_rfl), trivial⟩ (.bool ((z28.1 == z41.1) && (z28.2.1 == z41.2.1))) (fun _ _ => by kernel_rfl) rfl
          ·exact Owe.run (by kernel_rfl) [(63, (.bool ((z28.1 == z41.1) && (z28.2.1 == z41.2.1))))] ⟨gA 22 (by kernel_rfl) (by kernel_rfl), trivial⟩ (.bool ((z28.1 == z41.1) && (z28.2.1 == z41.2.1))) (fun _ _ => by kernel_rfl) rfl
          ·exact Owe.run (by kernel_rfl) [(13, (.bool z28.2.2)), (64, (.bool true))] ⟨gS (by kernel_rfl) (by kernel_rfl), gB 23 (by kernel_rfl) ((z28.1 == z41.1) && (z28.2.1 == z41.2.1)) (by kernel_rfl) hb891, trivial⟩ (.bool z28.2.2) (fun _ _ => by kernel_rfl) rfl
          ·exact Owe.run (by kernel_rfl) [(15, (.bool z41.2.2)), (64, (.bool true))] ⟨gS (by kernel_rfl) (by kernel_rfl), gB 23 (by kernel_rfl) ((z28.1 == z41.1) && (z28.2.1 == z41.2.1)) (by kernel_rfl) hb891, trivial⟩ (.bool z41.2.2) (fun _ _ => by kernel_rfl) rfl
          ·exact Owe.run (by kernel_rfl) [(65, (.bool z28.2.2)), (66, (.bool z41.2.2)), (64, (.bool true))] ⟨gA 24 (by kernel_rfl) (by kernel_rfl), gA 25 (by kernel_rfl) (by kernel_rfl), gB 23 (by kernel_rfl) ((z28.1 == z41.1) && (z28.2.1 == z41.2.1)) (by kernel_rfl) hb891, trivial⟩ (.bool (z28.2.2 == z41.2.2)) (fun _ _ => by kernel_rfl) rfl
          ·exact Owe.run (by kernel_rfl) [(64, (.bool true)), (67, (.bool (z28.2.2 == z41.2.2)))] ⟨gB 23 (by kernel_rfl) ((z28.1 == z41.1) && (z28.2.1 == z41.2.1)) (by kernel_rfl) hb891, gA 26 (by kernel_rfl) (by kernel_rfl), trivial⟩ (.bool (z28.2.2 == z41.2.2)) (fun _ _ => by kernel_rfl) rfl
          ·exact Owe.run (by kernel_rfl) [(68, (.bool (z28.2.2 == z41.2.2)))] ⟨gA 27 (by kernel_rfl) (by kernel_rfl), trivial⟩ (.bool (z28.2.2 == z41.2.2)) (fun _ _ => by kernel_rfl) rfl
          ·exact Owe.run (by kernel_rfl) [(1, (.int .u32 p2)), (69, (.bool true))] ⟨gS (by kernel_rfl) (by kernel_rfl), gB 28 (by kernel_rfl) (z28.2.2 == z41.2.2) (by kernel_rfl) hb892, trivial⟩ (.int .u32 p2) (fun _ _ => by kernel_rfl) rfl
          ·refine Owe.heavy (by kernel_rfl) [(2, 3)] (by kernel_rfl) (all_cons ⟨by kernel_rfl, by kernel_rfl, ?_⟩ all_nil)
           ·intro ρ' w' hs hah hP
            obtain ⟨hvl1489, hs1486⟩ := hP
            obtain ⟨q1487, q1488, -⟩ := hvl1489
            have e70 := hah 29 70 (by kernel_rfl)
            have e69 := hah 28 69 (by kernel_rfl)
            have hkn : Known ρ' [(70, (.int .u32 p2)), (69, (.bool true))] := ⟨e70, (Eq.trans e69 (congrArg Value.bool hb892)), trivial⟩
            refine Step.known _ hkn ?_
            refine Step.callF (f := 17) (fo := (.func 17)) (xs := #[(.tmp 70)]) (tys := #[22]) (first := #[]) (captured := #[]) (d := (some 71)) (k := 30) (by kernel_rfl) rfl (by kernel_rfl) (by kernel_rfl) Tryd.call17 (L_syntax_Dots_walk  p2 w' (laid_below hL (SP.keeps hs1486)) z893 hz894) ?_
            rintro e w1490 ⟨rfl, hs1491⟩
            refine ⟨_, rfl, ?_⟩
            have hs1492 := SP.call hs1486 hs1491
            clear hs1491
            have hs1493 : SP [] w0 w1490 [boxE g5 24 #[(.int .u32 pAddr3), (.int .i64 pBits4)], boxE g34 24 #[(.int .u32 z28.1), (.int .i64 z28.2.1)], boxE g47 24 #[(.int .u32 z41.1), (.int .i64 z41.2.1)]] := hs1492
            clear hs1492
            refine ⟨_, updO_known hkn, rfl, ?_⟩
            exact (And.intro (And.intro q1487 (And.intro q1488 (And.intro rfl (trivial)))) (hs1493))
          ·exact Owe.run (by kernel_rfl) [(1, (.int .u32 p2)), (69, (.bool true))] ⟨gS (by kernel_rfl) (by kernel_rfl), gB 28 (by kernel_rfl) (z28.2.2 == z41.2.2) (by kernel_rfl) hb892, trivial⟩ (.int .u32 p2) (fun _ _ => by kernel_rfl) rfl
          ·refine Owe.heavy (by kernel_rfl) [(3, 4)] (by kernel_rfl) (all_cons ⟨by kernel_rfl, by kernel_rfl, ?_⟩ all_nil)
           ·intro ρ' w' hs hah hP
            obtain ⟨hvl1498, hs1494⟩ := hP
            obtain ⟨q1495, q1496, q1497, -⟩ := hvl1498
            have e72 := hah 31 72 (by kernel_rfl)
            have e69 := hah 28 69 (by kernel_rfl)
            have hkn : Known ρ' [(72, (.int .u32 p2)), (69, (.bool true))] := ⟨e72, (Eq.trans e69 (congrArg Value.bool hb892)), trivial⟩
            refine Step.known _ hkn ?_
            refine Step.callF (f := 18) (fo := (.func 18)) (xs := #[(.tmp 72)]) (tys := #[22]) (first := #[]) (captured := #[]) (d := (some 73)) (k := 32) (by kernel_rfl) rfl (by kernel_rfl) (by kernel_rfl) Tryd.call18 (L_subwayref04_Dots_walk  p2 w'  z899 hz900) ?_
            rintro e w1499 ⟨rfl, hs1500⟩
            refine ⟨_, rfl, ?_⟩
            have hs1501 := SP.call hs1494 hs1500
            clear hs1500
            have hs1502 : SP [] w0 w1499 [boxE g5 24 #[(.int .u32 pAddr3), (.int .i64 pBits4)], boxE g34 24 #[(.int .u32 z28.1), (.int .i64 z28.2.1)], boxE g47 24 #[(.int .u32 z41.1), (.int .i64 z41.2.1)]] := hs1501
            clear hs1501
            refine ⟨_, updO_known hkn, rfl, ?_⟩
            exact (And.intro (And.intro q1495 (And.intro q1496 (And.intro q1497 (And.intro rfl (trivial))))) (hs1502))
          ·refine Owe.light (by kernel_rfl) [4] (by kernel_rfl) (all_cons ?_ all_nil)
           ·intro ρ' w' hs hah hP
            obtain ⟨hvl1508, hs1503⟩ := hP
            obtain ⟨q1504, q1505, q1506, q1507, -⟩ := hvl1508
            have e71 : ρ' 71 = (.string ⟨List.toArray z893⟩) := (valF_eq (h := 30) (by kernel_rfl)).symm.trans q1506
            have e73 : ρ' 73 = (.string ⟨List.toArray z899⟩) := (valF_eq (h := 32) (by kernel_rfl)).symm.trans q1507
            have e69 := hah 28 69 (by kernel_rfl)
            have hkn : Known ρ' [(71, (.string ⟨List.toArray z893⟩)), (73, (.string ⟨List.toArray z899⟩)), (69, (.bool true))] := ⟨e71, e73, (Eq.trans e69 (congrArg Value.bool hb892)), trivial⟩
            refine Step.known _ hkn ?_
            refine Step.strOp (op := .eql) (T := 9) (T' := 9) (x := (.tmp 71)) (y := (.tmp 73)) (a := z893) (b := z899) (r := (.bool (z893 == z899))) (d := (some 74)) (k := 33) (by kernel_rfl) rfl (by kernel_rfl) (by kernel_rfl) rfl ?_
            exact ⟨rfl, _, updO_known hkn, rfl⟩
          ·exact Owe.run (by kernel_rfl) [(69, (.bool true)), (74, (.bool (z893 == z899)))] ⟨gB 28 (by kernel_rfl) (z28.2.2 == z41.2.2) (by kernel_rfl) hb892, gA 33 (by kernel_rfl) (by kernel_rfl), trivial⟩ (.bool (z893 == z899)) (fun _ _ => by kernel_rfl) rfl
          ·exact Owe.run (by kernel_rfl) [(75, (.bool (z893 == z899)))] ⟨gA 34 (by kernel_rfl) (by kernel_rfl), trivial⟩ (.bool (z893 == z899)) (fun _ _ => by kernel_rfl) rfl
          ·exact Owe.skip (by kernel_rfl) [(76, (.bool false))] ⟨gB 35 (by kernel_rfl) (z893 == z899) (by kernel_rfl) hb905, trivial⟩ (some 77) (fun _ => by kernel_rfl) (by kernel_rfl) rfl
          ·exact Owe.skip (by kernel_rfl) [(76, (.bool false))] ⟨gB 35 (by kernel_rfl) (z893 == z899) (by kernel_rfl) hb905, trivial⟩ (some 78) (fun _ => by kernel_rfl) (by kernel_rfl) rfl
          ·exact Owe.skip (by kernel_rfl) [(76, (.bool false))] ⟨gB 35 (by kernel_rfl) (z893 == z899) (by kernel_rfl) hb905, trivial⟩ (some 79) (fun _ => by kernel_rfl) (by kernel_rfl) rfl
          ·exact Owe.skip (by kernel_rfl) [(76, (.bool false))] ⟨gB 35 (by kernel_rfl) (z893 == z899) (by kernel_rfl) hb905, trivial⟩ (some 80) (fun _ => by kernel_rfl) (by kernel_rfl) rfl
          ·exact Owe.skip (by kernel_rfl) [(76, (.bool false))] ⟨gB 35 (by kernel_rfl) (z893 == z899) (by kernel_rfl) hb905, trivial⟩ (some 81) (fun _ => by kernel_rfl) (by kernel_rfl) rfl
          ·exact Owe.run (by kernel_rfl) [(76, (.bool false)), (81, undef)] ⟨gB 35 (by kernel_rfl) (z893 == z899) (by kernel_rfl) hb905, gA 40 (by kernel_rfl) (by kernel_rfl), trivial⟩ (.bool false) (fun _ _ => by kernel_rfl) rfl
          ·exact Owe.run (by kernel_rfl) [(82, (.bool false))] ⟨gA 41 (by kernel_rfl) (by kernel_rfl), trivial⟩ (.bool false) (fun _ _ => by kernel_rfl) rfl
          ·exact Owe.skip (by kernel_rfl) [(83, (.bool false))] ⟨gA 42 (by kernel_rfl) (by kernel_rfl), trivial⟩ (some 84) (fun _ => by kernel_rfl) (by kernel_rfl) rfl
          ·exact Owe.skip (by kernel_rfl) [(83, (.bool false))] ⟨gA 42 (by kernel_rfl) (by kernel_rfl), trivial⟩ (some 85) (fun _ => by kernel_rfl) (by kernel_rfl) rfl
          ·exact Owe.skip (by kernel_rfl) [(83, (.bool false))] ⟨gA 42 (by kernel_rfl) (by kernel_rfl), trivial⟩ (some 86) (fun _ => by kernel_rfl) (by kernel_rfl) rfl
          ·exact Owe.skip (by kernel_rfl) [(83, (.bool false))] ⟨gA 42 (by kernel_rfl) (by kernel_rfl), trivial⟩ (some 87) (fun _ => by kernel_rfl) (by kernel_rfl) rfl
          ·exact Owe.skip (by kernel_rfl) [(83, (.bool false))] ⟨gA 42 (by kernel_rfl) (by kernel_rfl), trivial⟩ (some 88) (fun _ => by kernel_rfl) (by kernel_rfl) rfl
          ·exact Owe.skip (by kernel_rfl) [(83, (.bool false))] ⟨gA 42 (by kernel_rfl) (by kernel_rfl), trivial⟩ (some 89) (fun _ => by kernel_rfl) (by kernel_rfl) rfl
          ·exact Owe.skip (by kernel_rfl) [(83, (.bool false))] ⟨gA 42 (by kernel_rfl) (by kernel_rfl), trivial⟩ (some 90) (fun _ => by kernel_rfl) (by kernel_rfl) rfl
          ·exact Owe.run (by kernel_rfl) [(83, (.bool false)), (90, undef)] ⟨gA 42 (by kernel_rfl) (by kernel_rfl), gA 49 (by kernel_rfl) (by kernel_rfl), trivial⟩ (.bool false) (fun _ _ => by kernel_rfl) rfl
          ·exact Owe.run (by kernel_rfl) [(91, (.bool false))] ⟨gA 50 (by kernel_rfl) (by kernel_rfl), trivial⟩ (.bool false) (fun _ _ => by kernel_rfl) rfl
          ·intro ρ' w' hs hf hP
           obtain ⟨hvl1514, hs1509⟩ := hP
           obtain ⟨q1510, q1511, q1512, q1513, -⟩ := hvl1514
           have e6 := hf 51 6 (by kernel_rfl)
           refine postKnown [(6, (.bool false))] ⟨e6, trivial⟩ ?_
           obtain ⟨w1515, hww1515⟩ : ∃ x, w' = x := ⟨_, rfl⟩
           rw [hww1515] at hs1509 ⊢
           exact ⟨false, ⟨(by kernel_rfl), trivial⟩, SP.sel hs1509 [] rfl rfl, H⟩
        ·have H := cf H hb892
         refine At.stages (by kernel_rfl) (by kernel_rfl) (by kernel_rfl) (by kernel_rfl) (by kernel_rfl) [GEq (.bool z9), GEq (.bool z9), GEq (.string ⟨List.toArray p1⟩), GEq (.bool z876), GEq (.string ⟨List.toArray p1⟩), GEq (.bool z882), GEq (.bool (z876 == z882)), GEq (.bool (z876 == z882)), GEq (.bool (z876 == z882)), GEq (.int .u32 z16.1), GEq (.int .u32 z22.1), GEq (.bool (z16.1 == z22.1)), GEq (.bool (z16.1 == z22.1)), GEq (.bool (z16.1 == z22.1)), GEq (.bool z16.2), GEq (.bool z22.2), GEq (.bool (z16.2 == z22.2)), GEq (.bool (z16.2 == z22.2)), GEq (.bool (z16.2 == z22.2)), GEq (.agg #[(.int .u32 z28.1), (.int .i64 z28.2.1)]), GEq (.agg #[(.int .u32 z41.1), (.int .i64 z41.2.1)]), GEq (.bool ((z28.1 == z41.1) && (z28.2.1 == z41.2.1))), GEq (.bool ((z28.1 == z41.1) && (z28.2.1 == z41.2.1))), GEq (.bool ((z28.1 == z41.1) && (z28.2.1 == z41.2.1))), GEq (.bool z28.2.2), GEq (.bool z41.2.2), GEq (.bool (z28.2.2 == z41.2.2)), GEq (.bool (z28.2.2 == z41.2.2)), GEq (.bool (z28.2.2 == z41.2.2)), GEq undef, GEq undef, GEq undef, GEq undef, GEq undef, GEq (.bool false), GEq (.bool false), GEq undef, GEq undef, GEq undef, GEq undef, GEq undef, GEq (.bool false), GEq (.bool false), GEq undef, GEq undef, GEq undef, GEq undef, GEq undef, GEq undef, GEq undef, GEq (.bool false), GEq (.bool false)] [3, 5] [([], fun vs w => VL vs [] ∧ SP [] w0 w [boxE g5 24 #[(.int .u32 pAddr3), (.int .i64 pBits4)], boxE g34 24 #[(.int .u32 z28.1), (.int .i64 z28.2.1)], boxE g47 24 #[(.int .u32 z41.1), (.int .i64 z41.2.1)]]), ([3], fun vs w => VL vs [(.bool z876)] ∧ SP [] w0 w [boxE g5 24 #[(.int .u32 pAddr3), (.int .i64 pBits4)], boxE g34 24 #[(.int .u32 z28.1), (.int .i64 z28.2.1)], boxE g47 24 #[(.int .u32 z41.1), (.int .i64 z41.2.1)]]), ([3, 5], fun vs w => VL vs [(.bool z876), (.bool z882)] ∧ SP [] w0 w [boxE g5 24 #[(.int .u32 pAddr3), (.int .i64 pBits4)], boxE g34 24 #[(.int .u32 z28.1), (.int .i64 z28.2.1)], boxE g47 24 #[(.int .u32 z41.1), (.int .i64 z41.2.1)]])] (N := 52) (by kernel_rfl) ⟨by kernel_rfl, Nat.zero_lt_succ _⟩ (show VL [] [] ∧ SP [] w0 w51.drew [boxE g5 24 #[(.int .u32 pAddr3), (.int .i64 pBits4)], boxE g34 24 #[(.int .u32 z28.1), (.int .i64 z28.2.1)], boxE g47 24 #[(.int .u32 z41.1), (.int .i64 z41.2.1)]] from ⟨trivial, SP.drew hs53⟩) ⟨⟨⟨⟨⟨⟨⟨⟨⟨⟨⟨⟨⟨⟨⟨⟨⟨⟨⟨⟨⟨⟨⟨⟨⟨⟨⟨⟨⟨⟨⟨⟨⟨⟨⟨⟨⟨⟨⟨⟨⟨⟨⟨⟨⟨⟨⟨⟨⟨⟨⟨⟨trivial, ?_⟩, ?_⟩, ?_⟩, ?_⟩, ?_⟩, ?_⟩, ?_⟩, ?_⟩, ?_⟩, ?_⟩, ?_⟩, ?_⟩, ?_⟩, ?_⟩, ?_⟩, ?_⟩, ?_⟩, ?_⟩, ?_⟩, ?_⟩, ?_⟩, ?_⟩, ?_⟩, ?_⟩, ?_⟩, ?_⟩, ?_⟩, ?_⟩, ?_⟩, ?_⟩, ?_⟩, ?_⟩, ?_⟩, ?_⟩, ?_⟩, ?_⟩, ?_⟩, ?_⟩, ?_⟩, ?_⟩, ?_⟩, ?_⟩, ?_⟩, ?_⟩, ?_⟩, ?_⟩, ?_⟩, ?_⟩, ?_⟩, ?_⟩, ?_⟩, ?_⟩ (last := 2) (by kernel_rfl) ?_
         ·exact Owe.run (by kernel_rfl) [(7, (.bool z9))] ⟨gS (by kernel_rfl) (by kernel_rfl), trivial⟩ (.bool z9) (fun _ _ => by kernel_rfl) rfl
         ·exact Owe.run (by kernel_rfl) [(41, (.bool z9))] ⟨gA 0 (by kernel_rfl) (by kernel_rfl), trivial⟩ (.bool z9) (fun _ _ => by kernel_rfl) rfl
         ·exact Owe.run (by kernel_rfl) [(0, (.string ⟨List.toArray p1⟩)), (42, (.bool true))] ⟨gS (by kernel_rfl) (by kernel_rfl), gB 1 (by kernel_rfl) z9 (by kernel_rfl) hb875, trivial⟩ (.string ⟨List.toArray p1⟩) (fun _ _ => by kernel_rfl) rfl
         ·refine Owe.heavy (by kernel_rfl) [(0, 1)] (by kernel_rfl) (all_cons ⟨by kernel_rfl, by kernel_rfl, ?_⟩ all_nil)
          ·intro ρ' w' hs hah hP
           obtain ⟨hvl1529, hs1528⟩ := hP
           have e43 := hah 2 43 (by kernel_rfl)
           have e42 := hah 1 42 (by kernel_rfl)
           have hkn : Known ρ' [(43, (.string ⟨List.toArray p1⟩)), (42, (.bool true))] := ⟨e43, (Eq.trans e42 (congrArg Value.bool hb875)), trivial⟩
           refine Step.known _ hkn ?_
           refine Step.callF (f := 15) (fo := (.func 15)) (xs := #[(.tmp 43)]) (tys := #[9]) (first := #[]) (captured := #[]) (d := (some 44)) (k := 3) (by kernel_rfl) rfl (by kernel_rfl) (by kernel_rfl) Tryd.call15 (L_syntax_Name_walk  p1 w'  z876 hz877) ?_
           rintro e w1530 ⟨rfl, hs1531⟩
           refine ⟨_, rfl, ?_⟩
           have hs1532 := SP.call hs1528 hs1531
           clear hs1531
           have hs1533 : SP [] w0 w1530 [boxE g5 24 #[(.int .u32 pAddr3), (.int .i64 pBits4)], boxE g34 24 #[(.int .u32 z28.1), (.int .i64 z28.2.1)], boxE g47 24 #[(.int .u32 z41.1), (.int .i64 z41.2.1)]] := hs1532
           clear hs1532
           refine ⟨_, updO_known hkn, rfl, ?_⟩
           exact (And.intro (And.intro rfl (trivial)) (hs1533))
         ·exact Owe.run (by kernel_rfl) [(0, (.string ⟨List.toArray p1⟩)), (42, (.bool true))] ⟨gS (by kernel_rfl) (by kernel_rfl), gB 1 (by kernel_rfl) z9 (by kernel_rfl) hb875, trivial⟩ (.string ⟨List.toArray p1⟩) (fun _ _ => by kernel_rfl) rfl
         ·refine Owe.heavy (by kernel_rfl) [(1, 2)] (by kernel_rfl) (all_cons ⟨by kernel_rfl, by kernel_rfl, ?_⟩ all_nil)
          ·intro ρ' w' hs hah hP
           obtain ⟨hvl1536, hs1534⟩ := hP
           obtain ⟨q1535, -⟩ := hvl1536
           have e45 := hah 4 45 (by kernel_rfl)
           have e42 := hah 1 42 (by kernel_rfl)
           have hkn : Known ρ' [(45, (.string ⟨List.toArray p1⟩)), (42, (.bool true))] := ⟨e45, (Eq.trans e42 (congrArg Value.bool hb875)), trivial⟩
           refine Step.known _ hkn ?_
           refine Step.callF (f := 16) (fo := (.func 16)) (xs := #[(.tmp 45)]) (tys := #[9]) (first := #[]) (captured := #[]) (d := (some 46)) (k := 5) (by kernel_rfl) rfl (by kernel_rfl) (by kernel_rfl) Tryd.call16 (L_subwayref04_Name_walk  p1 w'  z882 hz883) ?_
           rintro e w1537 ⟨rfl, hs1538⟩
           refine ⟨_, rfl, ?_⟩
           have hs1539 := SP.call hs1534 hs1538
           clear hs1538
           have hs1540 : SP [] w0 w1537 [boxE g5 24 #[(.int .u32 pAddr3), (.int .i64 pBits4)], boxE g34 24 #[(.int .u32 z28.1), (.int .i64 z28.2.1)], boxE g47 24 #[(.int .u32 z41.1), (.int .i64 z41.2.1)]] := hs1539
           clear hs1539
           refine ⟨_, updO_known hkn, rfl, ?_⟩
           exact (And.intro (And.intro q1535 (And.intro rfl (trivial))) (hs1540))
         ·exact Owe.run (by kernel_rfl) [(44, (.bool z876)), (46, (.bool z882)), (42, (.bool true))] ⟨gA 3 (by kernel_rfl) (by kernel_rfl), gA 5 (by kernel_rfl) (by kernel_rfl), gB 1 (by kernel_rfl) z9 (by kernel_rfl) hb875, trivial⟩ (.bool (z876 == z882)) (fun _ _ => by kernel_rfl) rfl
         ·exact Owe.run (by kernel_rfl) [(42, (.bool true)), (47, (.bool (z876 == z882)))] ⟨gB 1 (by kernel_rfl) z9 (by kernel_rfl) hb875, gA 6 (by kernel_rfl) (by kernel_rfl), trivial⟩ (.bool (z876 == z882)) (fun _ _ => by kernel_rfl) rfl
         ·exact Owe.run (by kernel_rfl) [(48, (.bool (z876 == z882)))] ⟨gA 7 (by kernel_rfl) (by kernel_rfl), trivial⟩ (.bool (z876 == z882)) (fun _ _ => by kernel_rfl) rfl
         ·exact Owe.run (by kernel_rfl) [(8, (.int .u32 z16.1)), (49, (.bool true))] ⟨gS (by kernel_rfl) (by kernel_rfl), gB 8 (by kernel_rfl) (z876 == z882) (by kernel_rfl) hb888, trivial⟩ (.int .u32 z16.1) (fun _ _ => by kernel_rfl) rfl
         ·exact Owe.run (by kernel_rfl) [(10, (.int .u32 z22.1)), (49, (.bool true))] ⟨gS (by kernel_rfl) (by kernel_rfl), gB 8 (by kernel_rfl) (z876 == z882) (by kernel_rfl) hb888, trivial⟩ (.int .u32 z22.1) (fun _ _ => by kernel_rfl) rfl
         ·exact Owe.run (by kernel_rfl) [(50, (.int .u32 z16.1)), (51, (.int .u32 z22.1)), (49, (.bool true))] ⟨gA 9 (by kernel_rfl) (by kernel_rfl), gA 10 (by kernel_rfl) (by kernel_rfl), gB 8 (by kernel_rfl) (z876 == z882) (by kernel_rfl) hb888, trivial⟩ (.bool (z16.1 == z22.1)) (fun _ _ => by kernel_rfl) rfl
         ·exact Owe.run (by kernel_rfl) [(49, (.bool true)), (52, (.bool (z16.1 == z22.1)))] ⟨gB 8 (by kernel_rfl) (z876 == z882) (by kernel_rfl) hb888, gA 11 (by kernel_rfl) (by kernel_rfl), trivial⟩ (.bool (z16.1 == z22.1)) (fun _ _ => by kernel_rfl) rfl
         ·exact Owe.run (by kernel_rfl) [(53, (.bool (z16.1 == z22.1)))] ⟨gA 12 (by kernel_rfl) (by kernel_rfl), trivial⟩ (.bool (z16.1 == z22.1)) (fun _ _ => by kernel_rfl) rfl
         ·exact Owe.run (by kernel_rfl) [(9, (.bool z16.2)), (54, (.bool true))] ⟨gS (by kernel_rfl) (by kernel_rfl), gB 13 (by kernel_rfl) (z16.1 == z22.1) (by kernel_rfl) hb889, trivial⟩ (.bool z16.2) (fun _ _ => by kernel_rfl) rfl
         ·exact Owe.run (by kernel_rfl) [(11, (.bool z22.2)), (54, (.bool true))] ⟨gS (by kernel_rfl) (by kernel_rfl), gB 13 (by kernel_rfl) (z16.1 == z22.1) (by kernel_rfl) hb889, trivial⟩ (.bool z22.2) (fun _ _ => by kernel_rfl) rfl
         ·exact Owe.run (by kernel_rfl) [(55, (.bool z16.2)), (56, (.bool z22.2)), (54, (.bool true))] ⟨gA 14 (by kernel_rfl) (by kernel_rfl), gA 15 (by kernel_rfl) (by kernel_rfl), gB 13 (by kernel_rfl) (z16.1 == z22.1) (by kernel_rfl) hb889, trivial⟩ (.bool (z16.2 == z22.2)) (fun _ _ => by kernel_rfl) rfl
         ·exact Owe.run (by kernel_rfl) [(54, (.bool true)), (57, (.bool (z16.2 == z22.2)))] ⟨gB 13 (by kernel_rfl) (z16.1 == z22.1) (by kernel_rfl) hb889, gA 16 (by kernel_rfl) (by kernel_rfl), trivial⟩ (.bool (z16.2 == z22.2)) (fun _ _ => by kernel_rfl) rfl
         ·exact Owe.run (by kernel_rfl) [(58, (.bool (z16.2 == z22.2)))] ⟨gA 17 (by kernel_rfl) (by kernel_rfl), trivial⟩ (.bool (z16.2 == z22.2)) (fun _ _ => by kernel_rfl) rfl
         ·refine Owe.light (by kernel_rfl) [2] (by kernel_rfl) (all_cons ?_ all_nil)
          ·intro ρ' w' hs hah hP
           obtain ⟨hvl1544, hs1541⟩ := hP
           obtain ⟨q1542, q1543, -⟩ := hvl1544
           have e12 : ρ' 12 = (.pointer (some ⟨g34, 0, none⟩)) := (hs 12 (by kernel_rfl)).trans (by kernel_rfl)
           have e59 := hah 18 59 (by kernel_rfl)
           have hkn : Known ρ' [(12, (.pointer (some ⟨g34, 0, none⟩))), (59, (.bool true))] := ⟨e12, (Eq.trans e59 (congrArg Value.bool hb890)), trivial⟩
           refine Step.known _ hkn ?_
           refine Step.load (t := 24) (x := (.tmp 12)) (g := g34) (off := 0) (i := 1) (v := (.agg #[(.int .u32 z28.1), (.int .i64 z28.2.1)])) (d := (some 60)) (k := 19) (by kernel_rfl) rfl (by kernel_rfl) hs1541 rfl (by kernel_rfl) ?_
           exact ⟨rfl, _, updO_known hkn, rfl⟩
         ·refine Owe.light (by kernel_rfl) [2] (by kernel_rfl) (all_cons ?_ all_nil)
          ·intro ρ' w' hs hah hP
           obtain ⟨hvl1548, hs1545⟩ := hP
           obtain ⟨q1546, q1547, -⟩ := hvl1548
           have e14 : ρ' 14 = (.pointer (some ⟨g47, 0, none⟩)) := (hs 14 (by kernel_rfl)).trans (by kernel_rfl)
           have e59 := hah 18 59 (by kernel_rfl)
           have hkn : Known ρ' [(14, (.pointer (some ⟨g47, 0, none⟩))), (59, (.bool true))] := ⟨e14, (Eq.trans e59 (congrArg Value.bool hb890)), trivial⟩
           refine Step.known _ hkn ?_
           refine Step.load (t := 24) (x := (.tmp 14)) (g := g47) (off := 0) (i := 2) (v := (.agg #[(.int .u32 z41.1), (.int .i64 z41.2.1)])) (d := (some 61)) (k := 20) (by kernel_rfl) rfl (by kernel_rfl) hs1545 rfl (by kernel_rfl) ?_
           exact ⟨rfl, _, updO_known hkn, rfl⟩
         ·refine Owe.light (by kernel_rfl) [2] (by kernel_rfl) (all_cons ?_ all_nil)
          ·intro ρ' w' hs hah hP
           obtain ⟨hvl1552, hs1549⟩ := hP
           obtain ⟨q1550, q1551, -⟩ := hvl1552
           have e60 := hah 19 60 (by kernel_rfl)
           have e61 := hah 20 61 (by kernel_rfl)
           have e59 := hah 18 59 (by kernel_rfl)
           have hkn : Known ρ' [(60, (.agg #[(.int .u32 z28.1), (.int .i64 z28.2.1)])), (61, (.agg #[(.int .u32 z41.1), (.int .i64 z41.2.1)])), (59, (.bool true))] := ⟨e60, e61, (Eq.trans e59 (congrArg Value.bool hb890)), trivial⟩
           refine Step.known _ hkn ?_
           refine Step.bin (op := .eql) (T := 24) (T' := 24) (x := (.tmp 60)) (y := (.tmp 61)) (vx := (.agg #[(.int .u32 z28.1), (.int .i64 z28.2.1)])) (vy := (.agg #[(.int .u32 z41.1), (.int .i64 z41.2.1)])) (v := (.bool ((z28.1 == z41.1) && (z28.2.1 == z41.2.1)))) (d := (some 62)) (k := 21) (by kernel_rfl) rfl (by kernel_rfl) (by kernel_rfl) (by clear H; intro w; simp only [beq_dec]; go_simp; simp only [struct_ifn, struct_ifn0, struct_if, beq_dec, Bool.and_true] <;> simp only [Bool.not_and]) ?_
           exact ⟨rfl, _, updO_known hkn, rfl⟩
         ·exact Owe.run (by kernel_rfl) [(59, (.bool true)), (62, (.bool ((z28.1 == z41.1) && (z28.2.1 == z41.2.1))))] ⟨gB 18 (by kernel_rfl) (z16.2 == z22.2) (by kernel_rfl) hb890, gA 21 (by kernel_rfl) (by kernel_rfl), trivial⟩ (.bool ((z28.1 == z41.1) && (z28.2.1 == z41.2.1))) (fun _ _ => by kernel_rfl) rfl
         ·exact Owe.run (by kernel_rfl) [(63, (.bool ((z28.1 == z41.1) && (z28.2.1 == z41.2.1))))] ⟨gA 22 (by kernel_rfl) (by kernel_rfl), trivial⟩ (.bool ((z28.1 == z41.1) && (z28.2.1 == z41.2.1))) (fun _ _ => by kernel_rfl) rfl
         ·exact Owe.run (by kernel_rfl) [(13, (.bool z28.2.2)), (64, (.bool true))] ⟨gS (by kernel_rfl) (by kernel_rfl), gB 23 (by kernel_rfl) ((z28.1 == z41.1) && (z28.2.1 == z41.2.1)) (by kernel_rfl) hb891, trivial⟩ (.bool z28.2.2) (fun _ _ => by kernel_rfl) rfl
         ·exact Owe.run (by kernel_rfl) [(15, (.bool z41.2.2)), (64, (.bool true))] ⟨gS (by kernel_rfl) (by kernel_rfl), gB 23 (by kernel_rfl) ((z28.1 == z41.1) && (z28.2.1 == z41.2.1)) (by kernel_rfl) hb891, trivial⟩ (.bool z41.2.2) (fun _ _ => by kernel_rfl) rfl
         ·exact Owe.run (by kernel_rfl) [(65, (.bool z28.2.2)), (66, (.bool z41.2.2)), (64, (.bool true))] ⟨gA 24 (by kernel_rfl) (by kernel_rfl), gA 25 (by kernel_rfl) (by kernel_rfl), gB 23 (by kernel_rfl) ((z28.1 == z41.1) && (z28.2.1 == z41.2.1)) (by kernel_rfl) hb891, trivial⟩ (.bool (z28.2.2 == z41.2.2)) (fun _ _ => by kernel_rfl) rfl
         ·exact Owe.run (by kernel_rfl) [(64, (.bool true)), (67, (.bool (z28.2.2 == z41.2.2)))] ⟨gB 23 (by kernel_rfl) ((z28.1 == z41.1) && (z28.2.1 == z41.2.1)) (by kernel_rfl) hb891, gA 26 (by kernel_rfl) (by kernel_rfl), trivial⟩ (.bool (z28.2.2 == z41.2.2)) (fun _ _ => by kernel_rfl) rfl
         ·exact Owe.run (by kernel_rfl) [(68, (.bool (z28.2.2 == z41.2.2)))] ⟨gA 27 (by kernel_rfl) (by kernel_rfl), trivial⟩ (.bool (z28.2.2 == z41.2.2)) (fun _ _ => by kernel_rfl) rfl
         ·exact Owe.skip (by kernel_rfl) [(69, (.bool false))] ⟨gB 28 (by kernel_rfl) (z28.2.2 == z41.2.2) (by kernel_rfl) hb892, trivial⟩ (some 70) (fun _ => by kernel_rfl) (by kernel_rfl) rfl
         ·exact Owe.skip (by kernel_rfl) [(69, (.bool false))] ⟨gB 28 (by kernel_rfl) (z28.2.2 == z41.2.2) (by kernel_rfl) hb892, trivial⟩ (some 71) (fun _ => by kernel_rfl) (by kernel_rfl) rfl
         ·exact Owe.skip (by kernel_rfl) [(69, (.bool false))] ⟨gB 28 (by kernel_rfl) (z28.2.2 == z41.2.2) (by kernel_rfl) hb892, trivial⟩ (some 72) (fun _ => by kernel_rfl) (by kernel_rfl) rfl
         ·exact Owe.skip (by kernel_rfl) [(69, (.bool false))] ⟨gB 28 (by kernel_rfl) (z28.2.2 == z41.2.2) (by kernel_rfl) hb892, trivial⟩ (some 73) (fun _ => by kernel_rfl) (by kernel_rfl) rfl
         ·exact Owe.skip (by kernel_rfl) [(69, (.bool false))] ⟨gB 28 (by kernel_rfl) (z28.2.2 == z41.2.2) (by kernel_rfl) hb892, trivial⟩ (some 74) (fun _ => by kernel_rfl) (by kernel_rfl) rfl
         ·exact Owe.run (by kernel_rfl) [(69, (.bool false)), (74, undef)] ⟨gB 28 (by kernel_rfl) (z28.2.2 == z41.2.2) (by kernel_rfl) hb892, gA 33 (by kernel_rfl) (by kernel_rfl), trivial⟩ (.bool false) (fun _ _ => by kernel_rfl) rfl
         ·exact Owe.run (by kernel_rfl) [(75, (.bool false))] ⟨gA 34 (by kernel_rfl) (by kernel_rfl), trivial⟩ (.bool false) (fun _ _ => by kernel_rfl) rfl
         ·exact Owe.skip (by kernel_rfl) [(76, (.bool false))] ⟨gA 35 (by kernel_rfl) (by kernel_rfl), trivial⟩ (some 77) (fun _ => by kernel_rfl) (by kernel_rfl) rfl
         ·exact Owe.skip (by kernel_rfl) [(76, (.bool false))] ⟨gA 35 (by kernel_rfl) (by kernel_rfl), trivial⟩ (some 78) (fun _ => by kernel_rfl) (by kernel_rfl) rfl
         ·exact Owe.skip (by kernel_rfl) [(76, (.bool false))] ⟨gA 35 (by kernel_rfl) (by kernel_rfl), trivial⟩ (some 79) (fun _ => by kernel_rfl) (by kernel_rfl) rfl
         ·exact Owe.skip (by kernel_rfl) [(76, (.bool false))] ⟨gA 35 (by kernel_rfl) (by kernel_rfl), trivial⟩ (some 80) (fun _ => by kernel_rfl) (by kernel_rfl) rfl
         ·exact Owe.skip (by kernel_rfl) [(76, (.bool false))] ⟨gA 35 (by kernel_rfl) (by kernel_rfl), trivial⟩ (some 81) (fun _ => by kernel_rfl) (by kernel_rfl) rfl
         ·exact Owe.run (by kernel_rfl) [(76, (.bool false)), (81, undef)] ⟨gA 35 (by kernel_rfl) (by kernel_rfl), gA 40 (by kernel_rfl) (by kernel_rfl), trivial⟩ (.bool false) (fun _ _ => by kernel_rfl) rfl
         ·exact Owe.run (by kernel_rfl) [(82, (.bool false))] ⟨gA 41 (by kernel_rfl) (by kernel_rfl), trivial⟩ (.bool false) (fun _ _ => by kernel_rfl) rfl
         ·exact Owe.skip (by kernel_rfl) [(83, (.bool false))] ⟨gA 42 (by kernel_rfl) (by kernel_rfl), trivial⟩ (some 84) (fun _ => by kernel_rfl) (by kernel_rfl) rfl
         ·exact Owe.skip (by kernel_rfl) [(83, (.bool false))] ⟨gA 42 (by kernel_rfl) (by kernel_rfl), trivial⟩ (some 85) (fun _ => by kernel_rfl) (by kernel_rfl) rfl
         ·exact Owe.skip (by kernel_rfl) [(83, (.bool false))] ⟨gA 42 (by kernel_rfl) (by kernel_rfl), trivial⟩ (some 86) (fun _ => by kernel_rfl) (by kernel_rfl) rfl
         ·exact Owe.skip (by kernel_rfl) [(83, (.bool false))] ⟨gA 42 (by kernel_rfl) (by kernel_rfl), trivial⟩ (some 87) (fun _ => by kernel_rfl) (by kernel_rfl) rfl
         ·exact Owe.skip (by kernel_rfl) [(83, (.bool false))] ⟨gA 42 (by kernel_rfl) (by kernel_rfl), trivial⟩ (some 88) (fun _ => by kernel_rfl) (by kernel_rfl) rfl
         ·exact Owe.skip (by kernel_rfl) [(83, (.bool false))] ⟨gA 42 (by kernel_rfl) (by kernel_rfl), trivial⟩ (some 89) (fun _ => by kernel_rfl) (by kernel_rfl) rfl
         ·exact Owe.skip (by kernel_rfl) [(83, (.bool false))] ⟨gA 42 (by kernel_rfl) (by kernel_rfl), trivial⟩ (some 90) (fun _ => by kernel_rfl) (by kernel_rfl) rfl
         ·exact Owe.run (by kernel_rfl) [(83, (.bool false)), (90, undef)] ⟨gA 42 (by kernel_rfl) (by kernel_rfl), gA 49 (by kernel_rfl) (by kernel_rfl), trivial⟩ (.bool false) (fun _ _ => by kernel_rfl) rfl
         ·exact Owe.run (by kernel_rfl) [(91, (.bool false))] ⟨gA 50 (by kernel_rfl) (by kernel_rfl), trivial⟩ (.bool false) (fun _ _ => by kernel_rfl) rfl
         ·intro ρ' w' hs hf hP
          obtain ⟨hvl1556, hs1553⟩ := hP
          obtain ⟨q1554, q1555, -⟩ := hvl1556
          have e6 := hf 51 6 (by kernel_rfl)
          refine postKnown [(6, (.bool false))] ⟨e6, trivial⟩ ?_
          obtain ⟨w1557, hww1557⟩ : ∃ x, w' = x := ⟨_, rfl⟩
          rw [hww1557] at hs1553 ⊢
          exact ⟨false, ⟨(by kernel_rfl), trivial⟩, SP.sel hs1553 [] rfl rfl, H⟩
       ·have H := cf H hb891
        refine At.stages (by kernel_rfl) (by kernel_rfl) (by kernel_rfl) (by kernel_rfl) (by kernel_rfl) [GEq (.bool z9), GEq (.bool z9), GEq (.string ⟨List.toArray p1⟩), GEq (.bool z876), GEq (.string ⟨List.toArray p1⟩), GEq (.bool z882), GEq (.bool (z876 == z882)), GEq (.bool (z876 == z882)), GEq (.bool (z876 == z882)), GEq (.int .u32 z16.1), GEq (.int .u32 z22.1), GEq (.bool (z16.1 == z22.1)), GEq (.bool (z16.1 == z22.1)), GEq (.bool (z16.1 == z22.1)), GEq (.bool z16.2), GEq (.bool z22.2), GEq (.bool (z16.2 == z22.2)), GEq (.bool (z16.2 == z22.2)), GEq (.bool (z16.2 == z22.2)), GEq (.agg #[(.int .u32 z28.1), (.int .i64 z28.2.1)]), GEq (.agg #[(.int .u32 z41.1), (.int .i64 z41.2.1)]), GEq (.bool ((z28.1 == z41.1) && (z28.2.1 == z41.2.1))), GEq (.bool ((z28.1 == z41.1) && (z28.2.1 == z41.2.1))), GEq (.bool ((z28.1 == z41.1) && (z28.2.1 == z41.2.1))), GEq undef, GEq undef, GEq undef, GEq (.bool false), GEq (.bool false), GEq undef, GEq undef, GEq undef, GEq undef, GEq undef, GEq (.bool false), GEq (.bool false), GEq undef, GEq undef, GEq undef, GEq undef, GEq undef, GEq (.bool false), GEq (.bool false), GEq undef, GEq undef, GEq undef, GEq undef, GEq undef, GEq undef, GEq undef, GEq (.bool false), GEq (.bool false)] [3, 5] [([], fun vs w => VL vs [] ∧ SP [] w0 w [boxE g5 24 #[(.int .u32 pAddr3), (.int .i64 pBits4)], boxE g34 24 #[(.int .u32 z28.1), (.int .i64 z28.2.1)], boxE g47 24 #[(.int .u32 z41.1), (.int .i64 z41.2.1)]]), ([3], fun vs w => VL vs [(.bool z876)] ∧ SP [] w0 w [boxE g5 24 #[(.int .u32 pAddr3), (.int .i64 pBits4)], boxE g34 24 #[(.int .u32 z28.1), (.int .i64 z28.2.1)], boxE g47 24 #[(.int .u32 z41.1), (.int .i64 z41.2.1)]]), ([3, 5], fun vs w => VL vs [(.bool z876), (.bool z882)] ∧ SP [] w0 w [boxE g5 24 #[(.int .u32 pAddr3), (.int .i64 pBits4)], boxE g34 24 #[(.int .u32 z28.1), (.int .i64 z28.2.1)], boxE g47 24 #[(.int .u32 z41.1), (.int .i64 z41.2.1)]])] (N := 52) (by kernel_rfl) ⟨by kernel_rfl, Nat.zero_lt_succ _⟩ (show VL [] [] ∧ SP [] w0 w51.drew [boxE g5 24 #[(.int .u32 pAddr3), (.int .i64 pBits4)], boxE g34 24 #[(.int .u32 z28.1), (.int .i64 z28.2.1)], boxE g47 24 #[(.int .u32 z41.1), (.int .i64 z41.2.1)]] from ⟨trivial, SP.drew hs53⟩) ⟨⟨⟨⟨⟨⟨⟨⟨⟨⟨⟨⟨⟨⟨⟨⟨⟨⟨⟨⟨⟨⟨⟨⟨⟨⟨⟨⟨⟨⟨⟨⟨⟨⟨⟨⟨⟨⟨⟨⟨⟨⟨⟨⟨⟨⟨⟨⟨⟨⟨⟨⟨trivial, ?_⟩, ?_⟩, ?_⟩, ?_⟩, ?_⟩, ?_⟩, ?_⟩, ?_⟩, ?_⟩, ?_⟩, ?_⟩, ?_⟩, ?_⟩, ?_⟩, ?_⟩, ?_⟩, ?_⟩, ?_⟩, ?_⟩, ?_⟩, ?_⟩, ?_⟩, ?_⟩, ?_⟩, ?_⟩, ?_⟩, ?_⟩, ?_⟩, ?_⟩, ?_⟩, ?_⟩, ?_⟩, ?_⟩, ?_⟩, ?_⟩, ?_⟩, ?_⟩, ?_⟩, ?_⟩, ?_⟩, ?_⟩, ?_⟩, ?_⟩, ?_⟩, ?_⟩, ?_⟩, ?_⟩, ?_⟩, ?_⟩, ?_⟩, ?_⟩, ?_⟩ (last := 2) (by kernel_rfl) ?_
        ·exact Owe.run (by kernel_rfl) [(7, (.bool z9))] ⟨gS (by kernel_rfl) (by kernel_rfl), trivial⟩ (.bool z9) (fun _ _ => by kernel_rfl) rfl
        ·exact Owe.run (by kernel_rfl) [(41, (.bool z9))] ⟨gA 0 (by kernel_rfl) (by kernel_rfl), trivial⟩ (.bool z9) (fun _ _ => by kernel_rfl) rfl
        ·exact Owe.run (by kernel_rfl) [(0, (.string ⟨List.toArray p1⟩)), (42, (.bool true))] ⟨gS (by kernel_rfl) (by kernel_rfl), gB 1 (by kernel_rfl) z9 (by kernel_rfl) hb875, trivial⟩ (.string ⟨List.toArray p1⟩) (fun _ _ => by kernel_rfl) rfl
        ·refine Owe.heavy (by kernel_rfl) [(0, 1)] (by kernel_rfl) (all_cons ⟨by kernel_rfl, by kernel_rfl, ?_⟩ all_nil)
         ·intro ρ' w' hs hah hP
          obtain ⟨hvl1571, hs1570⟩ := hP
          have e43 := hah 2 43 (by kernel_rfl)
          have e42 := hah 1 42 (by kernel_rfl)
          have hkn : Known ρ' [(43, (.string ⟨List.toArray p1⟩)), (42, (.bool true))] := ⟨e43, (Eq.trans e42 (congrArg Value.bool hb875)), trivial⟩
          refine Step.known _ hkn ?_
          refine Step.callF (f := 15) (fo := (.func 15)) (xs := #[(.tmp 43)]) (tys := #[9]) (first := #[]) (captured := #[]) (d := (some 44)) (k := 3) (by kernel_rfl) rfl (by kernel_rfl) (by kernel_rfl) Tryd.call15 (L_syntax_Name_walk  p1 w'  z876 hz877) ?_
          rintro e w1572 ⟨rfl, hs1573⟩
          refine ⟨_, rfl, ?_⟩
          have hs1574 := SP.call hs1570 hs1573
          clear hs1573
          have hs1575 : SP [] w0 w1572 [boxE g5 24 #[(.int .u32 pAddr3), (.int .i64 pBits4)], boxE g34 24 #[(.int .u32 z28.1), (.int .i64 z28.2.1)], boxE g47 24 #[(.int .u32 z41.1), (.int .i64 z41.2.1)]] := hs1574
          clear hs1574
          refine ⟨_, updO_known hkn, rfl, ?_⟩
          exact (And.intro (And.intro rfl (trivial)) (hs1575))
        ·exact Owe.run (by kernel_rfl) [(0, (.string ⟨List.toArray p1⟩)), (42, (.bool true))] ⟨gS (by kernel_rfl) (by kernel_rfl), gB 1 (by kernel_rfl) z9 (by kernel_rfl) hb875, trivial⟩ (.string ⟨List.toArray p1⟩) (fun _ _ => by kernel_rfl) rfl
        ·refine Owe.heavy (by kernel_rfl) [(1, 2)] (by kernel_rfl) (all_cons ⟨by kernel_rfl, by kernel_rfl, ?_⟩ all_nil)
         ·intro ρ' w' hs hah hP
          obtain ⟨hvl1578, hs1576⟩ := hP
          obtain ⟨q1577, -⟩ := hvl1578
          have e45 := hah 4 45 (by kernel_rfl)
          have e42 := hah 1 42 (by kernel_rfl)
          have hkn : Known ρ' [(45, (.string ⟨List.toArray p1⟩)), (42, (.bool true))] := ⟨e45, (Eq.trans e42 (congrArg Value.bool hb875)), trivial⟩
          refine Step.known _ hkn ?_
          refine Step.callF (f := 16) (fo := (.func 16)) (xs := #[(.tmp 45)]) (tys := #[9]) (first := #[]) (captured := #[]) (d := (some 46)) (k := 5) (by kernel_rfl) rfl (by kernel_rfl) (by kernel_rfl) Tryd.call16 (L_subwayref04_Name_walk  p1 w'  z882 hz883) ?_
          rintro e w1579 ⟨rfl, hs1580⟩
          refine ⟨_, rfl, ?_⟩
          have hs1581 := SP.call hs1576 hs1580
          clear hs1580
          have hs1582 : SP [] w0 w1579 [boxE g5 24 #[(.int .u32 pAddr3), (.int .i64 pBits4)], boxE g34 24 #[(.int .u32 z28.1), (.int .i64 z28.2.1)], boxE g47 24 #[(.int .u32 z41.1), (.int .i64 z41.2.1)]] := hs1581
          clear hs1581
          refine ⟨_, updO_known hkn, rfl, ?_⟩
          exact (And.intro (And.intro q1577 (And.intro rfl (trivial))) (hs1582))
        ·exact Owe.run (by kernel_rfl) [(44, (.bool z876)), (46, (.bool z882)), (42, (.bool true))] ⟨gA 3 (by kernel_rfl) (by kernel_rfl), gA 5 (by kernel_rfl) (by kernel_rfl), gB 1 (by kernel_rfl) z9 (by kernel_rfl) hb875, trivial⟩ (.bool (z876 == z882)) (fun _ _ => by kernel_rfl) rfl
        ·exact Owe.run (by kernel_rfl) [(42, (.bool true)), (47, (.bool (z876 == z882)))] ⟨gB 1 (by kernel_rfl) z9 (by kernel_rfl) hb875, gA 6 (by kernel_rfl) (by kernel_rfl), trivial⟩ (.bool (z876 == z882)) (fun _ _ => by kernel_rfl) rfl
        ·exact Owe.run (by kernel_rfl) [(48, (.bool (z876 == z882)))] ⟨gA 7 (by kernel_rfl) (by kernel_rfl), trivial⟩ (.bool (z876 == z882)) (fun _ _ => by kernel_rfl) rfl
        ·exact Owe.run (by kernel_rfl) [(8, (.int .u32 z16.1)), (49, (.bool true))] ⟨gS (by kernel_rfl) (by kernel_rfl), gB 8 (by kernel_rfl) (z876 == z882) (by kernel_rfl) hb888, trivial⟩ (.int .u32 z16.1) (fun _ _ => by kernel_rfl) rfl
        ·exact Owe.run (by kernel_rfl) [(10, (.int .u32 z22.1)), (49, (.bool true))] ⟨gS (by kernel_rfl) (by kernel_rfl), gB 8 (by kernel_rfl) (z876 == z882) (by kernel_rfl) hb888, trivial⟩ (.int .u32 z22.1) (fun _ _ => by kernel_rfl) rfl
        ·exact Owe.run (by kernel_rfl) [(50, (.int .u32 z16.1)), (51, (.int .u32 z22.1)), (49, (.bool true))] ⟨gA 9 (by kernel_rfl) (by kernel_rfl), gA 10 (by kernel_rfl) (by kernel_rfl), gB 8 (by kernel_rfl) (z876 == z882) (by kernel_rfl) hb888, trivial⟩ (.bool (z16.1 == z22.1)) (fun _ _ => by kernel_rfl) rfl
        ·exact Owe.run (by kernel_rfl) [(49, (.bool true)), (52, (.bool (z16.1 == z22.1)))] ⟨gB 8 (by kernel_rfl) (z876 == z882) (by kernel_rfl) hb888, gA 11 (by kernel_rfl) (by kernel_rfl), trivial⟩ (.bool (z16.1 == z22.1)) (fun _ _ => by kernel_rfl) rfl
        ·exact Owe.run (by kernel_rfl) [(53, (.bool (z16.1 == z22.1)))] ⟨gA 12 (by kernel_rfl) (by kernel_rfl), trivial⟩ (.bool (z16.1 == z22.1)) (fun _ _ => by kernel_rfl) rfl
        ·exact Owe.run (by kernel_rfl) [(9, (.bool z16.2)), (54, (.bool true))] ⟨gS (by kernel_rfl) (by kernel_rfl), gB 13 (by kernel_rfl) (z16.1 == z22.1) (by kernel_rfl) hb889, trivial⟩ (.bool z16.2) (fun _ _ => by kernel_rfl) rfl
        ·exact Owe.run (by kernel_rfl) [(11, (.bool z22.2)), (54, (.bool true))] ⟨gS (by kernel_rfl) (by kernel_rfl), gB 13 (by kernel_rfl) (z16.1 == z22.1) (by kernel_rfl) hb889, trivial⟩ (.bool z22.2) (fun _ _ => by kernel_rfl) rfl
        ·exact Owe.run (by kernel_rfl) [(55, (.bool z16.2)), (56, (.bool z22.2)), (54, (.bool true))] ⟨gA 14 (by kernel_rfl) (by kernel_rfl), gA 15 (by kernel_rfl) (by kernel_rfl), gB 13 (by kernel_rfl) (z16.1 == z22.1) (by kernel_rfl) hb889, trivial⟩ (.bool (z16.2 == z22.2)) (fun _ _ => by kernel_rfl) rfl
        ·exact Owe.run (by kernel_rfl) [(54, (.bool true)), (57, (.bool (z16.2 == z22.2)))] ⟨gB 13 (by kernel_rfl) (z16.1 == z22.1) (by kernel_rfl) hb889, gA 16 (by kernel_rfl) (by kernel_rfl), trivial⟩ (.bool (z16.2 == z22.2)) (fun _ _ => by kernel_rfl) rfl
        ·exact Owe.run (by kernel_rfl) [(58, (.bool (z16.2 == z22.2)))] ⟨gA 17 (by kernel_rfl) (by kernel_rfl), trivial⟩ (.bool (z16.2 == z22.2)) (fun _ _ => by kernel_rfl) rfl
        ·refine Owe.light (by kernel_rfl) [2] (by kernel_rfl) (all_cons ?_ all_nil)
         ·intro ρ' w' hs hah hP
          obtain ⟨hvl1586, hs1583⟩ := hP
          obtain ⟨q1584, q1585, -⟩ := hvl1586
          have e12 : ρ' 12 = (.pointer (some ⟨g34, 0, none⟩)) := (hs 12 (by kernel_rfl)).trans (by kernel_rfl)
          have e59 := hah 18 59 (by kernel_rfl)
          have hkn : Known ρ' [(12, (.pointer (some ⟨g34, 0, none⟩))), (59, (.bool true))] := ⟨e12, (Eq.trans e59 (congrArg Value.bool hb890)), trivial⟩
          refine Step.known _ hkn ?_
          refine Step.load (t := 24) (x := (.tmp 12)) (g := g34) (off := 0) (i := 1) (v := (.agg #[(.int .u32 z28.1), (.int .i64 z28.2.1)])) (d := (some 60)) (k := 19) (by kernel_rfl) rfl (by kernel_rfl) hs1583 rfl (by kernel_rfl) ?_
          exact ⟨rfl, _, updO_known hkn, rfl⟩
        ·refine Owe.light (by kernel_rfl) [2] (by kernel_rfl) (all_cons ?_ all_nil)
         ·intro ρ' w' hs hah hP
          obtain ⟨hvl1590, hs1587⟩ := hP
          obtain ⟨q1588, q1589, -⟩ := hvl1590
          have e14 : ρ' 14 = (.pointer (some ⟨g47, 0, none⟩)) := (hs 14 (by kernel_rfl)).trans (by kernel_rfl)
          have e59 := hah 18 59 (by kernel_rfl)
          have hkn : Known ρ' [(14, (.pointer (some ⟨g47, 0, none⟩))), (59, (.bool true))] := ⟨e14, (Eq.trans e59 (congrArg Value.bool hb890)), trivial⟩
          refine Step.known _ hkn ?_
          refine Step.load (t := 24) (x := (.tmp 14)) (g := g47) (off := 0) (i := 2) (v := (.agg #[(.int .u32 z41.1), (.int .i64 z41.2.1)])) (d := (some 61)) (k := 20) (by kernel_rfl) rfl (by kernel_rfl) hs1587 rfl (by kernel_rfl) ?_
          exact ⟨rfl, _, updO_known hkn, rfl⟩
        ·refine Owe.light (by kernel_rfl) [2] (by kernel_rfl) (all_cons ?_ all_nil)
         ·intro ρ' w' hs hah hP
          obtain ⟨hvl1594, hs1591⟩ := hP
          obtain ⟨q1592, q1593, -⟩ := hvl1594
          have e60 := hah 19 60 (by kernel_rfl)
          have e61 := hah 20 61 (by kernel_rfl)
          have e59 := hah 18 59 (by kernel_rfl)
          have hkn : Known ρ' [(60, (.agg #[(.int .u32 z28.1), (.int .i64 z28.2.1)])), (61, (.agg #[(.int .u32 z41.1), (.int .i64 z41.2.1)])), (59, (.bool true))] := ⟨e60, e61, (Eq.trans e59 (congrArg Value.bool hb890)), trivial⟩
          refine Step.known _ hkn ?_
          refine Step.bin (op := .eql) (T := 24) (T' := 24) (x := (.tmp 60)) (y := (.tmp 61)) (vx := (.agg #[(.int .u32 z28.1), (.int .i64 z28.2.1)])) (vy := (.agg #[(.int .u32 z41.1), (.int .i64 z41.2.1)])) (v := (.bool ((z28.1 == z41.1) && (z28.2.1 == z41.2.1)))) (d := (some 62)) (k := 21) (by kernel_rfl) rfl (by kernel_rfl) (by kernel_rfl) (by clear H; intro w; simp only [beq_dec]; go_simp; simp only [struct_ifn, struct_ifn0, struct_if, beq_dec, Bool.and_true] <;> simp only [Bool.not_and]) ?_
          exact ⟨rfl, _, updO_known hkn, rfl⟩
        ·exact Owe.run (by kernel_rfl) [(59, (.bool true)), (62, (.bool ((z28.1 == z41.1) && (z28.2.1 == z41.2.1))))] ⟨gB 18 (by kernel_rfl) (z16.2 == z22.2) (by kernel_rfl) hb890, gA 21 (by kernel_rfl) (by kernel_rfl), trivial⟩ (.bool ((z28.1 == z41.1) && (z28.2.1 == z41.2.1))) (fun _ _ => by kernel_rfl) rfl
        ·exact Owe.run (by kernel_rfl) [(63, (.bool ((z28.1 == z41.1) && (z28.2.1 == z41.2.1))))] ⟨gA 22 (by kernel_rfl) (by kernel_rfl), trivial⟩ (.bool ((z28.1 == z41.1) && (z28.2.1 == z41.2.1))) (fun _ _ => by kernel_rfl) rfl
        ·exact Owe.skip (by kernel_rfl) [(64, (.bool false))] ⟨gB 23 (by kernel_rfl) ((z28.1 == z41.1) && (z28.2.1 == z41.2.1)) (by kernel_rfl) hb891, trivial⟩ (some 65) (fun _ => by kernel_rfl) (by kernel_rfl) rfl
        ·exact Owe.skip (by kernel_rfl) [(64, (.bool false))] ⟨gB 23 (by kernel_rfl) ((z28.1 == z41.1) && (z28.2.1 == z41.2.1)) (by kernel_rfl) hb891, trivial⟩ (some 66) (fun _ => by kernel_rfl) (by kernel_rfl) rfl
        ·exact Owe.skip (by kernel_rfl) [(64, (.bool false))] ⟨gB 23 (by kernel_rfl) ((z28.1 == z41.1) && (z28.2.1 == z41.2.1)) (by kernel_rfl) hb891, trivial⟩ (some 67) (fun _ => by kernel_rfl) (by kernel_rfl) rfl
        ·exact Owe.run (by kernel_rfl) [(64, (.bool false)), (67, undef)] ⟨gB 23 (by kernel_rfl) ((z28.1 == z41.1) && (z28.2.1 == z41.2.1)) (by kernel_rfl) hb891, gA 26 (by kernel_rfl) (by kernel_rfl), trivial⟩ (.bool false) (fun _ _ => by kernel_rfl) rfl
        ·exact Owe.run (by kernel_rfl) [(68, (.bool false))] ⟨gA 27 (by kernel_rfl) (by kernel_rfl), trivial⟩ (.bool false) (fun _ _ => by kernel_rfl) rfl
        ·exact Owe.skip (by kernel_rfl) [(69, (.bool false))] ⟨gA 28 (by kernel_rfl) (by kernel_rfl), trivial⟩ (some 70) (fun _ => by kernel_rfl) (by kernel_rfl) rfl
        ·exact Owe.skip (by kernel_rfl) [(69, (.bool false))] ⟨gA 28 (by kernel_rfl) (by kernel_rfl), trivial⟩ (some 71) (fun _ => by kernel_rfl) (by kernel_rfl) rfl
        ·exact Owe.skip (by kernel_rfl) [(69, (.bool false))] ⟨gA 28 (by kernel_rfl) (by kernel_rfl), trivial⟩ (some 72) (fun _ => by kernel_rfl) (by kernel_rfl) rfl
        ·exact Owe.skip (by kernel_rfl) [(69, (.bool false))] ⟨gA 28 (by kernel_rfl) (by kernel_rfl), trivial⟩ (some 73) (fun _ => by kernel_rfl) (by kernel_rfl) rfl
        ·exact Owe.skip (by kernel_rfl) [(69, (.bool false))] ⟨gA 28 (by kernel_rfl) (by kernel_rfl), trivial⟩ (some 74) (fun _ => by kernel_rfl) (by kernel_rfl) rfl
        ·exact Owe.run (by kernel_rfl) [(69, (.bool false)), (74, undef)] ⟨gA 28 (by kernel_rfl) (by kernel_rfl), gA 33 (by kernel_rfl) (by kernel_rfl), trivial⟩ (.bool false) (fun _ _ => by kernel_rfl) rfl
        ·exact Owe.run (by kernel_rfl) [(75, (.bool false))] ⟨gA 34 (by kernel_rfl) (by kernel_rfl), trivial⟩ (.bool false) (fun _ _ => by kernel_rfl) rfl
        ·exact Owe.skip (by kernel_rfl) [(76, (.bool false))] ⟨gA 35 (by kernel_rfl) (by kernel_rfl), trivial⟩ (some 77) (fun _ => by kernel_rfl) (by kernel_rfl) rfl
        ·exact Owe.skip (by kernel_rfl) [(76, (.bool false))] ⟨gA 35 (by kernel_rfl) (by kernel_rfl), trivial⟩ (some 78) (fun _ => by kernel_rfl) (by kernel_rfl) rfl
        ·exact Owe.skip (by kernel_rfl) [(76, (.bool false))] ⟨gA 35 (by kernel_rfl) (by kernel_rfl), trivial⟩ (some 79) (fun _ => by kernel_rfl) (by kernel_rfl) rfl
        ·exact Owe.skip (by kernel_rfl) [(76, (.bool false))] ⟨gA 35 (by kernel_rfl) (by kernel_rfl), trivial⟩ (some 80) (fun _ => by kernel_rfl) (by kernel_rfl) rfl
        ·exact Owe.skip (by kernel_rfl) [(76, (.bool false))] ⟨gA 35 (by kernel_rfl) (by kernel_rfl), trivial⟩ (some 81) (fun _ => by kernel_rfl) (by kernel_rfl) rfl
        ·exact Owe.run (by kernel_rfl) [(76, (.bool false)), (81, undef)] ⟨gA 35 (by kernel_rfl) (by kernel_rfl), gA 40 (by kernel_rfl) (by kernel_rfl), trivial⟩ (.bool false) (fun _ _ => by kernel_rfl) rfl
        ·exact Owe.run (by kernel_rfl) [(82, (.bool false))] ⟨gA 41 (by kernel_rfl) (by kernel_rfl), trivial⟩ (.bool false) (fun _ _ => by kernel_rfl) rfl
        ·exact Owe.skip (by kernel_rfl) [(83, (.bool false))] ⟨gA 42 (by kernel_rfl) (by kernel_rfl), trivial⟩ (some 84) (fun _ => by kernel_rfl) (by kernel_rfl) rfl
        ·exact Owe.skip (by kernel_rfl) [(83, (.bool false))] ⟨gA 42 (by kernel_rfl) (by kernel_rfl), trivial⟩ (some 85) (fun _ => by kernel_rfl) (by kernel_rfl) rfl
        ·exact Owe.skip (by kernel_rfl) [(83, (.bool false))] ⟨gA 42 (by kernel_rfl) (by kernel_rfl), trivial⟩ (some 86) (fun _ => by kernel_rfl) (by kernel_rfl) rfl
        ·exact Owe.skip (by kernel_rfl) [(83, (.bool false))] ⟨gA 42 (by kernel_rfl) (by kernel_rfl), trivial⟩ (some 87) (fun _ => by kernel_rfl) (by kernel_rfl) rfl
        ·exact Owe.skip (by kernel_rfl) [(83, (.bool false))] ⟨gA 42 (by kernel_rfl) (by kernel_rfl), trivial⟩ (some 88) (fun _ => by kernel_rfl) (by kernel_rfl) rfl
        ·exact Owe.skip (by kernel_rfl) [(83, (.bool false))] ⟨gA 42 (by kernel_rfl) (by kernel_rfl), trivial⟩ (some 89) (fun _ => by kernel_rfl) (by kernel_rfl) rfl
        ·exact Owe.skip (by kernel_rfl) [(83, (.bool false))] ⟨gA 42 (by kernel_rfl) (by kernel_rfl), trivial⟩ (some 90) (fun _ => by kernel_rfl) (by kernel_rfl) rfl
        ·exact Owe.run (by kernel_rfl) [(83, (.bool false)), (90, undef)] ⟨gA 42 (by kernel_rfl) (by kernel_rfl), gA 49 (by kernel_rfl) (by kernel_rfl), trivial⟩ (.bool false) (fun _ _ => by kernel_rfl) rfl
        ·exact Owe.run (by kernel_rfl) [(91, (.bool false))] ⟨gA 50 (by kernel_rfl) (by kernel_rfl), trivial⟩ (.bool false) (fun _ _ => by kernel_rfl) rfl
        ·intro ρ' w' hs hf hP
         obtain ⟨hvl1598, hs1595⟩ := hP
         obtain ⟨q1596, q1597, -⟩ := hvl1598
         have e6 := hf 51 6 (by kernel_rfl)
         refine postKnown [(6, (.bool false))] ⟨e6, trivial⟩ ?_
         obtain ⟨w1599, hww1599⟩ : ∃ x, w' = x := ⟨_, rfl⟩
         rw [hww1599] at hs1595 ⊢
         exact ⟨false, ⟨(by kernel_rfl), trivial⟩, SP.sel hs1595 [] rfl rfl, H⟩
      ·have H := cf H hb890
       refine At.stages (by kernel_rfl) (by kernel_rfl) (by kernel_rfl) (by kernel_rfl) (by kernel_rfl) [GEq (.bool z9), GEq (.bool z9), GEq (.string ⟨List.toArray p1⟩), GEq (.bool z876), GEq (.string ⟨List.toArray p1⟩), GEq (.bool z882), GEq (.bool (z876 == z882)), GEq (.bool (z876 == z882)), GEq (.bool (z876 == z882)), GEq (.int .u32 z16.1), GEq (.int .u32 z22.1), GEq (.bool (z16.1 == z22.1)), GEq (.bool (z16.1 == z22.1)), GEq (.bool (z16.1 == z22.1)), GEq (.bool z16.2), GEq (.bool z22.2), GEq (.bool (z16.2 == z22.2)), GEq (.bool (z16.2 == z22.2)), GEq (.bool (z16.2 == z22.2)), GEq undef, GEq undef, GEq undef, GEq (.bool false), GEq (.bool false), GEq undef, GEq undef, GEq undef, GEq (.bool false), GEq (.bool false), GEq undef, GEq undef, GEq undef, GEq undef, GEq undef, GEq (.bool false), GEq (.bool false), GEq undef, GEq undef, GEq undef, GEq undef, GEq undef, GEq (.bool false), GEq (.bool false), GEq undef, GEq undef, GEq undef, GEq undef, GEq undef, GEq undef, GEq undef, GEq (.bool false), GEq (.bool false)] [3, 5] [([], fun vs w => VL vs [] ∧ SP [] w0 w [boxE g5 24 #[(.int .u32 pAddr3), (.int .i64 pBits4)], boxE g34 24 #[(.int .u32 z28.1), (.int .i64 z28.2.1)], boxE g47 24 #[(.int .u32 z41.1), (.int .i64 z41.2.1)]]), ([3], fun vs w => VL vs [(.bool z876)] ∧ SP [] w0 w [boxE g5 24 #[(.int .u32 pAddr3), (.int .i64 pBits4)], boxE g34 24 #[(.int .u32 z28.1), (.int .i64 z28.2.1)], boxE g47 24 #[(.int .u32 z41.1), (.int .i64 z41.2.1)]]), ([3, 5], fun vs w => VL vs [(.bool z876), (.bool z882)] ∧ SP [] w0 w [boxE g5 24 #[(.int .u32 pAddr3), (.int .i64 pBits4)], boxE g34 24 #[(.int .u32 z28.1), (.int .i64 z28.2.1)], boxE g47 24 #[(.int .u32 z41.1), (.int .i64 z41.2.1)]])] (N := 52) (by kernel_rfl) ⟨by kernel_rfl, Nat.zero_lt_succ _⟩ (show VL [] [] ∧ SP [] w0 w51.drew [boxE g5 24 #[(.int .u32 pAddr3), (.int .i64 pBits4)], boxE g34 24 #[(.int .u32 z28.1), (.int .i64 z28.2.1)], boxE g47 24 #[(.int .u32 z41.1), (.int .i64 z41.2.1)]] from ⟨trivial, SP.drew hs53⟩) ⟨⟨⟨⟨⟨⟨⟨⟨⟨⟨⟨⟨⟨⟨⟨⟨⟨⟨⟨⟨⟨⟨⟨⟨⟨⟨⟨⟨⟨⟨⟨⟨⟨⟨⟨⟨⟨⟨⟨⟨⟨⟨⟨⟨⟨⟨⟨⟨⟨⟨⟨⟨trivial, ?_⟩, ?_⟩, ?_⟩, ?_⟩, ?_⟩, ?_⟩, ?_⟩, ?_⟩, ?_⟩, ?_⟩, ?_⟩, ?_⟩, ?_⟩, ?_⟩, ?_⟩, ?_⟩, ?_⟩, ?_⟩, ?_⟩, ?_⟩, ?_⟩, ?_⟩, ?_⟩, ?_⟩, ?_⟩, ?_⟩, ?_⟩, ?_⟩, ?_⟩, ?_⟩, ?_⟩, ?_⟩, ?_⟩, ?_⟩, ?_⟩, ?_⟩, ?_⟩, ?_⟩, ?_⟩, ?_⟩, ?_⟩, ?_⟩, ?_⟩, ?_⟩, ?_⟩, ?_⟩, ?_⟩, ?_⟩, ?_⟩, ?_⟩, ?_⟩, ?_⟩ (last := 2) (by kernel_rfl) ?_
       ·exact Owe.run (by kernel_rfl) [(7, (.bool z9))] ⟨gS (by kernel_rfl) (by kernel_rfl), trivial⟩ (.bool z9) (fun _ _ => by kernel_rfl) rfl
       ·exact Owe.run (by kernel_rfl) [(41, (.bool z9))] ⟨gA 0 (by kernel_rfl) (by kernel_rfl), trivial⟩ (.bool z9) (fun _ _ => by kernel_rfl) rfl
       ·exact Owe.run (by kernel_rfl) [(0, (.string ⟨List.toArray p1⟩)), (42, (.bool true))] ⟨gS (by kernel_rfl) (by kernel_rfl), gB 1 (by kernel_rfl) z9 (by kernel_rfl) hb875, trivial⟩ (.string ⟨List.toArray p1⟩) (fun _ _ => by kernel_rfl) rfl
       ·refine Owe.heavy (by kernel_rfl) [(0, 1)] (by kernel_rfl) (all_cons ⟨by kernel_rfl, by kernel_rfl, ?_⟩ all_nil)
        ·intro ρ' w' hs hah hP
         obtain ⟨hvl1613, hs1612⟩ := hP
         have e43 := hah 2 43 (by kernel_rfl)
         have e42 := hah 1 42 (by kernel_rfl)
         have hkn : Known ρ' [(43, (.string ⟨List.toArray p1⟩)), (42, (.bool true))] := ⟨e43, (Eq.trans e42 (congrArg Value.bool hb875)), trivial⟩
         refine Step.known _ hkn ?_
         refine Step.callF (f := 15) (fo := (.func 15)) (xs := #[(.tmp 43)]) (tys := #[9]) (first := #[]) (captured := #[]) (d := (some 44)) (k := 3) (by kernel_rfl) rfl (by kernel_rfl) (by kernel_rfl) Tryd.call15 (L_syntax_Name_walk  p1 w'  z876 hz877) ?_
         rintro e w1614 ⟨rfl, hs1615⟩
         refine ⟨_, rfl, ?_⟩
         have hs1616 := SP.call hs1612 hs1615
         clear hs1615
         have hs1617 : SP [] w0 w1614 [boxE g5 24 #[(.int .u32 pAddr3), (.int .i64 pBits4)], boxE g34 24 #[(.int .u32 z28.1), (.int .i64 z28.2.1)], boxE g47 24 #[(.int .u32 z41.1), (.int .i64 z41.2.1)]] := hs1616
         clear hs1616
         refine ⟨_, updO_known hkn, rfl, ?_⟩
         exact (And.intro (And.intro rfl (trivial)) (hs1617))
       ·exact Owe.run (by kernel_rfl) [(0, (.string ⟨List.toArray p1⟩)), (42, (.bool true))] ⟨gS (by kernel_rfl) (by kernel_rfl), gB 1 (by kernel_rfl) z9 (by kernel_rfl) hb875, trivial⟩ (.string ⟨List.toArray p1⟩) (fun _ _ => by kernel_rfl) rfl
       ·refine Owe.heavy (by kernel_rfl) [(1, 2)] (by kernel_rfl) (all_cons ⟨by kernel_rfl, by kernel_rfl, ?_⟩ all_nil)
        ·intro ρ' w' hs hah hP
         obtain ⟨hvl1620, hs1618⟩ := hP
         obtain ⟨q1619, -⟩ := hvl1620
         have e45 := hah 4 45 (by kernel_rfl)
         have e42 := hah 1 42 (by kernel_rfl)
         have hkn : Known ρ' [(45, (.string ⟨List.toArray p1⟩)), (42, (.bool true))] := ⟨e45, (Eq.trans e42 (congrArg Value.bool hb875)), trivial⟩
         refine Step.known _ hkn ?_
         refine Step.callF (f := 16) (fo := (.func 16)) (xs := #[(.tmp 45)]) (tys := #[9]) (first := #[]) (captured := #[]) (d := (some 46)) (k := 5) (by kernel_rfl) rfl (by kernel_rfl) (by kernel_rfl) Tryd.call16 (L_subwayref04_Name_walk  p1 w'  z882 hz883) ?_
         rintro e w1621 ⟨rfl, hs1622⟩
         refine ⟨_, rfl, ?_⟩
         have hs1623 := SP.call hs1618 hs1622
         clear hs1622
         have hs1624 : SP [] w0 w1621 [boxE g5 24 #[(.int .u32 pAddr3), (.int .i64 pBits4)], boxE g34 24 #[(.int .u32 z28.1), (.int .i64 z28.2.1)], boxE g47 24 #[(.int .u32 z41.1), (.int .i64 z41.2.1)]] := hs1623
         clear hs1623
         refine ⟨_, updO_known hkn, rfl, ?_⟩
         exact (And.intro (And.intro q1619 (And.intro rfl (trivial))) (hs1624))
       ·exact Owe.run (by kernel_rfl) [(44, (.bool z876)), (46, (.bool z882)), (42, (.bool true))] ⟨gA 3 (by kernel_rfl) (by kernel_rfl), gA 5 (by kernel_rfl) (by kernel_rfl), gB 1 (by kernel_rfl) z9 (by kernel_rfl) hb875, trivial⟩ (.bool (z876 == z882)) (fun _ _ => by kernel_rfl) rfl
       ·exact Owe.run (by kernel_rfl) [(42, (.bool true)), (47, (.bool (z876 == z882)))] ⟨gB 1 (by kernel_rfl) z9 (by kernel_rfl) hb875, gA 6 (by kernel_rfl) (by kernel_rfl), trivial⟩ (.bool (z876 == z882)) (fun _ _ => by kernel_rfl) rfl
       ·exact Owe.run (by kernel_rfl) [(48, (.bool (z876 == z882)))] ⟨gA 7 (by kernel_rfl) (by kernel_rfl), trivial⟩ (.bool (z876 == z882)) (fun _ _ => by kernel_rfl) rfl
       ·exact Owe.run (by kernel_rfl) [(8, (.int .u32 z16.1)), (49, (.bool true))] ⟨gS (by kernel_rfl) (by kernel_rfl), gB 8 (by kernel_rfl) (z876 == z882) (by kernel_rfl) hb888, trivial⟩ (.int .u32 z16.1) (fun _ _ => by kernel_rfl) rfl
       ·exact Owe.run (by kernel_rfl) [(10, (.int .u32 z22.1)), (49, (.bool true))] ⟨gS (by kernel_rfl) (by kernel_rfl), gB 8 (by kernel_rfl) (z876 == z882) (by kernel_rfl) hb888, trivial⟩ (.int .u32 z22.1) (fun _ _ => by kernel_rfl) rfl
       ·exact Owe.run (by kernel_rfl) [(50, (.int .u32 z16.1)), (51, (.int .u32 z22.1)), (49, (.bool true))] ⟨gA 9 (by kernel_rfl) (by kernel_rfl), gA 10 (by kernel_rfl) (by kernel_rfl), gB 8 (by kernel_rfl) (z876 == z882) (by kernel_rfl) hb888, trivial⟩ (.bool (z16.1 == z22.1)) (fun _ _ => by kernel_rfl) rfl
       ·exact Owe.run (by kernel_rfl) [(49, (.bool true)), (52, (.bool (z16.1 == z22.1)))] ⟨gB 8 (by kernel_rfl) (z876 == z882) (by kernel_rfl) hb888, gA 11 (by kernel_rfl) (by kernel_rfl), trivial⟩ (.bool (z16.1 == z22.1)) (fun _ _ => by kernel_rfl) rfl
       ·exact Owe.run (by kernel_rfl) [(53, (.bool (z16.1 == z22.1)))] ⟨gA 12 (by kernel_rfl) (by kernel_rfl), trivial⟩ (.bool (z16.1 == z22.1)) (fun _ _ => by kernel_rfl) rfl
       ·exact Owe.run (by kernel_rfl) [(9, (.bool z16.2)), (54, (.bool true))] ⟨gS (by kernel_rfl) (by kernel_rfl), gB 13 (by kernel_rfl) (z16.1 == z22.1) (by kernel_rfl) hb889, trivial⟩ (.bool z16.2) (fun _ _ => by kernel_rfl) rfl
       ·exact Owe.run (by kernel_rfl) [(11, (.bool z22.2)), (54, (.bool true))] ⟨gS (by kernel_rfl) (by kernel_rfl), gB 13 (by kernel_rfl) (z16.1 == z22.1) (by kernel_rfl) hb889, trivial⟩ (.bool z22.2) (fun _ _ => by kernel_rfl) rfl
       ·exact Owe.run (by kernel_rfl) [(55, (.bool z16.2)), (56, (.bool z22.2)), (54, (.bool true))] ⟨gA 14 (by kernel_rfl) (by kernel_rfl), gA 15 (by kernel_rfl) (by kernel_rfl), gB 13 (by kernel_rfl) (z16.1 == z22.1) (by kernel_rfl) hb889, trivial⟩ (.bool (z16.2 == z22.2)) (fun _ _ => by kernel_rfl) rfl
       ·exact Owe.run (by kernel_rfl) [(54, (.bool true)), (57, (.bool (z16.2 == z22.2)))] ⟨gB 13 (by kernel_rfl) (z16.1 == z22.1) (by kernel_rfl) hb889, gA 16 (by kernel_rfl) (by kernel_rfl), trivial⟩ (.bool (z16.2 == z22.2)) (fun _ _ => by kernel_rfl) rfl
       ·exact Owe.run (by kernel_rfl) [(58, (.bool (z16.2 == z22.2)))] ⟨gA 17 (by kernel_rfl) (by kernel_rfl), trivial⟩ (.bool (z16.2 == z22.2)) (fun _ _ => by kernel_rfl) rfl
       ·exact Owe.skip (by kernel_rfl) [(59, (.bool false))] ⟨gB 18 (by kernel_rfl) (z16.2 == z22.2) (by kernel_rfl) hb890, trivial⟩ (some 60) (fun _ => by kernel_rfl) (by kernel_rfl) rfl
       ·exact Owe.skip (by kernel_rfl) [(59, (.bool false))] ⟨gB 18 (by kernel_rfl) (z16.2 == z22.2) (by kernel_rfl) hb890, trivial⟩ (some 61) (fun _ => by kernel_rfl) (by kernel_rfl) rfl
       ·exact Owe.skip (by kernel_rfl) [(59, (.bool false))] ⟨gB 18 (by kernel_rfl) (z16.2 == z22.2) (by kernel_rfl) hb890, trivial⟩ (some 62) (fun _ => by kernel_rfl) (by kernel_rfl) rfl
       ·exact Owe.run (by kernel_rfl) [(59, (.bool false)), (62, undef)] ⟨gB 18 (by kernel_rfl) (z16.2 == z22.2) (by kernel_rfl) hb890, gA 21 (by kernel_rfl) (by kernel_rfl), trivial⟩ (.bool false) (fun _ _ => by kernel_rfl) rfl
       ·exact Owe.run (by kernel_rfl) [(63, (.bool false))] ⟨gA 22 (by kernel_rfl) (by kernel_rfl), trivial⟩ (.bool false) (fun _ _ => by kernel_rfl) rfl
       ·exact Owe.skip (by kernel_rfl) [(64, (.bool false))] ⟨gA 23 (by kernel_rfl) (by kernel_rfl), trivial⟩ (some 65) (fun _ => by kernel_rfl) (by kernel_rfl) rfl
       ·exact Owe.skip (by kernel_rfl) [(64, (.bool false))] ⟨gA 23 (by kernel_rfl) (by kernel_rfl), trivial⟩ (some 66) (fun _ => by kernel_rfl) (by kernel_rfl) rfl
       ·exact Owe.skip (by kernel_rfl) [(64, (.bool false))] ⟨gA 23 (by kernel_rfl) (by kernel_rfl), trivial⟩ (some 67) (fun _ => by kernel_rfl) (by kernel_rfl) rfl
       ·exact Owe.run (by kernel_rfl) [(64, (.bool false)), (67, undef)] ⟨gA 23 (by kernel_rfl) (by kernel_rfl), gA 26 (by kernel_rfl) (by kernel_rfl), trivial⟩ (.bool false) (fun _ _ => by kernel_rfl) rfl
       ·exact Owe.run (by kernel_rfl) [(68, (.bool false))] ⟨gA 27 (by kernel_rfl) (by kernel_rfl), trivial⟩ (.bool false) (fun _ _ => by kernel_rfl) rfl
       ·exact Owe.skip (by kernel_rfl) [(69, (.bool false))] ⟨gA 28 (by kernel_rfl) (by kernel_rfl), trivial⟩ (some 70) (fun _ => by kernel_rfl) (by kernel_rfl) rfl
       ·exact Owe.skip (by kernel_rfl) [(69, (.bool false))] ⟨gA 28 (by kernel_rfl) (by kernel_rfl), trivial⟩ (some 71) (fun _ => by kernel_rfl) (by kernel_rfl) rfl
       ·exact Owe.skip (by kernel_rfl) [(69, (.bool false))] ⟨gA 28 (by kernel_rfl) (by kernel_rfl), trivial⟩ (some 72) (fun _ => by kernel_rfl) (by kernel_rfl) rfl
       ·exact Owe.skip (by kernel_rfl) [(69, (.bool false))] ⟨gA 28 (by kernel_rfl) (by kernel_rfl), trivial⟩ (some 73) (fun _ => by kernel_rfl) (by kernel_rfl) rfl
       ·exact Owe.skip (by kernel_rfl) [(69, (.bool false))] ⟨gA 28 (by kernel_rfl) (by kernel_rfl), trivial⟩ (some 74) (fun _ => by kernel_rfl) (by kernel_rfl) rfl
       ·exact Owe.run (by kernel_rfl) [(69, (.bool false)), (74, undef)] ⟨gA 28 (by kernel_rfl) (by kernel_rfl), gA 33 (by kernel_rfl) (by kernel_rfl), trivial⟩ (.bool false) (fun _ _ => by kernel_rfl) rfl
       ·exact Owe.run (by kernel_rfl) [(75, (.bool false))] ⟨gA 34 (by kernel_rfl) (by kernel_rfl), trivial⟩ (.bool false) (fun _ _ => by kernel_rfl) rfl
       ·exact Owe.skip (by kernel_rfl) [(76, (.bool false))] ⟨gA 35 (by kernel_rfl) (by kernel_rfl), trivial⟩ (some 77) (fun _ => by kernel_rfl) (by kernel_rfl) rfl
       ·exact Owe.skip (by kernel_rfl) [(76, (.bool false))] ⟨gA 35 (by kernel_rfl) (by kernel_rfl), trivial⟩ (some 78) (fun _ => by kernel_rfl) (by kernel_rfl) rfl
       ·exact Owe.skip (by kernel_rfl) [(76, (.bool false))] ⟨gA 35 (by kernel_rfl) (by kernel_rfl), trivial⟩ (some 79) (fun _ => by kernel_rfl) (by kernel_rfl) rfl
       ·exact Owe.skip (by kernel_rfl) [(76, (.bool false))] ⟨gA 35 (by kernel_rfl) (by kernel_rfl), trivial⟩ (some 80) (fun _ => by kernel_rfl) (by kernel_rfl) rfl
       ·exact Owe.skip (by kernel_rfl) [(76, (.bool false))] ⟨gA 35 (by kernel_rfl) (by kernel_rfl), trivial⟩ (some 81) (fun _ => by kernel_rfl) (by kernel_rfl) rfl
       ·exact Owe.run (by kernel_rfl) [(76, (.bool false)), (81, undef)] ⟨gA 35 (by kernel_rfl) (by kernel_rfl), gA 40 (by kernel_rfl) (by kernel_rfl), trivial⟩ (.bool false) (fun _ _ => by kernel_rfl) rfl
       ·exact Owe.run (by kernel_rfl) [(82, (.bool false))] ⟨gA 41 (by kernel_rfl) (by kernel_rfl), trivial⟩ (.bool false) (fun _ _ => by kernel_rfl) rfl
       ·exact Owe.skip (by kernel_rfl) [(83, (.bool false))] ⟨gA 42 (by kernel_rfl) (by kernel_rfl), trivial⟩ (some 84) (fun _ => by kernel_rfl) (by kernel_rfl) rfl
       ·exact Owe.skip (by kernel_rfl) [(83, (.bool false))] ⟨gA 42 (by kernel_rfl) (by kernel_rfl), trivial⟩ (some 85) (fun _ => by kernel_rfl) (by kernel_rfl) rfl
       ·exact Owe.skip (by kernel_rfl) [(83, (.bool false))] ⟨gA 42 (by kernel_rfl) (by kernel_rfl), trivial⟩ (some 86) (fun _ => by kernel_rfl) (by kernel_rfl) rfl
       ·exact Owe.skip (by kernel_rfl) [(83, (.bool false))] ⟨gA 42 (by kernel_rfl) (by kernel_rfl), trivial⟩ (some 87) (fun _ => by kernel_rfl) (by kernel_rfl) rfl
       ·exact Owe.skip (by kernel_rfl) [(83, (.bool false))] ⟨gA 42 (by kernel_rfl) (by kernel_rfl), trivial⟩ (some 88) (fun _ => by kernel_rfl) (by kernel_rfl) rfl
       ·exact Owe.skip (by kernel_rfl) [(83, (.bool false))] ⟨gA 42 (by kernel_rfl) (by kernel_rfl), trivial⟩ (some 89) (fun _ => by kernel_rfl) (by kernel_rfl) rfl
       ·exact Owe.skip (by kernel_rfl) [(83, (.bool false))] ⟨gA 42 (by kernel_rfl) (by kernel_rfl), trivial⟩ (some 90) (fun _ => by kernel_rfl) (by kernel_rfl) rfl
       ·exact Owe.run (by kernel_rfl) [(83, (.bool false)), (90, undef)] ⟨gA 42 (by kernel_rfl) (by kernel_rfl), gA 49 (by kernel_rfl) (by kernel_rfl), trivial⟩ (.bool false) (fun _ _ => by kernel_rfl) rfl
       ·exact Owe.run (by kernel_rfl) [(91, (.bool false))] ⟨gA 50 (by kernel_rfl) (by kernel_rfl), trivial⟩ (.bool false) (fun _ _ => by kernel_rfl) rfl
       ·intro ρ' w' hs hf hP
        obtain ⟨hvl1628, hs1625⟩ := hP
        obtain ⟨q1626, q1627, -⟩ := hvl1628
        have e6 := hf 51 6 (by kernel_rfl)
        refine postKnown [(6, (.bool false))] ⟨e6, trivial⟩ ?_
        obtain ⟨w1629, hww1629⟩ : ∃ x, w' = x := ⟨_, rfl⟩
        rw [hww1629] at hs1625 ⊢
        exact ⟨false, ⟨(by kernel_rfl), trivial⟩, SP.sel hs1625 [] rfl rfl, H⟩
     ·have H := cf H hb889
      refine At.stages (by kernel_rfl) (by kernel_rfl) (by kernel_rfl) (by kernel_rfl) (by kernel_rfl) [GEq (.bool z9), GEq (.bool z9), GEq (.string ⟨List.toArray p1⟩), GEq (.bool z876), GEq (.string ⟨List.toArray p1⟩), GEq (.bool z882), GEq (.bool (z876 == z882)), GEq (.bool (z876 == z882)), GEq (.bool (z876 == z882)), GEq (.int .u32 z16.1), GEq (.int .u32 z22.1), GEq (.bool (z16.1 == z22.1)), GEq (.bool (z16.1 == z22.1)), GEq (.bool (z16.1 == z22.1)), GEq undef, GEq undef, GEq undef, GEq (.bool false), GEq (.bool false), GEq undef, GEq undef, GEq undef, GEq (.bool false), GEq (.bool false), GEq undef, GEq undef, GEq undef, GEq (.bool false), GEq (.bool false), GEq undef, GEq undef, GEq undef, GEq undef, GEq undef, GEq (.bool false), GEq (.bool false), GEq undef, GEq undef, GEq undef, GEq undef, GEq undef, GEq (.bool false), GEq (.bool false), GEq undef, GEq undef, GEq undef, GEq undef, GEq undef, GEq undef, GEq undef, GEq (.bool false), GEq (.bool false)] [3, 5] [([], fun vs w => VL vs [] ∧ SP [] w0 w [boxE g5 24 #[(.int .u32 pAddr3), (.int .i64 pBits4)], boxE g34 24 #[(.int .u32 z28.1), (.int .i64 z28.2.1)], boxE g47 24 #[(.int .u32 z41.1), (.int .i64 z41.2.1)]]), ([3], fun vs w => VL vs [(.bool z876)] ∧ SP [] w0 w [boxE g5 24 #[(.int .u32 pAddr3), (.int .i64 pBits4)], boxE g34 24 #[(.int .u32 z28.1), (.int .i64 z28.2.1)], boxE g47 24 #[(.int .u32 z41.1), (.int .i64 z41.2.1)]]), ([3, 5], fun vs w => VL vs [(.bool z876), (.bool z882)] ∧ SP [] w0 w [boxE g5 24 #[(.int .u32 pAddr3), (.int .i64 pBits4)], boxE g34 24 #[(.int .u32 z28.1), (.int .i64 z28.2.1)], boxE g47 24 #[(.int .u32 z41.1), (.int .i64 z41.2.1)]])] (N := 52) (by kernel_rfl) ⟨by kernel_rfl, Nat.zero_lt_succ _⟩ (show VL [] [] ∧ SP [] w0 w51.drew [boxE g5 24 #[(.int .u32 pAddr3), (.int .i64 pBits4)], boxE g34 24 #[(.int .u32 z28.1), (.int .i64 z28.2.1)], boxE g47 24 #[(.int .u32 z41.1), (.int .i64 z41.2.1)]] from ⟨trivial, SP.drew hs53⟩) ⟨⟨⟨⟨⟨⟨⟨⟨⟨⟨⟨⟨⟨⟨⟨⟨⟨⟨⟨⟨⟨⟨⟨⟨⟨⟨⟨⟨⟨⟨⟨⟨⟨⟨⟨⟨⟨⟨⟨⟨⟨⟨⟨⟨⟨⟨⟨⟨⟨⟨⟨⟨trivial, ?_⟩, ?_⟩, ?_⟩, ?_⟩, ?_⟩, ?_⟩, ?_⟩, ?_⟩, ?_⟩, ?_⟩, ?_⟩, ?_⟩, ?_⟩, ?_⟩, ?_⟩, ?_⟩, ?_⟩, ?_⟩, ?_⟩, ?_⟩, ?_⟩, ?_⟩, ?_⟩, ?_⟩, ?_⟩, ?_⟩, ?_⟩, ?_⟩, ?_⟩, ?_⟩, ?_⟩, ?_⟩, ?_⟩, ?_⟩, ?_⟩, ?_⟩, ?_⟩, ?_⟩, ?_⟩, ?_⟩, ?_⟩, ?_⟩, ?_⟩, ?_⟩, ?_⟩, ?_⟩, ?_⟩, ?_⟩, ?_⟩, ?_⟩, ?_⟩, ?_⟩ (last := 2) (by kernel_rfl) ?_
      ·exact Owe.run (by kernel_rfl) [(7, (.bool z9))] ⟨gS (by kernel_rfl) (by kernel_rfl), trivial⟩ (.bool z9) (fun _ _ => by kernel_rfl) rfl
      ·exact Owe.run (by kernel_rfl) [(41, (.bool z9))] ⟨gA 0 (by kernel_rfl) (by kernel_rfl), trivial⟩ (.bool z9) (fun _ _ => by kernel_rfl) rfl
      ·exact Owe.run (by kernel_rfl) [(0, (.string ⟨List.toArray p1⟩)), (42, (.bool true))] ⟨gS (by kernel_rfl) (by kernel_rfl), gB 1 (by kernel_rfl) z9 (by kernel_rfl) hb875, trivial⟩ (.string ⟨List.toArray p1⟩) (fun _ _ => by kernel_rfl) rfl
      ·refine Owe.heavy (by kernel_rfl) [(0, 1)] (by kernel_rfl) (all_cons ⟨by kernel_rfl, by kernel_rfl, ?_⟩ all_nil)
       ·intro ρ' w' hs hah hP
        obtain ⟨hvl1643, hs1642⟩ := hP
        have e43 := hah 2 43 (by kernel_rfl)
        have e42 := hah 1 42 (by kernel_rfl)
        have hkn : Known ρ' [(43, (.string ⟨List.toArray p1⟩)), (42, (.bool true))] := ⟨e43, (Eq.trans e42 (congrArg Value.bool hb875)), trivial⟩
        refine Step.known _ hkn ?_
        refine Step.callF (f := 15) (fo := (.func 15)) (xs := #[(.tmp 43)]) (tys := #[9]) (first := #[]) (captured := #[]) (d := (some 44)) (k := 3) (by kernel_rfl) rfl (by kernel_rfl) (by kernel_rfl) Tryd.call15 (L_syntax_Name_walk  p1 w'  z876 hz877) ?_
        rintro e w1644 ⟨rfl, hs1645⟩
        refine ⟨_, rfl, ?_⟩
        have hs1646 := SP.call hs1642 hs1645
        clear hs1645
        have hs1647 : SP [] w0 w1644 [boxE g5 24 #[(.int .u32 pAddr3), (.int .i64 pBits4)], boxE g34 24 #[(.int .u32 z28.1), (.int .i64 z28.2.1)], boxE g47 24 #[(.int .u32 z41.1), (.int .i64 z41.2.1)]] := hs1646
        clear hs1646
        refine ⟨_, updO_known hkn, rfl, ?_⟩
        exact (And.intro (And.intro rfl (trivial)) (hs1647))
      ·exact Owe.run (by kernel_rfl) [(0, (.string ⟨List.toArray p1⟩)), (42, (.bool true))] ⟨gS (by kernel_rfl) (by kernel_rfl), gB 1 (by kernel_rfl) z9 (by kernel_rfl) hb875, trivial⟩ (.string ⟨List.toArray p1⟩) (fun _ _ => by kernel_rfl) rfl
      ·refine Owe.heavy (by kernel_rfl) [(1, 2)] (by kernel_rfl) (all_cons ⟨by kernel_rfl, by kernel_rfl, ?_⟩ all_nil)
       ·intro ρ' w' hs hah hP
        obtain ⟨hvl1650, hs1648⟩ := hP
        obtain ⟨q1649, -⟩ := hvl1650
        have e45 := hah 4 45 (by kernel_rfl)
        have e42 := hah 1 42 (by kernel_rfl)
        have hkn : Known ρ' [(45, (.string ⟨List.toArray p1⟩)), (42, (.bool true))] := ⟨e45, (Eq.trans e42 (congrArg Value.bool hb875)), trivial⟩
        refine Step.known _ hkn ?_
        refine Step.callF (f := 16) (fo := (.func 16)) (xs := #[(.tmp 45)]) (tys := #[9]) (first := #[]) (captured := #[]) (d := (some 46)) (k := 5) (by kernel_rfl) rfl (by kernel_rfl) (by kernel_rfl) Tryd.call16 (L_subwayref04_Name_walk  p1 w'  z882 hz883) ?_
        rintro e w1651 ⟨rfl, hs1652⟩
        refine ⟨_, rfl, ?_⟩
        have hs1653 := SP.call hs1648 hs1652
        clear hs1652
        have hs1654 : SP [] w0 w1651 [boxE g5 24 #[(.int .u32 pAddr3), (.int .i64 pBits4)], boxE g34 24 #[(.int .u32 z28.1), (.int .i64 z28.2.1)], boxE g47 24 #[(.int .u32 z41.1), (.int .i64 z41.2.1)]] := hs1653
        clear hs1653
        refine ⟨_, updO_known hkn, rfl, ?_⟩
        exact (And.intro (And.intro q1649 (And.intro rfl (trivial))) (hs1654))
      ·exact Owe.run (by kernel_rfl) [(44, (.bool z876)), (46, (.bool z882)), (42, (.bool true))] ⟨gA 3 (by kernel_rfl) (by kernel_rfl), gA 5 (by kernel_rfl) (by kernel_rfl), gB 1 (by kernel_rfl) z9 (by kernel_rfl) hb875, trivial⟩ (.bool (z876 == z882)) (fun _ _ => by kernel_rfl) rfl
      ·exact Owe.run (by kernel_rfl) [(42, (.bool true)), (47, (.bool (z876 == z882)))] ⟨gB 1 (by kernel_rfl) z9 (by kernel_rfl) hb875, gA 6 (by kernel_rfl) (by kernel_rfl), trivial⟩ (.bool (z876 == z882)) (fun _ _ => by kernel_rfl) rfl
      ·exact Owe.run (by kernel_rfl) [(48, (.bool (z876 == z882)))] ⟨gA 7 (by kernel_rfl) (by kernel_rfl), trivial⟩ (.bool (z876 == z882)) (fun _ _ => by kernel_rfl) rfl
      ·exact Owe.run (by kernel_rfl) [(8, (.int .u32 z16.1)), (49, (.bool true))] ⟨gS (by kernel_rfl) (by kernel_rfl), gB 8 (by kernel_rfl) (z876 == z882) (by kernel_rfl) hb888, trivial⟩ (.int .u32 z16.1) (fun _ _ => by kernel_rfl) rfl
      ·exact Owe.run (by kernel_rfl) [(10, (.int .u32 z22.1)), (49, (.bool true))] ⟨gS (by kernel_rfl) (by kernel_rfl), gB 8 (by kernel_rfl) (z876 == z882) (by kernel_rfl) hb888, trivial⟩ (.int .u32 z22.1) (fun _ _ => by kernel_rfl) rfl
      ·exact Owe.run (by kernel_rfl) [(50, (.int .u32 z16.1)), (51, (.int .u32 z22.1)), (49, (.bool true))] ⟨gA 9 (by kernel_rfl) (by kernel_rfl), gA 10 (by kernel_rfl) (by kernel_rfl), gB 8 (by kernel_rfl) (z876 == z882) (by kernel_rfl) hb888, trivial⟩ (.bool (z16.1 == z22.1)) (fun _ _ => by kernel_rfl) rfl
      ·exact Owe.run (by kernel_rfl) [(49, (.bool true)), (52, (.bool (z16.1 == z22.1)))] ⟨gB 8 (by kernel_rfl) (z876 == z882) (by kernel_rfl) hb888, gA 11 (by kernel_rfl) (by kernel_rfl), trivial⟩ (.bool (z16.1 == z22.1)) (fun _ _ => by kernel_rfl) rfl
      ·exact Owe.run (by kernel_rfl) [(53, (.bool (z16.1 == z22.1)))] ⟨gA 12 (by kernel_rfl) (by kernel_rfl), trivial⟩ (.bool (z16.1 == z22.1)) (fun _ _ => by kernel_rfl) rfl
      ·exact Owe.skip (by kernel_rfl) [(54, (.bool false))] ⟨gB 13 (by kernel_rfl) (z16.1 == z22.1) (by kernel_rfl) hb889, trivial⟩ (some 55) (fun _ => by kernel_rfl) (by kernel_rfl) rfl
      ·exact Owe.skip (by kernel_rfl) [(54, (.bool false))] ⟨gB 13 (by kernel_rfl) (z16.1 == z22.1) (by kernel_rfl) hb889, trivial⟩ (some 56) (fun _ => by kernel_rfl) (by kernel_rfl) rfl
      ·exact Owe.skip (by kernel_rfl) [(54, (.bool false))] ⟨gB 13 (by kernel_rfl) (z16.1 == z22.1) (by kernel_rfl) hb889, trivial⟩ (some 57) (fun _ => by kernel_rfl) (by kernel_rfl) rfl
      ·exact Owe.run (by kernel_rfl) [(54, (.bool false)), (57, undef)] ⟨gB 13 (by kernel_rfl) (z16.1 == z22.1) (by kernel_rfl) hb889, gA 16 (by kernel_rfl) (by kernel_rfl), trivial⟩ (.bool false) (fun _ _ => by kernel_rfl) rfl
      ·exact Owe.run (by kernel_rfl) [(58, (.bool false))] ⟨gA 17 (by kernel_rfl) (by kernel_rfl), trivial⟩ (.bool false) (fun _ _ => by kernel_rfl) rfl
      ·exact Owe.skip (by kernel_rfl) [(59, (.bool false))] ⟨gA 18 (by kernel_rfl) (by kernel_rfl), trivial⟩ (some 60) (fun _ => by kernel_rfl) (by kernel_rfl) rfl
      ·exact Owe.skip (by kernel_rfl) [(59, (.bool false))] ⟨gA 18 (by kernel_rfl) (by kernel_rfl), trivial⟩ (some 61) (fun _ => by kernel_rfl) (by kernel_rfl) rfl
      ·exact Owe.skip (by kernel_rfl) [(59, (.bool false))] ⟨gA 18 (by kernel_rfl) (by kernel_rfl), trivial⟩ (some 62) (fun _ => by kernel_rfl) (by kernel_rfl) rfl
      ·exact Owe.run (by kernel_rfl) [(59, (.bool false)), (62, undef)] ⟨gA 18 (by kernel_rfl) (by kernel_rfl), gA 21 (by kernel_rfl) (by kernel_rfl), trivial⟩ (.bool false) (fun _ _ => by kernel_rfl) rfl
      ·exact Owe.run (by kernel_rfl) [(63, (.bool false))] ⟨gA 22 (by kernel_rfl) (by kernel_rfl), trivial⟩ (.bool false) (fun _ _ => by kernel_rfl) rfl
      ·exact Owe.skip (by kernel_rfl) [(64, (.bool false))] ⟨gA 23 (by kernel_rfl) (by kernel_rfl), trivial⟩ (some 65) (fun _ => by kernel_rfl) (by kernel_rfl) rfl
      ·exact Owe.skip (by kernel_rfl) [(64, (.bool false))] ⟨gA 23 (by kernel_rfl) (by kernel_rfl), trivial⟩ (some 66) (fun _ => by kernel_rfl) (by kernel_rfl) rfl
      ·exact Owe.skip (by kernel_rfl) [(64, (.bool false))] ⟨gA 23 (by kernel_rfl) (by kernel_rfl), trivial⟩ (some 67) (fun _ => by kernel_rfl) (by kernel_rfl) rfl
      ·exact Owe.run (by kernel_rfl) [(64, (.bool false)), (67, undef)] ⟨gA 23 (by kernel_rfl) (by kernel_rfl), gA 26 (by kernel_rfl) (by kernel_rfl), trivial⟩ (.bool false) (fun _ _ => by kernel_rfl) rfl
      ·exact Owe.run (by kernel_rfl) [(68, (.bool false))] ⟨gA 27 (by kernel_rfl) (by kernel_rfl), trivial⟩ (.bool false) (fun _ _ => by kernel_rfl) rfl
      ·exact Owe.skip (by kernel_rfl) [(69, (.bool false))] ⟨gA 28 (by kernel_rfl) (by kernel_rfl), trivial⟩ (some 70) (fun _ => by kernel_rfl) (by kernel_rfl) rfl
      ·exact Owe.skip (by kernel_rfl) [(69, (.bool false))] ⟨gA 28 (by kernel_rfl) (by kernel_rfl), trivial⟩ (some 71) (fun _ => by kernel_rfl) (by kernel_rfl) rfl
      ·exact Owe.skip (by kernel_rfl) [(69, (.bool false))] ⟨gA 28 (by kernel_rfl) (by kernel_rfl), trivial⟩ (some 72) (fun _ => by kernel_rfl) (by kernel_rfl) rfl
      ·exact Owe.skip (by kernel_rfl) [(69, (.bool false))] ⟨gA 28 (by kernel_rfl) (by kernel_rfl), trivial⟩ (some 73) (fun _ => by kernel_rfl) (by kernel_rfl) rfl
      ·exact Owe.skip (by kernel_rfl) [(69, (.bool false))] ⟨gA 28 (by kernel_rfl) (by kernel_rfl), trivial⟩ (some 74) (fun _ => by kernel_rfl) (by kernel_rfl) rfl
      ·exact Owe.run (by kernel_rfl) [(69, (.bool false)), (74, undef)] ⟨gA 28 (by kernel_rfl) (by kernel_rfl), gA 33 (by kernel_rfl) (by kernel_rfl), trivial⟩ (.bool false) (fun _ _ => by kernel_rfl) rfl
      ·exact Owe.run (by kernel_rfl) [(75, (.bool false))] ⟨gA 34 (by kernel_rfl) (by kernel_rfl), trivial⟩ (.bool false) (fun _ _ => by kernel_rfl) rfl
      ·exact Owe.skip (by kernel_rfl) [(76, (.bool false))] ⟨gA 35 (by kernel_rfl) (by kernel_rfl), trivial⟩ (some 77) (fun _ => by kernel_rfl) (by kernel_rfl) rfl
      ·exact Owe.skip (by kernel_rfl) [(76, (.bool false))] ⟨gA 35 (by kernel_rfl) (by kernel_rfl), trivial⟩ (some 78) (fun _ => by kernel_rfl) (by kernel_rfl) rfl
      ·exact Owe.skip (by kernel_rfl) [(76, (.bool false))] ⟨gA 35 (by kernel_rfl) (by kernel_rfl), trivial⟩ (some 79) (fun _ => by kernel_rfl) (by kernel_rfl) rfl
      ·exact Owe.skip (by kernel_rfl) [(76, (.bool false))] ⟨gA 35 (by kernel_rfl) (by kernel_rfl), trivial⟩ (some 80) (fun _ => by kernel_rfl) (by kernel_rfl) rfl
      ·exact Owe.skip (by kernel_rfl) [(76, (.bool false))] ⟨gA 35 (by kernel_rfl) (by kernel_rfl), trivial⟩ (some 81) (fun _ => by kernel_rfl) (by kernel_rfl) rfl
      ·exact Owe.run (by kernel_rfl) [(76, (.bool false)), (81, undef)] ⟨gA 35 (by kernel_rfl) (by kernel_rfl), gA 40 (by kernel_rfl) (by kernel_rfl), trivial⟩ (.bool false) (fun _ _ => by kernel_rfl) rfl
      ·exact Owe.run (by kernel_rfl) [(82, (.bool false))] ⟨gA 41 (by kernel_rfl) (by kernel_rfl), trivial⟩ (.bool false) (fun _ _ => by kernel_rfl) rfl
      ·exact Owe.skip (by kernel_rfl) [(83, (.bool false))] ⟨gA 42 (by kernel_rfl) (by kernel_rfl), trivial⟩ (some 84) (fun _ => by kernel_rfl) (by kernel_rfl) rfl
      ·exact Owe.skip (by kernel_rfl) [(83, (.bool false))] ⟨gA 42 (by kernel_rfl) (by kernel_rfl), trivial⟩ (some 85) (fun _ => by kernel_rfl) (by kernel_rfl) rfl
      ·exact Owe.skip (by kernel_rfl) [(83, (.bool false))] ⟨gA 42 (by kernel_rfl) (by kernel_rfl), trivial⟩ (some 86) (fun _ => by kernel_rfl) (by kernel_rfl) rfl
      ·exact Owe.skip (by kernel_rfl) [(83, (.bool false))] ⟨gA 42 (by kernel_rfl) (by kernel_rfl), trivial⟩ (some 87) (fun _ => by kernel_rfl) (by kernel_rfl) rfl
      ·exact Owe.skip (by kernel_rfl) [(83, (.bool false))] ⟨gA 42 (by kernel_rfl) (by kernel_rfl), trivial⟩ (some 88) (fun _ => by kernel_rfl) (by kernel_rfl) rfl
      ·exact Owe.skip (by kernel_rfl) [(83, (.bool false))] ⟨gA 42 (by kernel_rfl) (by kernel_rfl), trivial⟩ (some 89) (fun _ => by kernel_rfl) (by kernel_rfl) rfl
      ·exact Owe.skip (by kernel_rfl) [(83, (.bool false))] ⟨gA 42 (by kernel_rfl) (by kernel_rfl), trivial⟩ (some 90) (fun _ => by kernel_rfl) (by kernel_rfl) rfl
      ·exact Owe.run (by kernel_rfl) [(83, (.bool false)), (90, undef)] ⟨gA 42 (by kernel_rfl) (by kernel_rfl), gA 49 (by kernel_rfl) (by kernel_rfl), trivial⟩ (.bool false) (fun _ _ => by kernel_rfl) rfl
      ·exact Owe.run (by kernel_rfl) [(91, (.bool false))] ⟨gA 50 (by kernel_rfl) (by kernel_rfl), trivial⟩ (.bool false) (fun _ _ => by kernel_rfl) rfl
      ·intro ρ' w' hs hf hP
       obtain ⟨hvl1658, hs1655⟩ := hP
       obtain ⟨q1656, q1657, -⟩ := hvl1658
       have e6 := hf 51 6 (by kernel_rfl)
       refine postKnown [(6, (.bool false))] ⟨e6, trivial⟩ ?_
       obtain ⟨w1659, hww1659⟩ : ∃ x, w' = x := ⟨_, rfl⟩
       rw [hww1659] at hs1655 ⊢
       exact ⟨false, ⟨(by kernel_rfl), trivial⟩, SP.sel hs1655 [] rfl rfl, H⟩
    ·have H := cf H hb888
     refine At.stages (by kernel_rfl) (by kernel_rfl) (by kernel_rfl) (by kernel_rfl) (by kernel_rfl) [GEq (.bool z9), GEq (.bool z9), GEq (.string ⟨List.toArray p1⟩), GEq (.bool z876), GEq (.string ⟨List.toArray p1⟩), GEq (.bool z882), GEq (.bool (z876 == z882)), GEq (.bool (z876 == z882)), GEq (.bool (z876 == z882)), GEq undef, GEq undef, GEq undef, GEq (.bool false), GEq (.bool false), GEq undef, GEq undef, GEq undef, GEq (.bool false), GEq (.bool false), GEq undef, GEq undef, GEq undef, GEq (.bool false), GEq (.bool false), GEq undef, GEq undef, GEq undef, GEq (.bool false), GEq (.bool false), GEq undef, GEq undef, GEq undef, GEq undef, GEq undef, GEq (.bool false), GEq (.bool false), GEq undef, GEq undef, GEq undef, GEq undef, GEq undef, GEq (.bool false), GEq (.bool false), GEq undef, GEq undef, GEq undef, GEq undef, GEq undef, GEq undef, GEq undef, GEq (.bool false), GEq (.bool false)] [3, 5] [([], fun vs w => VL vs [] ∧ SP [] w0 w [boxE g5 24 #[(.int .u32 pAddr3), (.int .i64 pBits4)], boxE g34 24 #[(.int .u32 z28.1), (.int .i64 z28.2.1)], boxE g47 24 #[(.int .u32 z41.1), (.int .i64 z41.2.1)]]), ([3], fun vs w => VL vs [(.bool z876)] ∧ SP [] w0 w [boxE g5 24 #[(.int .u32 pAddr3), (.int .i64 pBits4)], boxE g34 24 #[(.int .u32 z28.1), (.int .i64 z28.2.1)], boxE g47 24 #[(.int .u32 z41.1), (.int .i64 z41.2.1)]]), ([3, 5], fun vs w => VL vs [(.bool z876), (.bool z882)] ∧ SP [] w0 w [boxE g5 24 #[(.int .u32 pAddr3), (.int .i64 pBits4)], boxE g34 24 #[(.int .u32 z28.1), (.int .i64 z28.2.1)], boxE g47 24 #[(.int .u32 z41.1), (.int .i64 z41.2.1)]])] (N := 52) (by kernel_rfl) ⟨by kernel_rfl, Nat.zero_lt_succ _⟩ (show VL [] [] ∧ SP [] w0 w51.drew [boxE g5 24 #[(.int .u32 pAddr3), (.int .i64 pBits4)], boxE g34 24 #[(.int .u32 z28.1), (.int .i64 z28.2.1)], boxE g47 24 #[(.int .u32 z41.1), (.int .i64 z41.2.1)]] from ⟨trivial, SP.drew hs53⟩) ⟨⟨⟨⟨⟨⟨⟨⟨⟨⟨⟨⟨⟨⟨⟨⟨⟨⟨⟨⟨⟨⟨⟨⟨⟨⟨⟨⟨⟨⟨⟨⟨⟨⟨⟨⟨⟨⟨⟨⟨⟨⟨⟨⟨⟨⟨⟨⟨⟨⟨⟨⟨trivial, ?_⟩, ?_⟩, ?_⟩, ?_⟩, ?_⟩, ?_⟩, ?_⟩, ?_⟩, ?_⟩, ?_⟩, ?_⟩, ?_⟩, ?_⟩, ?_⟩, ?_⟩, ?_⟩, ?_⟩, ?_⟩, ?_⟩, ?_⟩, ?_⟩, ?_⟩, ?_⟩, ?_⟩, ?_⟩, ?_⟩, ?_⟩, ?_⟩, ?_⟩, ?_⟩, ?_⟩, ?_⟩, ?_⟩, ?_⟩, ?_⟩, ?_⟩, ?_⟩, ?_⟩, ?_⟩, ?_⟩, ?_⟩, ?_⟩, ?_⟩, ?_⟩, ?_⟩, ?_⟩, ?_⟩, ?_⟩, ?_⟩, ?_⟩, ?_⟩, ?_⟩ (last := 2) (by kernel_rfl) ?_
     ·exact Owe.run (by kernel_rfl) [(7, (.bool z9))] ⟨gS (by kernel_rfl) (by kernel_rfl), trivial⟩ (.bool z9) (fun _ _ => by kernel_rfl) rfl
     ·exact Owe.run (by kernel_rfl) [(41, (.bool z9))] ⟨gA 0 (by kernel_rfl) (by kernel_rfl), trivial⟩ (.bool z9) (fun _ _ => by kernel_rfl) rfl
     ·exact Owe.run (by kernel_rfl) [(0, (.string ⟨List.toArray p1⟩)), (42, (.bool true))] ⟨gS (by kernel_rfl) (by kernel_rfl), gB 1 (by kernel_rfl) z9 (by kernel_rfl) hb875, trivial⟩ (.string ⟨List.toArray p1⟩) (fun _ _ => by kernel_rfl) rfl
     ·refine Owe.heavy (by kernel_rfl) [(0, 1)] (by kernel_rfl) (all_cons ⟨by kernel_rfl, by kernel_rfl, ?_⟩ all_nil)
      ·intro ρ' w' hs hah hP
       obtain ⟨hvl1673, hs1672⟩ := hP
       have e43 := hah 2 43 (by kernel_rfl)
       have e42 := hah 1 42 (by kernel_rfl)
       have hkn : Known ρ' [(43, (.string ⟨List.toArray p1⟩)), (42, (.bool true))] := ⟨e43, (Eq.trans e42 (congrArg Value.bool hb875)), trivial⟩
       refine Step.known _ hkn ?_
       refine Step.callF (f := 15) (fo := (.func 15)) (xs := #[(.tmp 43)]) (tys := #[9]) (first := #[]) (captured := #[]) (d := (some 44)) (k := 3) (by kernel_rfl) rfl (by kernel_rfl) (by kernel_rfl) Tryd.call15 (L_syntax_Name_walk  p1 w'  z876 hz877) ?_
       rintro e w1674 ⟨rfl, hs1675⟩
       refine ⟨_, rfl, ?_⟩
       have hs1676 := SP.call hs1672 hs1675
       clear hs1675
       have hs1677 : SP [] w0 w1674 [boxE g5 24 #[(.int .u32 pAddr3), (.int .i64 pBits4)], boxE g34 24 #[(.int .u32 z28.1), (.int .i64 z28.2.1)], boxE g47 24 #[(.int .u32 z41.1), (.int .i64 z41.2.1)]] := hs1676
       clear hs1676
       refine ⟨_, updO_known hkn, rfl, ?_⟩
       exact (And.intro (And.intro rfl (trivial)) (hs1677))
     ·exact Owe.run (by kernel_rfl) [(0, (.string ⟨List.toArray p1⟩)), (42, (.bool true))] ⟨gS (by kernel_rfl) (by kernel_rfl), gB 1 (by kernel_rfl) z9 (by kernel_rfl) hb875, trivial⟩ (.string ⟨List.toArray p1⟩) (fun _ _ => by kernel_rfl) rfl
     ·refine Owe.heavy (by kernel_rfl) [(1, 2)] (by kernel_rfl) (all_cons ⟨by kernel_rfl, by kernel_rfl, ?_⟩ all_nil)
      ·intro ρ' w' hs hah hP
       obtain ⟨hvl1680, hs1678⟩ := hP
       obtain ⟨q1679, -⟩ := hvl1680
       have e45 := hah 4 45 (by kernel_rfl)
       have e42 := hah 1 42 (by kernel_rfl)
       have hkn : Known ρ' [(45, (.string ⟨List.toArray p1⟩)), (42, (.bool true))] := ⟨e45, (Eq.trans e42 (congrArg Value.bool hb875)), trivial⟩
       refine Step.known _ hkn ?_
       refine Step.callF (f := 16) (fo := (.func 16)) (xs := #[(.tmp 45)]) (tys := #[9]) (first := #[]) (captured := #[]) (d := (some 46)) (k := 5) (by kernel_rfl) rfl (by kernel_rfl) (by kernel_rfl) Tryd.call16 (L_subwayref04_Name_walk  p1 w'  z882 hz883) ?_
       rintro e w1681 ⟨rfl, hs1682⟩
       refine ⟨_, rfl, ?_⟩
       have hs1683 := SP.call hs1678 hs1682
       clear hs1682
       have hs1684 : SP [] w0 w1681 [boxE g5 24 #[(.int .u32 pAddr3), (.int .i64 pBits4)], boxE g34 24 #[(.int .u32 z28.1), (.int .i64 z28.2.1)], boxE g47 24 #[(.int .u32 z41.1), (.int .i64 z41.2.1)]] := hs1683
       clear hs1683
       refine ⟨_, updO_known hkn, rfl, ?_⟩
       exact (And.intro (And.intro q1679 (And.intro rfl (trivial))) (hs1684))
     ·exact Owe.run (by kernel_rfl) [(44, (.bool z876)), (46, (.bool z882)), (42, (.bool true))] ⟨gA 3 (by kernel_rfl) (by kernel_rfl), gA 5 (by kernel_rfl) (by kernel_rfl), gB 1 (by kernel_rfl) z9 (by kernel_rfl) hb875, trivial⟩ (.bool (z876 == z882)) (fun _ _ => by kernel_rfl) rfl
     ·exact Owe.run (by kernel_rfl) [(42, (.bool true)), (47, (.bool (z876 == z882)))] ⟨gB 1 (by kernel_rfl) z9 (by kernel_rfl) hb875, gA 6 (by kernel_rfl) (by kernel_rfl), trivial⟩ (.bool (z876 == z882)) (fun _ _ => by kernel_rfl) rfl
     ·exact Owe.run (by kernel_rfl) [(48, (.bool (z876 == z882)))] ⟨gA 7 (by kernel_rfl) (by kernel_rfl), trivial⟩ (.bool (z876 == z882)) (fun _ _ => by kernel_rfl) rfl
     ·exact Owe.skip (by kernel_rfl) [(49, (.bool false))] ⟨gB 8 (by kernel_rfl) (z876 == z882) (by kernel_rfl) hb888, trivial⟩ (some 50) (fun _ => by kernel_rfl) (by kernel_rfl) rfl
     ·exact Owe.skip (by kernel_rfl) [(49, (.bool false))] ⟨gB 8 (by kernel_rfl) (z876 == z882) (by kernel_rfl) hb888, trivial⟩ (some 51) (fun _ => by kernel_rfl) (by kernel_rfl) rfl
     ·exact Owe.skip (by kernel_rfl) [(49, (.bool false))] ⟨gB 8 (by kernel_rfl) (z876 == z882) (by kernel_rfl) hb888, trivial⟩ (some 52) (fun _ => by kernel_rfl) (by kernel_rfl) rfl
     ·exact Owe.run (by kernel_rfl) [(49, (.bool false)), (52, undef)] ⟨gB 8 (by kernel_rfl) (z876 == z882) (by kernel_rfl) hb888, gA 11 (by kernel_rfl) (by kernel_rfl), trivial⟩ (.bool false) (fun _ _ => by kernel_rfl) rfl
     ·exact Owe.run (by kernel_rfl) [(53, (.bool false))] ⟨gA 12 (by kernel_rfl) (by kernel_rfl), trivial⟩ (.bool false) (fun _ _ => by kernel_rfl) rfl
     ·exact Owe.skip (by kernel_rfl) [(54, (.bool false))] ⟨gA 13 (by kernel_rfl) (by kernel_rfl), trivial⟩ (some 55) (fun _ => by kernel_rfl) (by kernel_rfl) rfl
     ·exact Owe.skip (by kernel_rfl) [(54, (.bool false))] ⟨gA 13 (by kernel_rfl) (by kernel_rfl), trivial⟩ (some 56) (fun _ => by kernel_rfl) (by kernel_rfl) rfl
     ·exact Owe.skip (by kernel_rfl) [(54, (.bool false))] ⟨gA 13 (by kernel_rfl) (by kernel_rfl), trivial⟩ (some 57) (fun _ => by kernel_rfl) (by kernel_rfl) rfl
     ·exact Owe.run (by kernel_rfl) [(54, (.bool false)), (57, undef)] ⟨gA 13 (by kernel_rfl) (by kernel_rfl), gA 16 (by kernel_rfl) (by kernel_rfl), trivial⟩ (.bool false) (fun _ _ => by kernel_rfl) rfl
     ·exact Owe.run (by kernel_rfl) [(58, (.bool false))] ⟨gA 17 (by kernel_rfl) (by kernel_rfl), trivial⟩ (.bool false) (fun _ _ => by kernel_rfl) rfl
     ·exact Owe.skip (by kernel_rfl) [(59, (.bool false))] ⟨gA 18 (by kernel_rfl) (by kernel_rfl), trivial⟩ (some 60) (fun _ => by kernel_rfl) (by kernel_rfl) rfl
     ·exact Owe.skip (by kernel_rfl) [(59, (.bool false))] ⟨gA 18 (by kernel_rfl) (by kernel_rfl), trivial⟩ (some 61) (fun _ => by kernel_rfl) (by kernel_rfl) rfl
     ·exact Owe.skip (by kernel_rfl) [(59, (.bool false))] ⟨gA 18 (by kernel_rfl) (by kernel_rfl), trivial⟩ (some 62) (fun _ => by kernel_rfl) (by kernel_rfl) rfl
     ·exact Owe.run (by kernel_rfl) [(59, (.bool false)), (62, undef)] ⟨gA 18 (by kernel_rfl) (by kernel_rfl), gA 21 (by kernel_rfl) (by kernel_rfl), trivial⟩ (.bool false) (fun _ _ => by kernel_rfl) rfl
     ·exact Owe.run (by kernel_rfl) [(63, (.bool false))] ⟨gA 22 (by kernel_rfl) (by kernel_rfl), trivial⟩ (.bool false) (fun _ _ => by kernel_rfl) rfl
     ·exact Owe.skip (by kernel_rfl) [(64, (.bool false))] ⟨gA 23 (by kernel_rfl) (by kernel_rfl), trivial⟩ (some 65) (fun _ => by kernel_rfl) (by kernel_rfl) rfl
     ·exact Owe.skip (by kernel_rfl) [(64, (.bool false))] ⟨gA 23 (by kernel_rfl) (by kernel_rfl), trivial⟩ (some 66) (fun _ => by kernel_rfl) (by kernel_rfl) rfl
     ·exact Owe.skip (by kernel_rfl) [(64, (.bool false))] ⟨gA 23 (by kernel_rfl) (by kernel_rfl), trivial⟩ (some 67) (fun _ => by kernel_rfl) (by kernel_rfl) rfl
     ·exact Owe.run (by kernel_rfl) [(64, (.bool false)), (67, undef)] ⟨gA 23 (by kernel_rfl) (by kernel_rfl), gA 26 (by kernel_rfl) (by kernel_rfl), trivial⟩ (.bool false) (fun _ _ => by kernel_rfl) rfl
     ·exact Owe.run (by kernel_rfl) [(68, (.bool false))] ⟨gA 27 (by kernel_rfl) (by kernel_rfl), trivial⟩ (.bool false) (fun _ _ => by kernel_rfl) rfl
     ·exact Owe.skip (by kernel_rfl) [(69, (.bool false))] ⟨gA 28 (by kernel_rfl) (by kernel_rfl), trivial⟩ (some 70) (fun _ => by kernel_rfl) (by kernel_rfl) rfl
     ·exact Owe.skip (by kernel_rfl) [(69, (.bool false))] ⟨gA 28 (by kernel_rfl) (by kernel_rfl), trivial⟩ (some 71) (fun _ => by kernel_rfl) (by kernel_rfl) rfl
     ·exact Owe.skip (by kernel_rfl) [(69, (.bool false))] ⟨gA 28 (by kernel_rfl) (by kernel_rfl), trivial⟩ (some 72) (fun _ => by kernel_rfl) (by kernel_rfl) rfl
     ·exact Owe.skip (by kernel_rfl) [(69, (.bool false))] ⟨gA 28 (by kernel_rfl) (by kernel_rfl), trivial⟩ (some 73) (fun _ => by kernel_rfl) (by kernel_rfl) rfl
     ·exact Owe.skip (by kernel_rfl) [(69, (.bool false))] ⟨gA 28 (by kernel_rfl) (by kernel_rfl), trivial⟩ (some 74) (fun _ => by kernel_rfl) (by kernel_rfl) rfl
     ·exact Owe.run (by kernel_rfl) [(69, (.bool false)), (74, undef)] ⟨gA 28 (by kernel_rfl) (by kernel_rfl), gA 33 (by kernel_rfl) (by kernel_rfl), trivial⟩ (.bool false) (fun _ _ => by kernel_rfl) rfl
     ·exact Owe.run (by kernel_rfl) [(75, (.bool false))] ⟨gA 34 (by kernel_rfl) (by kernel_rfl), trivial⟩ (.bool false) (fun _ _ => by kernel_rfl) rfl
     ·exact Owe.skip (by kernel_rfl) [(76, (.bool false))] ⟨gA 35 (by kernel_rfl) (by kernel_rfl), trivial⟩ (some 77) (fun _ => by kernel_rfl) (by kernel_rfl) rfl
     ·exact Owe.skip (by kernel_rfl) [(76, (.bool false))] ⟨gA 35 (by kernel_rfl) (by kernel_rfl), trivial⟩ (some 78) (fun _ => by kernel_rfl) (by kernel_rfl) rfl
     ·exact Owe.skip (by kernel_rfl) [(76, (.bool false))] ⟨gA 35 (by kernel_rfl) (by kernel_rfl), trivial⟩ (some 79) (fun _ => by kernel_rfl) (by kernel_rfl) rfl
     ·exact Owe.skip (by kernel_rfl) [(76, (.bool false))] ⟨gA 35 (by kernel_rfl) (by kernel_rfl), trivial⟩ (some 80) (fun _ => by kernel_rfl) (by kernel_rfl) rfl
     ·exact Owe.skip (by kernel_rfl) [(76, (.bool false))] ⟨gA 35 (by kernel_rfl) (by kernel_rfl), trivial⟩ (some 81) (fun _ => by kernel_rfl) (by kernel_rfl) rfl
     ·exact Owe.run (by kernel_rfl) [(76, (.bool false)), (81, undef)] ⟨gA 35 (by kernel_rfl) (by kernel_rfl), gA 40 (by kernel_rfl) (by kernel_rfl), trivial⟩ (.bool false) (fun _ _ => by kernel_rfl) rfl
     ·exact Owe.run (by kernel_rfl) [(82, (.bool false))] ⟨gA 41 (by kernel_rfl) (by kernel_rfl), trivial⟩ (.bool false) (fun _ _ => by kernel_rfl) rfl
     ·exact Owe.skip (by kernel_rfl) [(83, (.bool false))] ⟨gA 42 (by kernel_rfl) (by kernel_rfl), trivial⟩ (some 84) (fun _ => by kernel_rfl) (by kernel_rfl) rfl
     ·exact Owe.skip (by kernel_rfl) [(83, (.bool false))] ⟨gA 42 (by kernel_rfl) (by kernel_rfl), trivial⟩ (some 85) (fun _ => by kernel_rfl) (by kernel_rfl) rfl
     ·exact Owe.skip (by kernel_rfl) [(83, (.bool false))] ⟨gA 42 (by kernel_rfl) (by kernel_rfl), trivial⟩ (some 86) (fun _ => by kernel_rfl) (by kernel_rfl) rfl
     ·exact Owe.skip (by kernel_rfl) [(83, (.bool false))] ⟨gA 42 (by kernel_rfl) (by kernel_rfl), trivial⟩ (some 87) (fun _ => by kernel_rfl) (by kernel_rfl) rfl
     ·exact Owe.skip (by kernel_rfl) [(83, (.bool false))] ⟨gA 42 (by kernel_rfl) (by kernel_rfl), trivial⟩ (some 88) (fun _ => by kernel_rfl) (by kernel_rfl) rfl
     ·exact Owe.skip (by kernel_rfl) [(83, (.bool false))] ⟨gA 42 (by kernel_rfl) (by kernel_rfl), trivial⟩ (some 89) (fun _ => by kernel_rfl) (by kernel_rfl) rfl
     ·exact Owe.skip (by kernel_rfl) [(83, (.bool false))] ⟨gA 42 (by kernel_rfl) (by kernel_rfl), trivial⟩ (some 90) (fun _ => by kernel_rfl) (by kernel_rfl) rfl
     ·exact Owe.run (by kernel_rfl) [(83, (.bool false)), (90, undef)] ⟨gA 42 (by kernel_rfl) (by kernel_rfl), gA 49 (by kernel_rfl) (by kernel_rfl), trivial⟩ (.bool false) (fun _ _ => by kernel_rfl) rfl
     ·exact Owe.run (by kernel_rfl) [(91, (.bool false))] ⟨gA 50 (by kernel_rfl) (by kernel_rfl), trivial⟩ (.bool false) (fun _ _ => by kernel_rfl) rfl
     ·intro ρ' w' hs hf hP
      obtain ⟨hvl1688, hs1685⟩ := hP
      obtain ⟨q1686, q1687, -⟩ := hvl1688
      have e6 := hf 51 6 (by kernel_rfl)
      refine postKnown [(6, (.bool false))] ⟨e6, trivial⟩ ?_
      obtain ⟨w1689, hww1689⟩ : ∃ x, w' = x := ⟨_, rfl⟩
      rw [hww1689] at hs1685 ⊢
      exact ⟨false, ⟨(by kernel_rfl), trivial⟩, SP.sel hs1685 [] rfl rfl, H⟩
   ·have H := cf H hb875
    refine At.stages (by kernel_rfl) (by kernel_rfl) (by kernel_rfl) (by kernel_rfl) (by kernel_rfl) [GEq (.bool z9), GEq (.bool z9), GEq undef, GEq undef, GEq undef, GEq undef, GEq undef, GEq (.bool false), GEq (.bool false), GEq undef, GEq undef, GEq undef, GEq (.bool false), GEq (.bool false), GEq undef, GEq undef, GEq undef, GEq (.bool false), GEq (.bool false), GEq undef, GEq undef, GEq undef, GEq (.bool false), GEq (.bool false), GEq undef, GEq undef, GEq undef, GEq (.bool false), GEq (.bool false), GEq undef, GEq undef, GEq undef, GEq undef, GEq undef, GEq (.bool false), GEq (.bool false), GEq undef, GEq undef, GEq undef, GEq undef, GEq undef, GEq (.bool false), GEq (.bool false), GEq undef, GEq undef, GEq undef, GEq undef, GEq undef, GEq undef, GEq undef, GEq (.bool false), GEq (.bool false)] [] [([], fun vs w => VL vs [] ∧ SP [] w0 w [boxE g5 24 #[(.int .u32 pAddr3), (.int .i64 pBits4)], boxE g34 24 #[(.int .u32 z28.1), (.int .i64 z28.2.1)], boxE g47 24 #[(.int .u32 z41.1), (.int .i64 z41.2.1)]])] (N := 52) (by kernel_rfl) ⟨by kernel_rfl, Nat.zero_lt_succ _⟩ (show VL [] [] ∧ SP [] w0 w51.drew [boxE g5 24 #[(.int .u32 pAddr3), (.int .i64 pBits4)], boxE g34 24 #[(.int .u32 z28.1), (.int .i64 z28.2.1)], boxE g47 24 #[(.int .u32 z41.1), (.int .i64 z41.2.1)]] from ⟨trivial, SP.drew hs53⟩) ⟨⟨⟨⟨⟨⟨⟨⟨⟨⟨⟨⟨⟨⟨⟨⟨⟨⟨⟨⟨⟨⟨⟨⟨⟨⟨⟨⟨⟨⟨⟨⟨⟨⟨⟨⟨⟨⟨⟨⟨⟨⟨⟨⟨⟨⟨⟨⟨⟨⟨⟨⟨trivial, ?_⟩, ?_⟩, ?_⟩, ?_⟩, ?_⟩, ?_⟩, ?_⟩, ?_⟩, ?_⟩, ?_⟩, ?_⟩, ?_⟩, ?_⟩, ?_⟩, ?_⟩, ?_⟩, ?_⟩, ?_⟩, ?_⟩, ?_⟩, ?_⟩, ?_⟩, ?_⟩, ?_⟩, ?_⟩, ?_⟩, ?_⟩, ?_⟩, ?_⟩, ?_⟩, ?_⟩, ?_⟩, ?_⟩, ?_⟩, ?_⟩, ?_⟩, ?_⟩, ?_⟩, ?_⟩, ?_⟩, ?_⟩, ?_⟩, ?_⟩, ?_⟩, ?_⟩, ?_⟩, ?_⟩, ?_⟩, ?_⟩, ?_⟩, ?_⟩, ?_⟩ (last := 0) (by kernel_rfl) ?_
    ·exact Owe.run (by kernel_rfl) [(7, (.bool z9))] ⟨gS (by kernel_rfl) (by kernel_rfl), trivial⟩ (.bool z9) (fun _ _ => by kernel_rfl) rfl
    ·exact Owe.run (by kernel_rfl) [(41, (.bool z9))] ⟨gA 0 (by kernel_rfl) (by kernel_rfl), trivial⟩ (.bool z9) (fun _ _ => by kernel_rfl) rfl
    ·exact Owe.skip (by kernel_rfl) [(42, (.bool false))] ⟨gB 1 (by kernel_rfl) z9 (by kernel_rfl) hb875, trivial⟩ (some 43) (fun _ => by kernel_rfl) (by kernel_rfl) rfl
    ·exact Owe.skip (by kernel_rfl) [(42, (.bool false))] ⟨gB 1 (by kernel_rfl) z9 (by kernel_rfl) hb875, trivial⟩ (some 44) (fun _ => by kernel_rfl) (by kernel_rfl) rfl
    ·exact Owe.skip (by kernel_rfl) [(42, (.bool false))] ⟨gB 1 (by kernel_rfl) z9 (by kernel_rfl) hb875, trivial⟩ (some 45) (fun _ => by kernel_rfl) (by kernel_rfl) rfl
    ·exact Owe.skip (by kernel_rfl) [(42, (.bool false))] ⟨gB 1 (by kernel_rfl) z9 (by kernel_rfl) hb875, trivial⟩ (some 46) (fun _ => by kernel_rfl) (by kernel_rfl) rfl
    ·exact Owe.skip (by kernel_rfl) [(42, (.bool false))] ⟨gB 1 (by kernel_rfl) z9 (by kernel_rfl) hb875, trivial⟩ (some 47) (fun _ => by kernel_rfl) (by kernel_rfl) rfl
    ·exact Owe.run (by kernel_rfl) [(42, (.bool false)), (47, undef)] ⟨gB 1 (by kernel_rfl) z9 (by kernel_rfl) hb875, gA 6 (by kernel_rfl) (by kernel_rfl), trivial⟩ (.bool false) (fun _ _ => by kernel_rfl) rfl
    ·exact Owe.run (by kernel_rfl) [(48, (.bool false))] ⟨gA 7 (by kernel_rfl) (by kernel_rfl), trivial⟩ (.bool false) (fun _ _ => by kernel_rfl) rfl
    ·exact Owe.skip (by kernel_rfl) [(49, (.bool false))] ⟨gA 8 (by kernel_rfl) (by kernel_rfl), trivial⟩ (some 50) (fun _ => by kernel_rfl) (by kernel_rfl) rfl
    ·exact Owe.skip (by kernel_rfl) [(49, (.bool false))] ⟨gA 8 (by kernel_rfl) (by kernel_rfl), trivial⟩ (some 51) (fun _ => by kernel_rfl) (by kernel_rfl) rfl
    ·exact Owe.skip (by kernel_rfl) [(49, (.bool false))] ⟨gA 8 (by kernel_rfl) (by kernel_rfl), trivial⟩ (some 52) (fun _ => by kernel_rfl) (by kernel_rfl) rfl
    ·exact Owe.run (by kernel_rfl) [(49, (.bool false)), (52, undef)] ⟨gA 8 (by kernel_rfl) (by kernel_rfl), gA 11 (by kernel_rfl) (by kernel_rfl), trivial⟩ (.bool false) (fun _ _ => by kernel_rfl) rfl
    ·exact Owe.run (by kernel_rfl) [(53, (.bool false))] ⟨gA 12 (by kernel_rfl) (by kernel_rfl), trivial⟩ (.bool false) (fun _ _ => by kernel_rfl) rfl
    ·exact Owe.skip (by kernel_rfl) [(54, (.bool false))] ⟨gA 13 (by kernel_rfl) (by kernel_rfl), trivial⟩ (some 55) (fun _ => by kernel_rfl) (by kernel_rfl) rfl
    ·exact Owe.skip (by kernel_rfl) [(54, (.bool false))] ⟨gA 13 (by kernel_rfl) (by kernel_rfl), trivial⟩ (some 56) (fun _ => by kernel_rfl) (by kernel_rfl) rfl
    ·exact Owe.skip (by kernel_rfl) [(54, (.bool false))] ⟨gA 13 (by kernel_rfl) (by kernel_rfl), trivial⟩ (some 57) (fun _ => by kernel_rfl) (by kernel_rfl) rfl
    ·exact Owe.run (by kernel_rfl) [(54, (.bool false)), (57, undef)] ⟨gA 13 (by kernel_rfl) (by kernel_rfl), gA 16 (by kernel_rfl) (by kernel_rfl), trivial⟩ (.bool false) (fun _ _ => by kernel_rfl) rfl
    ·exact Owe.run (by kernel_rfl) [(58, (.bool false))] ⟨gA 17 (by kernel_rfl) (by kernel_rfl), trivial⟩ (.bool false) (fun _ _ => by kernel_rfl) rfl
    ·exact Owe.skip (by kernel_rfl) [(59, (.bool false))] ⟨gA 18 (by kernel_rfl) (by kernel_rfl), trivial⟩ (some 60) (fun _ => by kernel_rfl) (by kernel_rfl) rfl
    ·exact Owe.skip (by kernel_rfl) [(59, (.bool false))] ⟨gA 18 (by kernel_rfl) (by kernel_rfl), trivial⟩ (some 61) (fun _ => by kernel_rfl) (by kernel_rfl) rfl
    ·exact Owe.skip (by kernel_rfl) [(59, (.bool false))] ⟨gA 18 (by kernel_rfl) (by kernel_rfl), trivial⟩ (some 62) (fun _ => by kernel_rfl) (by kernel_rfl) rfl
    ·exact Owe.run (by kernel_rfl) [(59, (.bool false)), (62, undef)] ⟨gA 18 (by kernel_rfl) (by kernel_rfl), gA 21 (by kernel_rfl) (by kernel_rfl), trivial⟩ (.bool false) (fun _ _ => by kernel_rfl) rfl
    ·exact Owe.run (by kernel_rfl) [(63, (.bool false))] ⟨gA 22 (by kernel_rfl) (by kernel_rfl), trivial⟩ (.bool false) (fun _ _ => by kernel_rfl) rfl
    ·exact Owe.skip (by kernel_rfl) [(64, (.bool false))] ⟨gA 23 (by kernel_rfl) (by kernel_rfl), trivial⟩ (some 65) (fun _ => by kernel_rfl) (by kernel_rfl) rfl
    ·exact Owe.skip (by kernel_rfl) [(64, (.bool false))] ⟨gA 23 (by kernel_rfl) (by kernel_rfl), trivial⟩ (some 66) (fun _ => by kernel_rfl) (by kernel_rfl) rfl
    ·exact Owe.skip (by kernel_rfl) [(64, (.bool false))] ⟨gA 23 (by kernel_rfl) (by kernel_rfl), trivial⟩ (some 67) (fun _ => by kernel_rfl) (by kernel_rfl) rfl
    ·exact Owe.run (by kernel_rfl) [(64, (.bool false)), (67, undef)] ⟨gA 23 (by kernel_rfl) (by kernel_rfl), gA 26 (by kernel_rfl) (by kernel_rfl), trivial⟩ (.bool false) (fun _ _ => by kernel_rfl) rfl
    ·exact Owe.run (by kernel_rfl) [(68, (.bool false))] ⟨gA 27 (by kernel_rfl) (by kernel_rfl), trivial⟩ (.bool false) (fun _ _ => by kernel_rfl) rfl
    ·exact Owe.skip (by kernel_rfl) [(69, (.bool false))] ⟨gA 28 (by kernel_rfl) (by kernel_rfl), trivial⟩ (some 70) (fun _ => by kernel_rfl) (by kernel_rfl) rfl
    ·exact Owe.skip (by kernel_rfl) [(69, (.bool false))] ⟨gA 28 (by kernel_rfl) (by kernel_rfl), trivial⟩ (some 71) (fun _ => by kernel_rfl) (by kernel_rfl) rfl
    ·exact Owe.skip (by kernel_rfl) [(69, (.bool false))] ⟨gA 28 (by kernel_rfl) (by kernel_rfl), trivial⟩ (some 72) (fun _ => by kernel_rfl) (by kernel_rfl) rfl
    ·exact Owe.skip (by kernel_rfl) [(69, (.bool false))] ⟨gA 28 (by kernel_rfl) (by kernel_rfl), trivial⟩ (some 73) (fun _ => by kernel_rfl) (by kernel_rfl) rfl
    ·exact Owe.skip (by kernel_rfl) [(69, (.bool false))] ⟨gA 28 (by kernel_rfl) (by kernel_rfl), trivial⟩ (some 74) (fun _ => by kernel_rfl) (by kernel_rfl) rfl
    ·exact Owe.run (by kernel_rfl) [(69, (.bool false)), (74, undef)] ⟨gA 28 (by kernel_rfl) (by kernel_rfl), gA 33 (by kernel_rfl) (by kernel_rfl), trivial⟩ (.bool false) (fun _ _ => by kernel_rfl) rfl
    ·exact Owe.run (by kernel_rfl) [(75, (.bool false))] ⟨gA 34 (by kernel_rfl) (by kernel_rfl), trivial⟩ (.bool false) (fun _ _ => by kernel_rfl) rfl
    ·exact Owe.skip (by kernel_rfl) [(76, (.bool false))] ⟨gA 35 (by kernel_rfl) (by kernel_rfl), trivial⟩ (some 77) (fun _ => by kernel_rfl) (by kernel_rfl) rfl
    ·exact Owe.skip (by kernel_rfl) [(76, (.bool false))] ⟨gA 35 (by kernel_rfl) (by kernel_rfl), trivial⟩ (some 78) (fun _ => by kernel_rfl) (by kernel_rfl) rfl
    ·exact Owe.skip (by kernel_rfl) [(76, (.bool false))] ⟨gA 35 (by kernel_rfl) (by kernel_rfl), trivial⟩ (some 79) (fun _ => by kernel_rfl) (by kernel_rfl) rfl
    ·exact Owe.skip (by kernel_rfl) [(76, (.bool false))] ⟨gA 35 (by kernel_rfl) (by kernel_rfl), trivial⟩ (some 80) (fun _ => by kernel_rfl) (by kernel_rfl) rfl
    ·exact Owe.skip (by kernel_rfl) [(76, (.bool false))] ⟨gA 35 (by kernel_rfl) (by kernel_rfl), trivial⟩ (some 81) (fun _ => by kernel_rfl) (by kernel_rfl) rfl
    ·exact Owe.run (by kernel_rfl) [(76, (.bool false)), (81, undef)] ⟨gA 35 (by kernel_rfl) (by kernel_rfl), gA 40 (by kernel_rfl) (by kernel_rfl), trivial⟩ (.bool false) (fun _ _ => by kernel_rfl) rfl
    ·exact Owe.run (by kernel_rfl) [(82, (.bool false))] ⟨gA 41 (by kernel_rfl) (by kernel_rfl), trivial⟩ (.bool false) (fun _ _ => by kernel_rfl) rfl
    ·exact Owe.skip (by kernel_rfl) [(83, (.bool false))] ⟨gA 42 (by kernel_rfl) (by kernel_rfl), trivial⟩ (some 84) (fun _ => by kernel_rfl) (by kernel_rfl) rfl
    ·exact Owe.skip (by kernel_rfl) [(83, (.bool false))] ⟨gA 42 (by kernel_rfl) (by kernel_rfl), trivial⟩ (some 85) (fun _ => by kernel_rfl) (by kernel_rfl) rfl
    ·exact Owe.skip (by kernel_rfl) [(83, (.bool false))] ⟨gA 42 (by kernel_rfl) (by kernel_rfl), trivial⟩ (some 86) (fun _ => by kernel_rfl) (by kernel_rfl) rfl
    ·exact Owe.skip (by kernel_rfl) [(83, (.bool false))] ⟨gA 42 (by kernel_rfl) (by kernel_rfl), trivial⟩ (some 87) (fun _ => by kernel_rfl) (by kernel_rfl) rfl
    ·exact Owe.skip (by kernel_rfl) [(83, (.bool false))] ⟨gA 42 (by kernel_rfl) (by kernel_rfl), trivial⟩ (some 88) (fun _ => by kernel_rfl) (by kernel_rfl) rfl
    ·exact Owe.skip (by kernel_rfl) [(83, (.bool false))] ⟨gA 42 (by kernel_rfl) (by kernel_rfl), trivial⟩ (some 89) (fun _ => by kernel_rfl) (by kernel_rfl) rfl
    ·exact Owe.skip (by kernel_rfl) [(83, (.bool false))] ⟨gA 42 (by kernel_rfl) (by kernel_rfl), trivial⟩ (some 90) (fun _ => by kernel_rfl) (by kernel_rfl) rfl
    ·exact Owe.run (by kernel_rfl) [(83, (.bool false)), (90, undef)] ⟨gA 42 (by kernel_rfl) (by kernel_rfl), gA 49 (by kernel_rfl) (by kernel_rfl), trivial⟩ (.bool false) (fun _ _ => by kernel_rfl) rfl
    ·exact Owe.run (by kernel_rfl) [(91, (.bool false))] ⟨gA 50 (by kernel_rfl) (by kernel_rfl), trivial⟩ (.bool false) (fun _ _ => by kernel_rfl) rfl
    ·intro ρ' w' hs hf hP
     obtain ⟨hvl1691, hs1690⟩ := hP
     have e6 := hf 51 6 (by kernel_rfl)
     refine postKnown [(6, (.bool false))] ⟨e6, trivial⟩ ?_
     obtain ⟨w1692, hww1692⟩ : ∃ x, w' = x := ⟨_, rfl⟩
     rw [hww1692] at hs1690 ⊢
     exact ⟨false, ⟨(by kernel_rfl), trivial⟩, SP.sel hs1690 [] rfl rfl, H⟩
  ·rintro ρ w873 ⟨v872, hk, hs874, H⟩
   unfold L_subwaylaw04_SyntaxTells_k1 at H
   refine At.known [(6, (.bool v872))] hk ?_
   refine At.ret (by kernel_rfl) ?_
   refine ⟨(.bool v872), by kernel_rfl, ?_⟩
   obtain rfl := some_elim H
   exact ⟨rfl, SP.sel hs874 [] rfl rfl⟩
end Go.Proofs.YthnakiihenbcjaaDoor
