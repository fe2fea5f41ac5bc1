/- LIFTED BY PROGRAM (tools/lift.py): what functions compute, and that they do. -/
import Derived.Test.YtjpchjbbfbmjgaaDoorLN
namespace Go.Proofs.YtjpchjbbfbmjgaaDoor
set_option linter.unusedSimpArgs false
set_option linter.unusedVariables false
open Go.RowKit

/-! L_subwaylaw01_NumJoin -/
def L_subwaylaw01_NumJoin_k43 (rec30 : (List UInt8) → Int → Option (Bool)) (rec40 : (List UInt8) → Int → Option (Bool)) (v1712 : Int) (l1858 : (List UInt8)) (z1864 : ((List UInt8) × Int × Bool)) (v1882 : Bool) : Option (Bool) :=
  (cond v1882 (some (false)) ((sub l1858 z1864.2.1 ((List.length l1858 : Nat) : Int)).bind fun l1893 => ((app ([] : List UInt8) l1893).bind fun l1895 => (rec40 l1895 (IntKind.wrap .i64 (v1712 + 1))))))
def L_subwaylaw01_NumJoin_k42 (rec30 : (List UInt8) → Int → Option (Bool)) (rec40 : (List UInt8) → Int → Option (Bool)) (p5 : (List (List UInt8))) (v1711 : (List UInt8)) (v1712 : Int) (z1827 : (Int × Int × Bool)) (v1845 : Bool) : Option (Bool) :=
  (cond v1845 (some (false)) ((sub v1711 z1827.2.1 ((List.length v1711 : Nat) : Int)).bind fun l1856 => ((app ([] : List UInt8) l1856).bind fun l1858 => ((L_num_Read l1858).bind fun z1864 => (cond (!z1864.2.2) (L_subwaylaw01_NumJoin_k43 rec30 rec40 v1712 l1858 z1864 true) ((idx p5 v1712).bind fun x1902 => (cond (!(z1864.1 == x1902)) (L_subwaylaw01_NumJoin_k43 rec30 rec40 v1712 l1858 z1864 true) (cond (decide (z1864.2.1 < 1)) (L_subwaylaw01_NumJoin_k43 rec30 rec40 v1712 l1858 z1864 true) (L_subwaylaw01_NumJoin_k43 rec30 rec40 v1712 l1858 z1864 (decide (z1864.2.1 > ((List.length l1858 : Nat) : Int))))))))))))
def L_subwaylaw01_NumJoin_k44 (rec30 : (List UInt8) → Int → Option (Bool)) (rec40 : (List UInt8) → Int → Option (Bool)) (v1926 : Bool) : Option (Bool) :=
  (some (v1926))
def L_subwaylaw01_NumJoin_k41 (rec30 : (List UInt8) → Int → Option (Bool)) (rec40 : (List UInt8) → Int → Option (Bool)) (p1 : (List Int)) (p5 : (List (List UInt8))) (z9 : (Bool)) (v1711 : (List UInt8)) (v1712 : Int) (v1823 : Bool) : Option (Bool) :=
  (cond v1823 ((L_num_Get v1711).bind fun z1827 => (cond (!z1827.2.2) (L_subwaylaw01_NumJoin_k42 rec30 rec40 p5 v1711 v1712 z1827 true) ((idx p1 v1712).bind fun x1914 => (cond (z1827.1 != (IntKind.wrap .i64 x1914)) (L_subwaylaw01_NumJoin_k42 rec30 rec40 p5 v1711 v1712 z1827 true) (cond (decide (z1827.2.1 < 1)) (L_subwaylaw01_NumJoin_k42 rec30 rec40 p5 v1711 v1712 z1827 true) (L_subwaylaw01_NumJoin_k42 rec30 rec40 p5 v1711 v1712 z1827 (decide (z1827.2.1 > ((List.length v1711 : Nat) : Int))))))))) (cond z9 (L_subwaylaw01_NumJoin_k44 rec30 rec40 (((List.length v1711 : Nat) : Int) == 0)) (L_subwaylaw01_NumJoin_k44 rec30 rec40 false)))
def L_subwaylaw01_NumJoin_b36 (rec30 : (List UInt8) → Int → Option (Bool)) (rec40 : (List UInt8) → Int → Option (Bool)) (p1 : (List Int)) (p5 : (List (List UInt8))) (z9 : (Bool)) (v1711 : (List UInt8)) (v1712 : Int) : Option (Bool) :=
  (cond (decide (v1712 < ((List.length p1 : Nat) : Int))) (L_subwaylaw01_NumJoin_k41 rec30 rec40 p1 p5 z9 v1711 v1712 (decide (v1712 < ((List.length p5 : Nat) : Int)))) (L_subwaylaw01_NumJoin_k41 rec30 rec40 p1 p5 z9 v1711 v1712 false))
def L_subwaylaw01_NumJoin_l36 (rec30 : (List UInt8) → Int → Option (Bool)) (p1 : (List Int)) (p5 : (List (List UInt8))) (z9 : (Bool)) : Nat → (List UInt8) → Int → Option (Bool)
  | 0, _, _ => none
  | f + 1, v1711, v1712 => L_subwaylaw01_NumJoin_b36 rec30 (L_subwaylaw01_NumJoin_l36 rec30 p1 p5 z9 f) p1 p5 z9 v1711 v1712
def L_subwaylaw01_NumJoin_k31 (rec30 : (List UInt8) → Int → Option (Bool)) (p1 : (List Int)) (p5 : (List (List UInt8))) (z9 : (Bool)) (v764 : (List UInt8)) (v765 : Int) (v1350 : Bool) : Option (Bool) :=
  (cond v1350 ((idx p5 v765).bind fun x1354 => (cond (decide (((List.length x1354 : Nat) : Int) > 255)) (some (z9)) ((idx p1 v765).bind fun x1364 => ((L_num_Put (IntKind.wrap .i64 x1364)).bind fun z1373 => ((app v764 z1373).bind fun l1382 => ((idx p5 v765).bind fun x1388 => ((L_num_Text x1388).bind fun z1397 => ((app l1382 z1397).bind fun l1406 => (rec30 l1406 (IntKind.wrap .i64 (v765 + 1))))))))))) (L_subwaylaw01_NumJoin_l36 rec30 p1 p5 z9 fuel v764 0))
def L_subwaylaw01_NumJoin_b16 (rec30 : (List UInt8) → Int → Option (Bool)) (p1 : (List Int)) (p5 : (List (List UInt8))) (z9 : (Bool)) (v764 : (List UInt8)) (v765 : Int) : Option (Bool) :=
  (cond (decide (v765 < ((List.length p1 : Nat) : Int))) (L_subwaylaw01_NumJoin_k31 rec30 p1 p5 z9 v764 v765 (decide (v765 < ((List.length p5 : Nat) : Int)))) (L_subwaylaw01_NumJoin_k31 rec30 p1 p5 z9 v764 v765 false))
def L_subwaylaw01_NumJoin_l16 (p1 : (List Int)) (p5 : (List (List UInt8))) (z9 : (Bool)) : Nat → (List UInt8) → Int → Option (Bool)
  | 0, _, _ => none
  | f + 1, v764, v765 => L_subwaylaw01_NumJoin_b16  (L_subwaylaw01_NumJoin_l16 p1 p5 z9 f) p1 p5 z9 v764 v765
def L_subwaylaw01_NumJoin_k1 (p1 : (List Int)) (p5 : (List (List UInt8))) (z9 : (Bool)) (v16 : Bool) : Option (Bool) :=
  (cond v16 (some (z9)) (L_subwaylaw01_NumJoin_l16 p1 p5 z9 fuel ([] : List UInt8) 0))
def L_subwaylaw01_NumJoin (p1 : (List Int)) (p5 : (List (List UInt8))) : Option (Bool) :=
  ((L_subwaylaw01_head ).bind fun z9 => (cond (decide (((List.length p1 : Nat) : Int) > 100)) (L_subwaylaw01_NumJoin_k1 p1 p5 z9 true) (L_subwaylaw01_NumJoin_k1 p1 p5 z9 (decide (((List.length p5 : Nat) : Int) > 100)))))
set_option maxRecDepth 100000 in
set_option maxHeartbeats 4000000 in
theorem L_subwaylaw01_NumJoin_walk (A2 : Option Addr) (c3 : Nat) (A6 : Option Addr) (c7 : Nat) (p1 : (List Int)) (p5 : (List (List UInt8))) (w0 : World) (hL : LaidW w0) (hr4 : RdT (eInt .u32) w0 A2 c3 p1) (hr8 : RdT eStr w0 A6 c7 p5) (r : (Bool)) (H : L_subwaylaw01_NumJoin p1 p5 = some r) :
  Calls Tryd.prog 7 #[(.slice A2 (List.length p1) c3), (.slice A6 (List.length p5) c7)] w0 (fun e w' => e = .returned (.bool r) ∧ SP [] w0 w' []) := by
 unfold L_subwaylaw01_NumJoin at H
 refine calls_start (n := 139) Tryd.func7 (by kernel_rfl) (by kernel_rfl) (by kernel_rfl) ?_
 have hs0 := SP.start [] w0
 refine At.seq (by kernel_rfl) (p0 := [false]) (p1 := [true]) rfl rfl ?_
 refine At.region (by kernel_rfl) (by kernel_rfl) ?_
 refine In.run' 1 (k' := 1) rfl [(4, (.bool false))] (by kernel_rfl) ?_
 refine In.fin (by kernel_rfl) ?_
 refine At.seq (by kernel_rfl) (p0 := [true, false]) (p1 := [true, true]) rfl rfl ?_
 refine At.region (by kernel_rfl) (by kernel_rfl) ?_
 obtain ⟨z9, hz10, H⟩ := bind_elim H
 refine In.step (k' := 1) rfl (by kernel_rfl) ?_
 refine Step.callF (f := 9) (fo := (.func 9)) (xs := #[]) (tys := #[]) (first := #[]) (captured := #[]) (d := (some 15)) (k := 0) (by kernel_rfl) rfl (by kernel_rfl) (by kernel_rfl) Tryd.call9 (L_subwaylaw01_head_walk   w0 (laid_below hL (SP.keeps hs0)) z9 hz10) ?_
 rintro e w11 ⟨rfl, hs12⟩
 refine ⟨_, rfl, ?_⟩
 have hs13 := SP.call hs0 hs12
 clear hs12
 have hs14 : SP [] w0 w11 [] := hs13
 clear hs13
 refine In.run' 1 (k' := 2) rfl [(5, (.bool z9))] (by kernel_rfl) ?_
 refine In.fin (by kernel_rfl) ?_
 refine At.seq (by kernel_rfl) (p0 := [true, true, false]) (p1 := [true, true, true]) rfl rfl ?_
 refine At.seq (by kernel_rfl) (p0 := [true, true, false, false]) (p1 := [true, true, false, true]) rfl rfl ?_
 refine At.join (fun ρ w => ∃ (v16 : Bool), Known ρ [(0, (.slice A2 (List.length p1) c3)), (1, (.slice A6 (List.length p5) c7)), (5, (.bool z9)), (23, (.bool v16))] ∧ SP [] w0 w [] ∧ L_subwaylaw01_NumJoin_k1 p1 p5 z9 v16 = some r) ?_ ?_
 ·refine At.region (by kernel_rfl) (by kernel_rfl) ?_
  refine In.run' 4 (k' := 4) rfl [(16, (.slice A2 (List.length p1) c3)), (17, (.int .i64 ((List.length p1 : Nat) : Int))), (18, (.bool (decide (((List.length p1 : Nat) : Int) > 100)))), (19, (.bool (decide (((List.length p1 : Nat) : Int) > 100))))] (by kernel_rfl) ?_
  refine In.guard (t := 19) (b := (decide (((List.length p1 : Nat) : Int) > 100))) (by kernel_rfl) (fun hb1932 => ?_) (fun hb1932 => ?_)
  ·have H := ct H hb1932
   refine In.run' 4 (k' := 8) rfl [(20, undef), (21, undef), (22, undef), (23, (.bool true))] (by kernel_rfl) ?_
   refine In.fin (by kernel_rfl) ?_
   exact ⟨true, ⟨(by kernel_rfl), (by kernel_rfl), (by kernel_rfl), (by kernel_rfl), trivial⟩, SP.sel hs14 [] rfl rfl, H⟩
  ·have H := cf H hb1932
   refine In.run' 4 (k' := 8) rfl [(20, (.slice A6 (List.length p5) c7)), (21, (.int .i64 ((List.length p5 : Nat) : Int))), (22, (.bool (decide (((List.length p5 : Nat) : Int) > 100)))), (23, (.bool (decide (((List.length p5 : Nat) : Int) > 100))))] (by kernel_rfl) ?_
   refine In.fin (by kernel_rfl) ?_
   exact ⟨(decide (((List.length p5 : Nat) : Int) > 100)), ⟨(by kernel_rfl), (by kernel_rfl), (by kernel_rfl), (by kernel_rfl), trivial⟩, SP.sel hs14 [] rfl rfl, H⟩
 ·rintro ρ w17 ⟨v16, hk, hs18, H⟩
  unfold L_subwaylaw01_NumJoin_k1 at H
  refine At.known [(0, (.slice A2 (List.length p1) c3)), (1, (.slice A6 (List.length p5) c7)), (5, (.bool z9)), (23, (.bool v16))] hk ?_
  refine At.cond (by kernel_rfl) (o := (.tmp 23)) (by kernel_rfl) (b := v16) (by kernel_rfl) (p0 := [true, true, false, true, false]) (p1 := [true, true, false, true, true]) rfl rfl (fun hb19 => ?_) (fun hb19 => ?_)
  ·have H := ct H hb19
   refine At.seq (by kernel_rfl) (p0 := [true, true, false, true, false, false]) (p1 := [true, true, false, true, false, true]) rfl rfl ?_
   refine At.region (by kernel_rfl) (by kernel_rfl) ?_
   refine In.run' 2 (k' := 2) rfl [(24, (.bool z9)), (4, (.bool z9))] (by kernel_rfl) ?_
   refine In.fin (by kernel_rfl) ?_
   refine At.ret (by kernel_rfl) ?_
   refine ⟨(.bool z9), by kernel_rfl, ?_⟩
   obtain rfl := some_elim H
   exact ⟨rfl, SP.sel hs18 [] rfl rfl⟩
  ·have H := cf H hb19
   refine At.skip (by kernel_rfl) ?_
   refine At.seq (by kernel_rfl) (p0 := [true, true, true, false]) (p1 := [true, true, true, true]) rfl rfl ?_
   refine At.region (by kernel_rfl) (by kernel_rfl) ?_
   refine In.run' 1 (k' := 1) rfl [(6, (.slice none (List.length ([] : List UInt8)) 0))] (by kernel_rfl) ?_
   refine In.fin (by kernel_rfl) ?_
   refine At.seq (by kernel_rfl) (p0 := [true, true, true, true, false]) (p1 := [true, true, true, true, true]) rfl rfl ?_
   refine At.seq (by kernel_rfl) (p0 := [true, true, true, true, false, false]) (p1 := [true, true, true, true, false, true]) rfl rfl ?_
   refine At.region (by kernel_rfl) (by kernel_rfl) ?_
   refine In.run' 1 (k' := 1) rfl [(7, (.int .i64 0))] (by kernel_rfl) ?_
   refine In.fin (by kernel_rfl) ?_
   refine At.block (by kernel_rfl) (id := 0) (by kernel_rfl) (p0 := [true, true, true, true, false, true, false]) rfl ?_
   refine At.loop (by kernel_rfl) (p0 := [true, true, true, true, false, true, false, false]) rfl (fun f30 ρ w => ∃ (v764 : (List UInt8)) (v765 : Int) (A762 : Option Addr) (c763 : Nat), Known ρ [(0, (.slice A2 (List.length p1) c3)), (1, (.slice A6 (List.length p5) c7)), (5, (.bool z9)), (6, (.slice A762 (List.length v764) c763)), (7, (.int .i64 v765))] ∧ SP [] w0 w [rowT 5 eU8 A762 c763 v764] ∧ L_subwaylaw01_NumJoin_l16 p1 p5 z9 f30 v764 v765 = some r) (by rintro ρ w ⟨v764, v765, A762, c763, hk, hs, H⟩; cases H) ?_ fuel ?_
   ·rintro f30 ρ w760 ⟨v764, v765, A762, c763, hk, hs761, H⟩
    refine At.known [(0, (.slice A2 (List.length p1) c3)), (1, (.slice A6 (List.length p5) c7)), (5, (.bool z9)), (6, (.slice A762 (List.length v764) c763)), (7, (.int .i64 v765))] hk ?_
    replace H := (show L_subwaylaw01_NumJoin_b16 (L_subwaylaw01_NumJoin_l16 p1 p5 z9 f30) p1 p5 z9 v764 v765 = some r from H)
    unfold L_subwaylaw01_NumJoin_b16 at H
    refine At.seq (by kernel_rfl) (p0 := [true, true, true, true, false, true, false, false, false]) (p1 := [true, true, true, true, false, true, false, false, true]) rfl rfl ?_
    refine At.seq (by kernel_rfl) (p0 := [true, true, true, true, false, true, false, false, false, false]) (p1 := [true, true, true, true, false, true, false, false, false, true]) rfl rfl ?_
    refine At.join (fun ρ w => ∃ (v1350 : Bool), Known ρ [(0, (.slice A2 (List.length p1) c3)), (1, (.slice A6 (List.length p5) c7)), (5, (.bool z9)), (6, (.slice A762 (List.length v764) c763)), (7, (.int .i64 v765)), (34, (.bool v1350))] ∧ SP [] w0 w [rowT 5 eU8 A762 c763 v764] ∧ L_subwaylaw01_NumJoin_k31 (L_subwaylaw01_NumJoin_l16 p1 p5 z9 f30) p1 p5 z9 v764 v765 v1350 = some r) ?_ ?_
    ·refine At.region (by kernel_rfl) (by kernel_rfl) ?_
     refine In.run' 5 (k' := 5) rfl [(25, (.int .i64 v765)), (26, (.slice A2 (List.length p1) c3)), (27, (.int .i64 ((List.length p1 : Nat) : Int))), (28, (.bool (decide (v765 < ((List.length p1 : Nat) : Int))))), (29, (.bool (decide (v765 < ((List.length p1 : Nat) : Int)))))] (by kernel_rfl) ?_
     refine In.guard (t := 29) (b := (decide (v765 < ((List.length p1 : Nat) : Int)))) (by kernel_rfl) (fun hb1931 => ?_) (fun hb1931 => ?_)
     ·have H := ct H hb1931
      refine In.run' 5 (k' := 10) rfl [(30, (.int .i64 v765)), (31, (.slice A6 (List.length p5) c7)), (32, (.int .i64 ((List.length p5 : Nat) : Int))), (33, (.bool (decide (v765 < ((List.length p5 : Nat) : Int))))), (34, (.bool (decide (v765 < ((List.length p5 : Nat) : Int)))))] (by kernel_rfl) ?_
      refine In.fin (by kernel_rfl) ?_
      exact ⟨(decide (v765 < ((List.length p5 : Nat) : Int))), ⟨(by kernel_rfl), (by kernel_rfl), (by kernel_rfl), (by kernel_rfl), (by kernel_rfl), (by kernel_rfl), trivial⟩, SP.sel hs761 [0] rfl rfl, H⟩
     ·have H := cf H hb1931
      refine In.run' 5 (k' := 10) rfl [(30, undef), (31, undef), (32, undef), (33, undef), (34, (.bool false))] (by kernel_rfl) ?_
      refine In.fin (by kernel_rfl) ?_
      exact ⟨false, ⟨(by kernel_rfl), (by kernel_rfl), (by kernel_rfl), (by kernel_rfl), (by kernel_rfl), (by kernel_rfl), trivial⟩, SP.sel hs761 [0] rfl rfl, H⟩
    ·rintro ρ w1351 ⟨v1350, hk, hs1352, H⟩
     unfold L_subwaylaw01_NumJoin_k31 at H
     refine At.known [(0, (.slice A2 (List.length p1) c3)), (1, (.slice A6 (List.length p5) c7)), (5, (.bool z9)), (6, (.slice A762 (List.length v764) c763)), (7, (.int .i64 v765)), (34, (.bool v1350))] hk ?_
     refine At.cond (by kernel_rfl) (o := (.tmp 34)) (by kernel_rfl) (b := v1350) (by kernel_rfl) (p0 := [true, true, true, true, false, true, false, false, false, true, false]) (p1 := [true, true, true, true, false, true, false, false, false, true, true]) rfl rfl (fun hb1353 => ?_) (fun hb1353 => ?_)
     ·have H := ct H hb1353
      refine At.skip (by kernel_rfl) ?_
      refine At.seq (by kernel_rfl) (p0 := [true, true, true, true, false, true, false, false, true, false]) (p1 := [true, true, true, true, false, true, false, false, true, true]) rfl rfl ?_
      refine At.block (by kernel_rfl) (id := 1) (by kernel_rfl) (p0 := [true, true, true, true, false, true, false, false, true, false, false]) rfl ?_
      refine At.seq (by kernel_rfl) (p0 := [true, true, true, true, false, true, false, false, true, false, false, false]) (p1 := [true, true, true, true, false, true, false, false, true, false, false, true]) rfl rfl ?_
      refine At.seq (by kernel_rfl) (p0 := [true, true, true, true, false, true, false, false, true, false, false, false, false]) (p1 := [true, true, true, true, false, true, false, false, true, false, false, false, true]) rfl rfl ?_
      refine At.region (by kernel_rfl) (by kernel_rfl) ?_
      refine In.run' 2 (k' := 2) rfl [(37, (.slice A6 (List.length p5) c7)), (38, (.int .i64 v765))] (by kernel_rfl) ?_
      obtain ⟨x1354, hp1355, hq1356, hx1357, H⟩ := idx_elim H
      refine In.step (k' := 3) rfl (by kernel_rfl) ?_
      refine Step.elem (e := eStr) (l := p5) (A := A6) (c := c7) (T := 38) (E := 9) (x := (.tmp 37)) (ix := (.tmp 38)) (ki := .i64) (iz := v765) (d := (some 39)) (k := 2) (by kernel_rfl) rfl (by kernel_rfl) (by kernel_rfl) (by kernel_rfl) (by kernel_rfl) (RdT.sp hr8 hs1352) hp1355 hq1356 ?_
      intro b1358 o1359 hA1361 hb1362 hc1360
      refine In.step (k' := 4) rfl (by kernel_rfl) ?_
      refine Step.cell (t := 9) (x := (.tmp 39)) (b := b1358) (off := (o1359 + Int.toNat v765 * eStr.sz)) (v := (.string ⟨List.toArray x1354⟩)) (d := (some 40)) (k := 3) (by kernel_rfl) rfl (by kernel_rfl) (by kernel_rfl) (elem_cell (e := eStr) (rdt_cells (RdT.sp hr8 hs1352) hA1361 hp1355 hq1356) hx1357 (j := 0) rfl) ?_
      refine In.run' 2 (k' := 6) rfl [(41, (.int .i64 ((List.length x1354 : Nat) : Int))), (42, (.bool (decide (((List.length x1354 : Nat) : Int) > 255))))] (by kernel_rfl) ?_
      refine In.fin (by kernel_rfl) ?_
      refine At.cond (by kernel_rfl) (o := (.tmp 42)) (by kernel_rfl) (b := (decide (((List.length x1354 : Nat) : Int) > 255))) (by kernel_rfl) (p0 := [true, true, true, true, false, true, false, false, true, false, false, false, true, false]) (p1 := [true, true, true, true, false, true, false, false, true, false, false, false, true, true]) rfl rfl (fun hb1363 => ?_) (fun hb1363 => ?_)
      ·have H := ct H hb1363
       refine At.seq (by kernel_rfl) (p0 := [true, true, true, true, false, true, false, false, true, false, false, false, true, false, false]) (p1 := [true, true, true, true, false, true, false, false, true, false, false, false, true, false, true]) rfl rfl ?_
       refine At.region (by kernel_rfl) (by kernel_rfl) ?_
       refine In.run' 2 (k' := 2) rfl [(43, (.bool z9)), (4, (.bool z9))] (by kernel_rfl) ?_
       refine In.fin (by kernel_rfl) ?_
       refine At.ret (by kernel_rfl) ?_
       refine ⟨(.bool z9), by kernel_rfl, ?_⟩
       obtain rfl := some_elim H
       exact ⟨rfl, SP.sel hs1352 [] rfl rfl⟩
      ·have H := cf H hb1363
       refine At.skip (by kernel_rfl) ?_
       obtain ⟨x1364, hp1365, hq1366, hx1367, H⟩ := idx_elim H
       obtain ⟨z1373, hz1374, H⟩ := bind_elim H
       obtain ⟨hl1381, H⟩ := app_elim H
       obtain ⟨l1382, hyl1382⟩ : ∃ y, v764 ++ z1373 = y := ⟨_, rfl⟩
       rw [hyl1382] at H
       obtain ⟨x1388, hp1389, hq1390, hx1391, H⟩ := idx_elim H
       obtain ⟨z1397, hz1398, H⟩ := bind_elim H
       obtain ⟨hl1405, H⟩ := app_elim H
       obtain ⟨l1406, hyl1406⟩ : ∃ y, l1382 ++ z1397 = y := ⟨_, rfl⟩
       rw [hyl1406] at H
       refine At.stages (by kernel_rfl) (by kernel_rfl) (by kernel_rfl) (by kernel_rfl) (by kernel_rfl) [GEq (.slice A762 (List.length v764) c763), GEq (.slice A2 (List.length p1) c3), GEq (.int .i64 v765), GElem0 A2 (eInt .u32).sz v765, GEq (.int .u32 x1364), GEq (.int .i64 (IntKind.wrap .i64 x1364)), GAny, GAny, GEq (.slice A6 (List.length p5) c7), GEq (.int .i64 v765), GElem0 A6 eStr.sz v765, GEq (.string ⟨List.toArray x1388⟩), GAny, GAny, GAny] [6, 7, 12, 13, 14] [([], fun vs w => VL vs [] ∧ SP [] w0 w [rowT 5 eU8 A762 c763 v764]), ([6], fun vs w => ∃ (A1414 : Option Addr), ∃ (c1415 : Nat), VL vs [(.slice A1414 (List.length z1373) c1415)] ∧ SP [] w0 w [rowT 5 eU8 A762 c763 v764, rowT 5 eU8 A1414 c1415 z1373]), ([6, 7], fun vs w => ∃ (A1420 : Option Addr), ∃ (c1421 : Nat), ∃ (A1424 : Option Addr), ∃ (c1425 : Nat), VL vs [(.slice A1420 (List.length z1373) c1421), (.slice A1424 (List.length l1382) c1425)] ∧ SP [] w0 w [rowT 5 eU8 A1424 c1425 l1382, rowT 5 eU8 A1420 c1421 z1373]), ([6, 7, 12], fun vs w => ∃ (A1431 : Option Addr), ∃ (c1432 : Nat), ∃ (A1435 : Option Addr), ∃ (c1436 : Nat), ∃ (A1442 : Option Addr), ∃ (c1443 : Nat), VL vs [(.slice A1431 (List.length z1373) c1432), (.slice A1435 (List.length l1382) c1436), (.slice A1442 (List.length z1397) c1443)] ∧ SP [] w0 w [rowT 5 eU8 A1435 c1436 l1382, rowT 5 eU8 A1431 c1432 z1373, rowT 5 eU8 A1442 c1443 z1397]), ([6, 7, 12, 13], fun vs w => ∃ (A1448 : Option Addr), ∃ (c1449 : Nat), ∃ (A1452 : Option Addr), ∃ (c1453 : Nat), ∃ (A1459 : Option Addr), ∃ (c1460 : Nat), ∃ (A1463 : Option Addr), ∃ (c1464 : Nat), VL vs [(.slice A1448 (List.length z1373) c1449), (.slice A1452 (List.length l1382) c1453), (.slice A1459 (List.length z1397) c1460), (.slice A1463 (List.length l1406) c1464)] ∧ SP [] w0 w [rowT 5 eU8 A1463 c1464 l1406, rowT 5 eU8 A1448 c1449 z1373, rowT 5 eU8 A1459 c1460 z1397]), ([6, 7, 12, 13, 14], fun vs w => ∃ (A1470 : Option Addr), ∃ (c1471 : Nat), ∃ (A1474 : Option Addr), ∃ (c1475 : Nat), ∃ (A1481 : Option Addr), ∃ (c1482 : Nat), ∃ (A1485 : Option Addr), ∃ (c1486 : Nat), VL vs [(.slice A1470 (List.length z1373) c1471), (.slice A1474 (List.length l1382) c1475), (.slice A1481 (List.length z1397) c1482), (.slice A1485 (List.length l1406) c1486), (.slice A1485 (List.length l1406) c1486)] ∧ SP [] w0 w [rowT 5 eU8 A1485 c1486 l1406, rowT 5 eU8 A1470 c1471 z1373, rowT 5 eU8 A1481 c1482 z1397])] (N := 15) (by kernel_rfl) ⟨by kernel_rfl, Nat.zero_lt_succ _⟩ (show VL [] [] ∧ SP [] w0 w1351.drew [rowT 5 eU8 A762 c763 v764] from ⟨trivial, SP.drew hs1352⟩) ⟨⟨⟨⟨⟨⟨⟨⟨⟨⟨⟨⟨⟨⟨⟨trivial, ?_⟩, ?_⟩, ?_⟩, ?_⟩, ?_⟩, ?_⟩, ?_⟩, ?_⟩, ?_⟩, ?_⟩, ?_⟩, ?_⟩, ?_⟩, ?_⟩, ?_⟩ (last := 5) (by kernel_rfl) ?_
       ·exact Owe.run (by kernel_rfl) [(6, (.slice A762 (List.length v764) c763))] ⟨gS (by kernel_rfl) (by kernel_rfl), trivial⟩ (.slice A762 (List.length v764) c763) (fun _ _ => by kernel_rfl) rfl
       ·exact Owe.run (by kernel_rfl) [(0, (.slice A2 (List.length p1) c3))] ⟨gS (by kernel_rfl) (by kernel_rfl), trivial⟩ (.slice A2 (List.length p1) c3) (fun _ _ => by kernel_rfl) rfl
       ·exact Owe.run (by kernel_rfl) [(7, (.int .i64 v765))] ⟨gS (by kernel_rfl) (by kernel_rfl), trivial⟩ (.int .i64 v765) (fun _ _ => by kernel_rfl) rfl
       ·refine Owe.light (by kernel_rfl) [0] (by kernel_rfl) (all_cons ?_ all_nil)
        ·intro ρ' w' hs hah hP
         obtain ⟨hvl1491, hs1490⟩ := hP
         have e45 := hah 1 45 (by kernel_rfl)
         have e46 := hah 2 46 (by kernel_rfl)
         have hkn : Known ρ' [(45, (.slice A2 (List.length p1) c3)), (46, (.int .i64 v765))] := ⟨e45, e46, trivial⟩
         refine Step.known _ hkn ?_
         refine Step.elem (e := (eInt .u32)) (l := p1) (A := A2) (c := c3) (T := 37) (E := 39) (x := (.tmp 45)) (ix := (.tmp 46)) (ki := .i64) (iz := v765) (d := (some 47)) (k := 3) (by kernel_rfl) rfl (by kernel_rfl) (by kernel_rfl) (by kernel_rfl) (by kernel_rfl) (RdT.sp hr4 hs1490) hp1365 hq1366 ?_
         intro b1492 o1493 hA1495 hb1496 hc1494
         exact ⟨rfl, _, updO_known hkn, ⟨b1492, o1493, hA1495, rfl⟩⟩
       ·refine Owe.light (by kernel_rfl) [0] (by kernel_rfl) (all_cons ?_ all_nil)
        ·intro ρ' w' hs hah hP
         obtain ⟨hvl1498, hs1497⟩ := hP
         obtain ⟨b1499, o1500, hA1501, e47⟩ := hah 3 47 (by kernel_rfl)
         have hkn : Known ρ' [(47, (.pointer (some ⟨b1499, (o1500 + Int.toNat v765 * (eInt .u32).sz), none⟩)))] := ⟨e47, trivial⟩
         refine Step.known _ hkn ?_
         refine Step.cell (t := 39) (x := (.tmp 47)) (b := b1499) (off := (o1500 + Int.toNat v765 * (eInt .u32).sz)) (v := (.int .u32 x1364)) (d := (some 48)) (k := 4) (by kernel_rfl) rfl (by kernel_rfl) (by kernel_rfl) (elem_cell (e := (eInt .u32)) (rdt_cells (RdT.sp hr4 hs1497) hA1501 hp1365 hq1366) hx1367 (j := 0) rfl) ?_
         exact ⟨rfl, _, updO_known hkn, rfl⟩
       ·exact Owe.run (by kernel_rfl) [(48, (.int .u32 x1364))] ⟨gA 4 (by kernel_rfl) (by kernel_rfl), trivial⟩ (.int .i64 (IntKind.wrap .i64 x1364)) (fun _ _ => by kernel_rfl) rfl
       ·refine Owe.heavy (by kernel_rfl) [(0, 1)] (by kernel_rfl) (all_cons ⟨by kernel_rfl, by kernel_rfl, ?_⟩ all_nil)
        ·intro ρ' w' hs hah hP
         obtain ⟨hvl1503, hs1502⟩ := hP
         have e49 := hah 5 49 (by kernel_rfl)
         have hkn : Known ρ' [(49, (.int .i64 (IntKind.wrap .i64 x1364)))] := ⟨e49, trivial⟩
         refine Step.known _ hkn ?_
         refine Step.callF (f := 16) (fo := (.func 16)) (xs := #[(.tmp 49)]) (tys := #[2]) (first := #[]) (captured := #[]) (d := (some 50)) (k := 6) (by kernel_rfl) rfl (by kernel_rfl) (by kernel_rfl) Tryd.call16 (L_num_Put_walk  (IntKind.wrap .i64 x1364) w'  z1373 hz1374) ?_
         rintro e w1504 ⟨A1506, c1507, rfl, hs1505⟩
         refine ⟨_, rfl, ?_⟩
         have hs1508 := SP.call hs1502 hs1505
         clear hs1505
         have hs1509 : SP [] w0 w1504 [rowT 5 eU8 A762 c763 v764, rowT 5 eU8 A1506 c1507 z1373] := hs1508
         clear hs1508
         refine ⟨_, updO_known hkn, trivial, ?_⟩
         exact (Exists.intro A1506 (Exists.intro c1507 (And.intro (And.intro rfl (trivial)) (hs1509))))
       ·refine Owe.heavy (by kernel_rfl) [(1, 2)] (by kernel_rfl) (all_cons ⟨by kernel_rfl, by kernel_rfl, ?_⟩ all_nil)
        ·intro ρ' w' hs hah hP
         obtain ⟨A1414, c1415, hvl1512, hs1510⟩ := hP
         obtain ⟨q1511, -⟩ := hvl1512
         have e44 := hah 0 44 (by kernel_rfl)
         have e50 : ρ' 50 = (.slice A1414 (List.length z1373) c1415) := (valF_eq (h := 6) (by kernel_rfl)).symm.trans q1511
         have hkn : Known ρ' [(44, (.slice A762 (List.length v764) c763)), (50, (.slice A1414 (List.length z1373) c1415))] := ⟨e44, e50, trivial⟩
         refine Step.known _ hkn ?_
         refine Step.append (e := eU8) (l := v764) (m := z1373) (A := A762) (c := c763) (T := 22) (TX := 22) (E := 5) (b := 1) (s := (.tmp 44)) (x := (.tmp 50)) (i := 0) (vx := (.slice A1414 (List.length z1373) c1415)) (d := (some 51)) (k := 7) (by kernel_rfl) rfl (by kernel_rfl) (by kernel_rfl) (by kernel_rfl) (by kernel_rfl) rfl hs1510 rfl (src_rdt (E := 5) (by kernel_rfl) (rowT_rd (SP.get hs1510 (i := 1) rfl))) hl1381 ?_
         rw [hyl1382]
         intro A1513 c1514 w1515 hs1516
         have hs1517 : SP [] w0 w1515 [rowT 5 eU8 A1513 c1514 l1382, rowT 5 eU8 A1414 c1415 z1373] := hs1516
         clear hs1516
         refine ⟨_, updO_known hkn, trivial, ?_⟩
         exact (Exists.intro A1414 (Exists.intro c1415 (Exists.intro A1513 (Exists.intro c1514 (And.intro (And.intro q1511 (And.intro rfl (trivial))) (hs1517))))))
       ·exact Owe.run (by kernel_rfl) [(1, (.slice A6 (List.length p5) c7))] ⟨gS (by kernel_rfl) (by kernel_rfl), trivial⟩ (.slice A6 (List.length p5) c7) (fun _ _ => by kernel_rfl) rfl
       ·exact Owe.run (by kernel_rfl) [(7, (.int .i64 v765))] ⟨gS (by kernel_rfl) (by kernel_rfl), trivial⟩ (.int .i64 v765) (fun _ _ => by kernel_rfl) rfl
       ·refine Owe.light (by kernel_rfl) [0, 1, 2] (by kernel_rfl) (all_cons ?_ (all_cons ?_ (all_cons ?_ all_nil)))
        ·intro ρ' w' hs hah hP
         obtain ⟨hvl1519, hs1518⟩ := hP
         have e52 := hah 8 52 (by kernel_rfl)
         have e53 := hah 9 53 (by kernel_rfl)
         have hkn : Known ρ' [(52, (.slice A6 (List.length p5) c7)), (53, (.int .i64 v765))] := ⟨e52, e53, trivial⟩
         refine Step.known _ hkn ?_
         refine Step.elem (e := eStr) (l := p5) (A := A6) (c := c7) (T := 38) (E := 9) (x := (.tmp 52)) (ix := (.tmp 53)) (ki := .i64) (iz := v765) (d := (some 54)) (k := 10) (by kernel_rfl) rfl (by kernel_rfl) (by kernel_rfl) (by kernel_rfl) (by kernel_rfl) (RdT.sp hr8 hs1518) hp1389 hq1390 ?_
         intro b1520 o1521 hA1523 hb1524 hc1522
         exact ⟨rfl, _, updO_known hkn, ⟨b1520, o1521, hA1523, rfl⟩⟩
        ·intro ρ' w' hs hah hP
         obtain ⟨A1414, c1415, hvl1527, hs1525⟩ := hP
         obtain ⟨q1526, -⟩ := hvl1527
         have e52 := hah 8 52 (by kernel_rfl)
         have e53 := hah 9 53 (by kernel_rfl)
         have hkn : Known ρ' [(52, (.slice A6 (List.length p5) c7)), (53, (.int .i64 v765))] := ⟨e52, e53, trivial⟩
         refine Step.known _ hkn ?_
         refine Step.elem (e := eStr) (l := p5) (A := A6) (c := c7) (T := 38) (E := 9) (x := (.tmp 52)) (ix := (.tmp 53)) (ki := .i64) (iz := v765) (d := (some 54)) (k := 10) (by kernel_rfl) rfl (by kernel_rfl) (by kernel_rfl) (by kernel_rfl) (by kernel_rfl) (RdT.sp hr8 hs1525) hp1389 hq1390 ?_
         intro b1528 o1529 hA1531 hb1532 hc1530
         exact ⟨rfl, _, updO_known hkn, ⟨b1528, o1529, hA1531, rfl⟩⟩
        ·intro ρ' w' hs hah hP
         obtain ⟨A1420, c1421, A1424, c1425, hvl1536, hs1533⟩ := hP
         obtain ⟨q1534, q1535, -⟩ := hvl1536
         have e52 := hah 8 52 (by kernel_rfl)
         have e53 := hah 9 53 (by kernel_rfl)
         have hkn : Known ρ' [(52, (.slice A6 (List.length p5) c7)), (53, (.int .i64 v765))] := ⟨e52, e53, trivial⟩
         refine Step.known _ hkn ?_
         refine Step.elem (e := eStr) (l := p5) (A := A6) (c := c7) (T := 38) (E := 9) (x := (.tmp 52)) (ix := (.tmp 53)) (ki := .i64) (iz := v765) (d := (some 54)) (k := 10) (by kernel_rfl) rfl (by kernel_rfl) (by kernel_rfl) (by kernel_rfl) (by kernel_rfl) (RdT.sp hr8 hs1533) hp1389 hq1390 ?_
         intro b1537 o1538 hA1540 hb1541 hc1539
         exact ⟨rfl, _, updO_known hkn, ⟨b1537, o1538, hA1540, rfl⟩⟩
       ·refine Owe.light (by kernel_rfl) [0, 1, 2] (by kernel_rfl) (all_cons ?_ (all_cons ?_ (all_cons ?_ all_nil)))
        ·intro ρ' w' hs hah hP
         obtain ⟨hvl1543, hs1542⟩ := hP
         obtain ⟨b1544, o1545, hA1546, e54⟩ := hah 10 54 (by kernel_rfl)
         have hkn : Known ρ' [(54, (.pointer (some ⟨b1544, (o1545 + Int.toNat v765 * eStr.sz), none⟩)))] := ⟨e54, trivial⟩
         refine Step.known _ hkn ?_
         refine Step.cell (t := 9) (x := (.tmp 54)) (b := b1544) (off := (o1545 + Int.toNat v765 * eStr.sz)) (v := (.string ⟨List.toArray x1388⟩)) (d := (some 55)) (k := 11) (by kernel_rfl) rfl (by kernel_rfl) (by kernel_rfl) (elem_cell (e := eStr) (rdt_cells (RdT.sp hr8 hs1542) hA1546 hp1389 hq1390) hx1391 (j := 0) rfl) ?_
         exact ⟨rfl, _, updO_known hkn, rfl⟩
        ·intro ρ' w' hs hah hP
         obtain ⟨A1414, c1415, hvl1549, hs1547⟩ := hP
         obtain ⟨q1548, -⟩ := hvl1549
         obtain ⟨b1550, o1551, hA1552, e54⟩ := hah 10 54 (by kernel_rfl)
         have hkn : Known ρ' [(54, (.pointer (some ⟨b1550, (o1551 + Int.toNat v765 * eStr.sz), none⟩)))] := ⟨e54, trivial⟩
         refine Step.known _ hkn ?_
         refine Step.cell (t := 9) (x := (.tmp 54)) (b := b1550) (off := (o1551 + Int.toNat v765 * eStr.sz)) (v := (.string ⟨List.toArray x1388⟩)) (d := (some 55)) (k := 11) (by kernel_rfl) rfl (by kernel_rfl) (by kernel_rfl) (elem_cell (e := eStr) (rdt_cells (RdT.sp hr8 hs1547) hA1552 hp1389 hq1390) hx1391 (j := 0) rfl) ?_
         exact ⟨rfl, _, updO_known hkn, rfl⟩
        ·intro ρ' w' hs hah hP
         obtain ⟨A1420, c1421, A1424, c1425, hvl1556, hs1553⟩ := hP
         obtain ⟨q1554, q1555, -⟩ := hvl1556
         obtain ⟨b1557, o1558, hA1559, e54⟩ := hah 10 54 (by kernel_rfl)
         have hkn : Known ρ' [(54, (.pointer (some ⟨b1557, (o1558 + Int.toNat v765 * eStr.sz), none⟩)))] := ⟨e54, trivial⟩
         refine Step.known _ hkn ?_
         refine Step.cell (t := 9) (x := (.tmp 54)) (b := b1557) (off := (o1558 + Int.toNat v765 * eStr.sz)) (v := (.string ⟨List.toArray x1388⟩)) (d := (some 55)) (k := 11) (by kernel_rfl) rfl (by kernel_rfl) (by kernel_rfl) (elem_cell (e := eStr) (rdt_cells (RdT.sp hr8 hs1553) hA1559 hp1389 hq1390) hx1391 (j := 0) rfl) ?_
         exact ⟨rfl, _, updO_known hkn, rfl⟩
       ·refine Owe.heavy (by kernel_rfl) [(2, 3)] (by kernel_rfl) (all_cons ⟨by kernel_rfl, by kernel_rfl, ?_⟩ all_nil)
        ·intro ρ' w' hs hah hP
         obtain ⟨A1420, c1421, A1424, c1425, hvl1563, hs1560⟩ := hP
         obtain ⟨q1561, q1562, -⟩ := hvl1563
         have e55 := hah 11 55 (by kernel_rfl)
         have hkn : Known ρ' [(55, (.string ⟨List.toArray x1388⟩))] := ⟨e55, trivial⟩
         refine Step.known _ hkn ?_
         refine Step.callF (f := 18) (fo := (.func 18)) (xs := #[(.tmp 55)]) (tys := #[9]) (first := #[]) (captured := #[]) (d := (some 56)) (k := 12) (by kernel_rfl) rfl (by kernel_rfl) (by kernel_rfl) Tryd.call18 (L_num_Text_walk  x1388 w'  z1397 hz1398) ?_
         rintro e w1564 ⟨A1566, c1567, rfl, hs1565⟩
         refine ⟨_, rfl, ?_⟩
         have hs1568 := SP.call hs1560 hs1565
         clear hs1565
         have hs1569 : SP [] w0 w1564 [rowT 5 eU8 A1424 c1425 l1382, rowT 5 eU8 A1420 c1421 z1373, rowT 5 eU8 A1566 c1567 z1397] := hs1568
         clear hs1568
         refine ⟨_, updO_known hkn, trivial, ?_⟩
         exact (Exists.intro A1420 (Exists.intro c1421 (Exists.intro A1424 (Exists.intro c1425 (Exists.intro A1566 (Exists.intro c1567 (And.intro (And.intro q1561 (And.intro q1562 (And.intro rfl (trivial)))) (hs1569))))))))
       ·refine Owe.heavy (by kernel_rfl) [(3, 4)] (by kernel_rfl) (all_cons ⟨by kernel_rfl, by kernel_rfl, ?_⟩ all_nil)
        ·intro ρ' w' hs hah hP
         obtain ⟨A1431, c1432, A1435, c1436, A1442, c1443, hvl1574, hs1570⟩ := hP
         obtain ⟨q1571, q1572, q1573, -⟩ := hvl1574
         have e51 : ρ' 51 = (.slice A1435 (List.length l1382) c1436) := (valF_eq (h := 7) (by kernel_rfl)).symm.trans q1572
         have e56 : ρ' 56 = (.slice A1442 (List.length z1397) c1443) := (valF_eq (h := 12) (by kernel_rfl)).symm.trans q1573
         have hkn : Known ρ' [(51, (.slice A1435 (List.length l1382) c1436)), (56, (.slice A1442 (List.length z1397) c1443))] := ⟨e51, e56, trivial⟩
         refine Step.known _ hkn ?_
         refine Step.append (e := eU8) (l := l1382) (m := z1397) (A := A1435) (c := c1436) (T := 22) (TX := 22) (E := 5) (b := 1) (s := (.tmp 51)) (x := (.tmp 56)) (i := 0) (vx := (.slice A1442 (List.length z1397) c1443)) (d := (some 57)) (k := 13) (by kernel_rfl) rfl (by kernel_rfl) (by kernel_rfl) (by kernel_rfl) (by kernel_rfl) rfl hs1570 rfl (src_rdt (E := 5) (by kernel_rfl) (rowT_rd (SP.get hs1570 (i := 2) rfl))) hl1405 ?_
         rw [hyl1406]
         intro A1575 c1576 w1577 hs1578
         have hs1579 : SP [] w0 w1577 [rowT 5 eU8 A1575 c1576 l1406, rowT 5 eU8 A1431 c1432 z1373, rowT 5 eU8 A1442 c1443 z1397] := hs1578
         clear hs1578
         refine ⟨_, updO_known hkn, trivial, ?_⟩
         exact (Exists.intro A1431 (Exists.intro c1432 (Exists.intro A1435 (Exists.intro c1436 (Exists.intro A1442 (Exists.intro c1443 (Exists.intro A1575 (Exists.intro c1576 (And.intro (And.intro q1571 (And.intro q1572 (And.intro q1573 (And.intro rfl (trivial))))) (hs1579))))))))))
       ·refine Owe.heavy (by kernel_rfl) [(4, 5)] (by kernel_rfl) (all_cons ⟨by kernel_rfl, by kernel_rfl, ?_⟩ all_nil)
        ·intro ρ' w' hs hah hP
         obtain ⟨A1448, c1449, A1452, c1453, A1459, c1460, A1463, c1464, hvl1585, hs1580⟩ := hP
         obtain ⟨q1581, q1582, q1583, q1584, -⟩ := hvl1585
         have e57 : ρ' 57 = (.slice A1463 (List.length l1406) c1464) := (valF_eq (h := 13) (by kernel_rfl)).symm.trans q1584
         have hkn : Known ρ' [(57, (.slice A1463 (List.length l1406) c1464))] := ⟨e57, trivial⟩
         refine Step.known _ hkn ?_
         refine Step.run (k := 14) (v := (.slice A1463 (List.length l1406) c1464)) (by kernel_rfl) ?_
         refine ⟨_, updO_known hkn, trivial, ?_⟩
         exact (Exists.intro A1448 (Exists.intro c1449 (Exists.intro A1452 (Exists.intro c1453 (Exists.intro A1459 (Exists.intro c1460 (Exists.intro A1463 (Exists.intro c1464 (And.intro (And.intro q1581 (And.intro q1582 (And.intro q1583 (And.intro q1584 (And.intro rfl (trivial)))))) (hs1580))))))))))
       ·intro ρ' w' hs hf hP
        obtain ⟨A1470, c1471, A1474, c1475, A1481, c1482, A1485, c1486, hvl1592, hs1586⟩ := hP
        obtain ⟨q1587, q1588, q1589, q1590, q1591, -⟩ := hvl1592
        have e0 : ρ' 0 = (.slice A2 (List.length p1) c3) := (hs 0 (by kernel_rfl)).trans (by kernel_rfl)
        have e1 : ρ' 1 = (.slice A6 (List.length p5) c7) := (hs 1 (by kernel_rfl)).trans (by kernel_rfl)
        have e5 : ρ' 5 = (.bool z9) := (hs 5 (by kernel_rfl)).trans (by kernel_rfl)
        have e6 : ρ' 6 = (.slice A1485 (List.length l1406) c1486) := (valF_eq (h := 14) (by kernel_rfl)).symm.trans q1591
        have e7 : ρ' 7 = (.int .i64 v765) := (hs 7 (by kernel_rfl)).trans (by kernel_rfl)
        refine postKnown [(0, (.slice A2 (List.length p1) c3)), (1, (.slice A6 (List.length p5) c7)), (5, (.bool z9)), (6, (.slice A1485 (List.length l1406) c1486)), (7, (.int .i64 v765))] ⟨e0, e1, e5, e6, e7, trivial⟩ ?_
        obtain ⟨w1593, hww1593⟩ : ∃ x, w' = x := ⟨_, rfl⟩
        rw [hww1593] at hs1586 ⊢
        refine At.region (by kernel_rfl) (by kernel_rfl) ?_
        refine In.run' 3 (k' := 3) rfl [(35, (.int .i64 v765)), (36, (.int .i64 (IntKind.wrap .i64 (v765 + 1)))), (7, (.int .i64 (IntKind.wrap .i64 (v765 + 1))))] (by kernel_rfl) ?_
        refine In.fin (by kernel_rfl) ?_
        exact ⟨l1406, (IntKind.wrap .i64 (v765 + 1)), A1485, c1486, ⟨(by kernel_rfl), (by kernel_rfl), (by kernel_rfl), (by kernel_rfl), (by kernel_rfl), trivial⟩, SP.sel hs1586 [0] rfl rfl, H⟩
     ·have H := cf H hb1353
      refine At.exit (by kernel_rfl) (id := 0) (by kernel_rfl) ?_
      refine At.seq (by kernel_rfl) (p0 := [true, true, true, true, true, false]) (p1 := [true, true, true, true, true, true]) rfl rfl ?_
      refine At.seq (by kernel_rfl) (p0 := [true, true, true, true, true, false, false]) (p1 := [true, true, true, true, true, false, true]) rfl rfl ?_
      refine At.region (by kernel_rfl) (by kernel_rfl) ?_
      refine In.run' 1 (k' := 1) rfl [(8, (.int .i64 0))] (by kernel_rfl) ?_
      refine In.fin (by kernel_rfl) ?_
      refine At.block (by kernel_rfl) (id := 2) (by kernel_rfl) (p0 := [true, true, true, true, true, false, true, false]) rfl ?_
      refine At.loop (by kernel_rfl) (p0 := [true, true, true, true, true, false, true, false, false]) rfl (fun f40 ρ w => ∃ (v1711 : (List UInt8)) (v1712 : Int) (A1709 : Option Addr) (c1710 : Nat), Known ρ [(0, (.slice A2 (List.length p1) c3)), (1, (.slice A6 (List.length p5) c7)), (5, (.bool z9)), (6, (.slice A1709 (List.length v1711) c1710)), (8, (.int .i64 v1712))] ∧ SP [] w0 w [rowT 5 eU8 A1709 c1710 v1711] ∧ L_subwaylaw01_NumJoin_l36 (L_subwaylaw01_NumJoin_l16 p1 p5 z9 f30) p1 p5 z9 f40 v1711 v1712 = some r) (by rintro ρ w ⟨v1711, v1712, A1709, c1710, hk, hs, H⟩; cases H) ?_ fuel ?_
      ·rintro f40 ρ w1707 ⟨v1711, v1712, A1709, c1710, hk, hs1708, H⟩
       refine At.known [(0, (.slice A2 (List.length p1) c3)), (1, (.slice A6 (List.length p5) c7)), (5, (.bool z9)), (6, (.slice A1709 (List.length v1711) c1710)), (8, (.int .i64 v1712))] hk ?_
       replace H := (show L_subwaylaw01_NumJoin_b36 (L_subwaylaw01_NumJoin_l16 p1 p5 z9 f30) (L_subwaylaw01_NumJoin_l36 (L_subwaylaw01_NumJoin_l16 p1 p5 z9 f30) p1 p5 z9 f40) p1 p5 z9 v1711 v1712 = some r from H)
       unfold L_subwaylaw01_NumJoin_b36 at H
       refine At.seq (by kernel_rfl) (p0 := [true, true, true, true, true, false, true, false, false, false]) (p1 := [true, true, true, true, true, false, true, false, false, true]) rfl rfl ?_
       refine At.seq (by kernel_rfl) (p0 := [true, true, true, true, true, false, true, false, false, false, false]) (p1 := [true, true, true, true, true, false, true, false, false, false, true]) rfl rfl ?_
       refine At.join (fun ρ w => ∃ (v1823 : Bool), Known ρ [(0, (.slice A2 (List.length p1) c3)), (1, (.slice A6 (List.length p5) c7)), (5, (.bool z9)), (6, (.slice A1709 (List.length v1711) c1710)), (8, (.int .i64 v1712)), (67, (.bool v1823))] ∧ SP [] w0 w [rowT 5 eU8 A1709 c1710 v1711] ∧ L_subwaylaw01_NumJoin_k41 (L_subwaylaw01_NumJoin_l16 p1 p5 z9 f30) (L_subwaylaw01_NumJoin_l36 (L_subwaylaw01_NumJoin_l16 p1 p5 z9 f30) p1 p5 z9 f40) p1 p5 z9 v1711 v1712 v1823 = some r) ?_ ?_
       ·refine At.region (by kernel_rfl) (by kernel_rfl) ?_
        refine In.run' 5 (k' := 5) rfl [(58, (.int .i64 v1712)), (59, (.slice A2 (List.length p1) c3)), (60, (.int .i64 ((List.length p1 : Nat) : Int))), (61, (.bool (decide (v1712 < ((List.length p1 : Nat) : Int))))), (62, (.bool (decide (v1712 < ((List.length p1 : Nat) : Int)))))] (by kernel_rfl) ?_
        refine In.guard (t := 62) (b := (decide (v1712 < ((List.length p1 : Nat) : Int)))) (by kernel_rfl) (fun hb1930 => ?_) (fun hb1930 => ?_)
        ·have H := ct H hb1930
         refine In.run' 5 (k' := 10) rfl [(63, (.int .i64 v1712)), (64, (.slice A6 (List.length p5) c7)), (65, (.int .i64 ((List.length p5 : Nat) : Int))), (66, (.bool (decide (v1712 < ((List.length p5 : Nat) : Int))))), (67, (.bool (decide (v1712 < ((List.length p5 : Nat) : Int)))))] (by kernel_rfl) ?_
         refine In.fin (by kernel_rfl) ?_
         exact ⟨(decide (v1712 < ((List.length p5 : Nat) : Int))), ⟨(by kernel_rfl), (by kernel_rfl), (by kernel_rfl), (by kernel_rfl), (by kernel_rfl), (by kernel_rfl), trivial⟩, SP.sel hs1708 [0] rfl rfl, H⟩
        ·have H := cf H hb1930
         refine In.run' 5 (k' := 10) rfl [(63, undef), (64, undef), (65, undef), (66, undef), (67, (.bool false))] (by kernel_rfl) ?_
         refine In.fin (by kernel_rfl) ?_
         exact ⟨false, ⟨(by kernel_rfl), (by kernel_rfl), (by kernel_rfl), (by kernel_rfl), (by kernel_rfl), (by kernel_rfl), trivial⟩, SP.sel hs1708 [0] rfl rfl, H⟩
       ·rintro ρ w1824 ⟨v1823, hk, hs1825, H⟩
        unfold L_subwaylaw01_NumJoin_k41 at H
        refine At.known [(0, (.slice A2 (List.length p1) c3)), (1, (.slice A6 (List.length p5) c7)), (5, (.bool z9)), (6, (.slice A1709 (List.length v1711) c1710)), (8, (.int .i64 v1712)), (67, (.bool v1823))] hk ?_
        refine At.cond (by kernel_rfl) (o := (.tmp 67)) (by kernel_rfl) (b := v1823) (by kernel_rfl) (p0 := [true, true, true, true, true, false, true, false, false, false, true, false]) (p1 := [true, true, true, true, true, false, true, false, false, false, true, true]) rfl rfl (fun hb1826 => ?_) (fun hb1826 => ?_)
        ·have H := ct H hb1826
         refine At.skip (by kernel_rfl) ?_
         refine At.seq (by kernel_rfl) (p0 := [true, true, true, true, true, false, true, false, false, true, false]) (p1 := [true, true, true, true, true, false, true, false, false, true, true]) rfl rfl ?_
         refine At.block (by kernel_rfl) (id := 3) (by kernel_rfl) (p0 := [true, true, true, true, true, false, true, false, false, true, false, false]) rfl ?_
         refine At.seq (by kernel_rfl) (p0 := [true, true, true, true, true, false, true, false, false, true, false, false, false]) (p1 := [true, true, true, true, true, false, true, false, false, true, false, false, true]) rfl rfl ?_
         refine At.region (by kernel_rfl) (by kernel_rfl) ?_
         refine In.run' 1 (k' := 1) rfl [(71, (.slice A1709 (List.length v1711) c1710))] (by kernel_rfl) ?_
         obtain ⟨z1827, hz1828, H⟩ := bind_elim H
         refine In.step (k' := 2) rfl (by kernel_rfl) ?_
         refine Step.callF (f := 10) (fo := (.func 10)) (xs := #[(.tmp 71)]) (tys := #[22]) (first := #[]) (captured := #[]) (d := (some 72)) (k := 1) (by kernel_rfl) rfl (by kernel_rfl) (by kernel_rfl) Tryd.call10 (L_num_Get_walk A1709 c1710 v1711 w1824 (rowT_rd (SP.get hs1825 (i := 0) rfl)) z1827 hz1828) ?_
         rintro e w1829 ⟨rfl, hs1830⟩
         refine ⟨_, rfl, ?_⟩
         have hs1831 := SP.call hs1825 hs1830
         clear hs1830
         have hs1832 : SP [] w0 w1829 [rowT 5 eU8 A1709 c1710 v1711] := hs1831
         clear hs1831
         refine In.run' 7 (k' := 9) rfl [(70, (.tuple #[(.int .i64 z1827.1), (.int .i64 z1827.2.1), (.bool z1827.2.2)])), (73, (.int .i64 z1827.1)), (74, (.int .i64 z1827.2.1)), (75, (.bool z1827.2.2)), (9, (.int .i64 z1827.1)), (10, (.int .i64 z1827.2.1)), (11, (.bool z1827.2.2))] (by kernel_rfl) ?_
         refine In.fin (by kernel_rfl) ?_
         refine At.seq (by kernel_rfl) (p0 := [true, true, true, true, true, false, true, false, false, true, false, false, true, false]) (p1 := [true, true, true, true, true, false, true, false, false, true, false, false, true, true]) rfl rfl ?_
         refine At.seq (by kernel_rfl) (p0 := [true, true, true, true, true, false, true, false, false, true, false, false, true, false, false]) (p1 := [true, true, true, true, true, false, true, false, false, true, false, false, true, false, true]) rfl rfl ?_
         refine At.join (fun ρ w => ∃ (v1845 : Bool), Known ρ [(0, (.slice A2 (List.length p1) c3)), (1, (.slice A6 (List.length p5) c7)), (5, (.bool z9)), (6, (.slice A1709 (List.length v1711) c1710)), (8, (.int .i64 v1712)), (10, (.int .i64 z1827.2.1)), (96, (.bool v1845))] ∧ SP [] w0 w [rowT 5 eU8 A1709 c1710 v1711] ∧ L_subwaylaw01_NumJoin_k42 (L_subwaylaw01_NumJoin_l16 p1 p5 z9 f30) (L_subwaylaw01_NumJoin_l36 (L_subwaylaw01_NumJoin_l16 p1 p5 z9 f30) p1 p5 z9 f40) p5 v1711 v1712 z1827 v1845 = some r) ?_ ?_
         ·refine At.region (by kernel_rfl) (by kernel_rfl) ?_
          refine In.run' 3 (k' := 3) rfl [(76, (.bool z1827.2.2)), (77, (.bool (!z1827.2.2))), (78, (.bool (!z1827.2.2)))] (by kernel_rfl) ?_
          refine In.guard (t := 78) (b := (!z1827.2.2)) (by kernel_rfl) (fun hb1913 => ?_) (fun hb1913 => ?_)
          ·have H := ct H hb1913
           refine In.run' 18 (k' := 21) rfl [(79, undef), (80, undef), (81, undef), (82, undef), (83, undef), (84, undef), (85, undef), (86, (.bool true)), (87, (.bool true)), (88, undef), (89, undef), (90, (.bool true)), (91, (.bool true)), (92, undef), (93, undef), (94, undef), (95, undef), (96, (.bool true))] (by kernel_rfl) ?_
           refine In.fin (by kernel_rfl) ?_
           exact ⟨true, ⟨(by kernel_rfl), (by kernel_rfl), (by kernel_rfl), (by kernel_rfl), (by kernel_rfl), (by kernel_rfl), (by kernel_rfl), trivial⟩, SP.sel hs1832 [0] rfl rfl, H⟩
          ·have H := cf H hb1913
           refine In.run' 3 (k' := 6) rfl [(79, (.int .i64 z1827.1)), (80, (.slice A2 (List.length p1) c3)), (81, (.int .i64 v1712))] (by kernel_rfl) ?_
           obtain ⟨x1914, hp1915, hq1916, hx1917, H⟩ := idx_elim H
           refine In.step (k' := 7) rfl (by kernel_rfl) ?_
           refine Step.elem (e := (eInt .u32)) (l := p1) (A := A2) (c := c3) (T := 37) (E := 39) (x := (.tmp 80)) (ix := (.tmp 81)) (ki := .i64) (iz := v1712) (d := (some 82)) (k := 6) (by kernel_rfl) rfl (by kernel_rfl) (by kernel_rfl) (by kernel_rfl) (by kernel_rfl) (RdT.sp hr4 hs1832) hp1915 hq1916 ?_
           intro b1918 o1919 hA1921 hb1922 hc1920
           refine In.step (k' := 8) rfl (by kernel_rfl) ?_
           refine Step.cell (t := 39) (x := (.tmp 82)) (b := b1918) (off := (o1919 + Int.toNat v1712 * (eInt .u32).sz)) (v := (.int .u32 x1914)) (d := (some 83)) (k := 7) (by kernel_rfl) rfl (by kernel_rfl) (by kernel_rfl) (elem_cell (e := (eInt .u32)) (rdt_cells (RdT.sp hr4 hs1832) hA1921 hp1915 hq1916) hx1917 (j := 0) rfl) ?_
           refine In.run' 4 (k' := 12) rfl [(84, (.int .i64 (IntKind.wrap .i64 x1914))), (85, (.bool (z1827.1 != (IntKind.wrap .i64 x1914)))), (86, (.bool (z1827.1 != (IntKind.wrap .i64 x1914)))), (87, (.bool (z1827.1 != (IntKind.wrap .i64 x1914))))] (by kernel_rfl) ?_
           refine In.guard (t := 87) (b := (z1827.1 != (IntKind.wrap .i64 x1914))) (by kernel_rfl) (fun hb1923 => ?_) (fun hb1923 => ?_)
           ·have H := ct H hb1923
            refine In.run' 9 (k' := 21) rfl [(88, undef), (89, undef), (90, (.bool true)), (91, (.bool true)), (92, undef), (93, undef), (94, undef), (95, undef), (96, (.bool true))] (by kernel_rfl) ?_
            refine In.fin (by kernel_rfl) ?_
            exact ⟨true, ⟨(by kernel_rfl), (by kernel_rfl), (by kernel_rfl), (by kernel_rfl), (by kernel_rfl), (by kernel_rfl), (by kernel_rfl), trivial⟩, SP.sel hs1832 [0] rfl rfl, H⟩
           ·have H := cf H hb1923
            refine In.run' 4 (k' := 16) rfl [(88, (.int .i64 z1827.2.1)), (89, (.bool (decide (z1827.2.1 < 1)))), (90, (.bool (decide (z1827.2.1 < 1)))), (91, (.bool (decide (z1827.2.1 < 1))))] (by kernel_rfl) ?_
            refine In.guard (t := 91) (b := (decide (z1827.2.1 < 1))) (by kernel_rfl) (fun hb1924 => ?_) (fun hb1924 => ?_)
            ·have H := ct H hb1924
             refine In.run' 5 (k' := 21) rfl [(92, undef), (93, undef), (94, undef), (95, undef), (96, (.bool true))] (by kernel_rfl) ?_
             refine In.fin (by kernel_rfl) ?_
             exact ⟨true, ⟨(by kernel_rfl), (by kernel_rfl), (by kernel_rfl), (by kernel_rfl), (by kernel_rfl), (by kernel_rfl), (by kernel_rfl), trivial⟩, SP.sel hs1832 [0] rfl rfl, H⟩
            ·have H := cf H hb1924
             refine In.run' 5 (k' := 21) rfl [(92, (.int .i64 z1827.2.1)), (93, (.slice A1709 (List.length v1711) c1710)), (94, (.int .i64 ((List.length v1711 : Nat) : Int))), (95, (.bool (decide (z1827.2.1 > ((List.length v1711 : Nat) : Int))))), (96, (.bool (decide (z1827.2.1 > ((List.length v1711 : Nat) : Int)))))] (by kernel_rfl) ?_
             refine In.fin (by kernel_rfl) ?_
             exact ⟨(decide (z1827.2.1 > ((List.length v1711 : Nat) : Int))), ⟨(by kernel_rfl), (by kernel_rfl), (by kernel_rfl), (by kernel_rfl), (by kernel_rfl), (by kernel_rfl), (by kernel_rfl), trivial⟩, SP.sel hs1832 [0] rfl rfl, H⟩
         ·rintro ρ w1846 ⟨v1845, hk, hs1847, H⟩
          unfold L_subwaylaw01_NumJoin_k42 at H
          refine At.known [(0, (.slice A2 (List.length p1) c3)), (1, (.slice A6 (List.length p5) c7)), (5, (.bool z9)), (6, (.slice A1709 (List.length v1711) c1710)), (8, (.int .i64 v1712)), (10, (.int .i64 z1827.2.1)), (96, (.bool v1845))] hk ?_
          refine At.cond (by kernel_rfl) (o := (.tmp 96)) (by kernel_rfl) (b := v1845) (by kernel_rfl) (p0 := [true, true, true, true, true, false, true, false, false, true, false, false, true, false, true, false]) (p1 := [true, true, true, true, true, false, true, false, false, true, false, false, true, false, true, true]) rfl rfl (fun hb1848 => ?_) (fun hb1848 => ?_)
          ·have H := ct H hb1848
           refine At.seq (by kernel_rfl) (p0 := [true, true, true, true, true, false, true, false, false, true, false, false, true, false, true, false, false]) (p1 := [true, true, true, true, true, false, true, false, false, true, false, false, true, false, true, false, true]) rfl rfl ?_
           refine At.region (by kernel_rfl) (by kernel_rfl) ?_
           refine In.run' 1 (k' := 1) rfl [(4, (.bool false))] (by kernel_rfl) ?_
           refine In.fin (by kernel_rfl) ?_
           refine At.ret (by kernel_rfl) ?_
           refine ⟨(.bool false), by kernel_rfl, ?_⟩
           obtain rfl := some_elim H
           exact ⟨rfl, SP.sel hs1847 [] rfl rfl⟩
          ·have H := cf H hb1848
           refine At.skip (by kernel_rfl) ?_
           refine At.seq (by kernel_rfl) (p0 := [true, true, true, true, true, false, true, false, false, true, false, false, true, true, false]) (p1 := [true, true, true, true, true, false, true, false, false, true, false, false, true, true, true]) rfl rfl ?_
           refine At.region (by kernel_rfl) (by kernel_rfl) ?_
           refine In.step (k' := 1) rfl (by kernel_rfl) ?_
           refine Step.newSlice (e := eU8) (T := 22) (E := 5) (len := 0) (parts := #[]) (cs := #[]) ([] : List UInt8) (d := (some 97)) (k := 0) (by kernel_rfl) rfl (fun _ => by kernel_rfl) hs1847 rfl rfl rfl rfl ?_
           intro g1849 w1850 hs1851
           have hs1852 : SP [] w0 w1850 [rowT 5 eU8 A1709 c1710 v1711, rowT 5 eU8 (some ⟨g1849, 0, none⟩) (List.length ([] : List UInt8)) ([] : List UInt8)] := hs1851
           clear hs1851
           refine In.run' 2 (k' := 3) rfl [(98, (.slice A1709 (List.length v1711) c1710)), (99, (.int .i64 z1827.2.1))] (by kernel_rfl) ?_
           obtain ⟨hz1853, hz1854, hz1855, H⟩ := sub_elim H
           obtain ⟨l1856, hyl1856⟩ : ∃ y, (List.drop (Int.toNat z1827.2.1) (List.take (Int.toNat ((List.length v1711 : Nat) : Int)) v1711)) = y := ⟨_, rfl⟩
           rw [hyl1856] at H
           refine In.step (k' := 4) rfl (by kernel_rfl) ?_
           refine Step.slice2 (e := eU8) (l := v1711) (m := l1856) (A := A1709) (c := c1710) (T := 22) (E := 5) (x := (.tmp 98)) (lo := (some (.tmp 99))) (hi := none) (i := z1827.2.1) (j := ((List.length v1711 : Nat) : Int)) (d := (some 100)) (k := 3) (by kernel_rfl) rfl (by kernel_rfl) (by kernel_rfl) (by kernel_rfl) ⟨.i64, by kernel_rfl⟩ rfl (RdX.le (rowT_rd (SP.get hs1852 (i := 0) rfl))) hz1853 hz1854 hz1855 hyl1856 ?_
           obtain ⟨hl1857, H⟩ := app_elim H
           obtain ⟨l1858, hyl1858⟩ : ∃ y, ([] : List UInt8) ++ l1856 = y := ⟨_, rfl⟩
           rw [hyl1858] at H
           refine In.step (k' := 5) rfl (by kernel_rfl) ?_
           refine Step.append (e := eU8) (l := ([] : List UInt8)) (m := l1856) (A := (some ⟨g1849, 0, none⟩)) (c := (List.length ([] : List UInt8))) (T := 22) (TX := 22) (E := 5) (b := 1) (s := (.tmp 97)) (x := (.tmp 100)) (i := 1) (vx := (.slice (cutA eU8.sz c1710 (Int.toNat z1827.2.1) A1709) (List.length l1856) (c1710 - Int.toNat z1827.2.1))) (d := (some 101)) (k := 4) (by kernel_rfl) rfl (by kernel_rfl) (by kernel_rfl) (by kernel_rfl) (by kernel_rfl) rfl hs1852 rfl (src_rdt (E := 5) (by kernel_rfl) ((cut_rd hz1853 hz1854 hz1855 hyl1856) w1850 (rowT_rd (SP.get hs1852 (i := 0) rfl)))) hl1857 ?_
           rw [hyl1858]
           intro A1859 c1860 w1861 hs1862
           have hs1863 : SP [] w0 w1861 [rowT 5 eU8 A1709 c1710 v1711, rowT 5 eU8 A1859 c1860 l1858] := hs1862
           clear hs1862
           refine In.run' 1 (k' := 6) rfl [(6, (.slice A1859 (List.length l1858) c1860))] (by kernel_rfl) ?_
           refine In.fin (by kernel_rfl) ?_
           refine At.seq (by kernel_rfl) (p0 := [true, true, true, true, true, false, true, false, false, true, false, false, true, true, true, false]) (p1 := [true, true, true, true, true, false, true, false, false, true, false, false, true, true, true, true]) rfl rfl ?_
           refine At.region (by kernel_rfl) (by kernel_rfl) ?_
           refine In.run' 1 (k' := 1) rfl [(103, (.slice A1859 (List.length l1858) c1860))] (by kernel_rfl) ?_
           obtain ⟨z1864, hz1865, H⟩ := bind_elim H
           refine In.step (k' := 2) rfl (by kernel_rfl) ?_
           refine Step.callF (f := 12) (fo := (.func 12)) (xs := #[(.tmp 103)]) (tys := #[22]) (first := #[]) (captured := #[]) (d := (some 104)) (k := 1) (by kernel_rfl) rfl (by kernel_rfl) (by kernel_rfl) Tryd.call12 (L_num_Read_walk A1859 c1860 l1858 w1861 (rowT_rd (SP.get hs1863 (i := 1) rfl)) z1864 hz1865) ?_
           rintro e w1866 ⟨rfl, hs1867⟩
           refine ⟨_, rfl, ?_⟩
           have hs1868 := SP.call hs1863 hs1867
           clear hs1867
           have hs1869 : SP [] w0 w1866 [rowT 5 eU8 A1709 c1710 v1711, rowT 5 eU8 A1859 c1860 l1858] := hs1868
           clear hs1868
           refine In.run' 7 (k' := 9) rfl [(102, (.tuple #[(.string ⟨List.toArray z1864.1⟩), (.int .i64 z1864.2.1), (.bool z1864.2.2)])), (105, (.string ⟨List.toArray z1864.1⟩)), (106, (.int .i64 z1864.2.1)), (107, (.bool z1864.2.2)), (12, (.string ⟨List.toArray z1864.1⟩)), (13, (.int .i64 z1864.2.1)), (14, (.bool z1864.2.2))] (by kernel_rfl) ?_
           refine In.fin (by kernel_rfl) ?_
           refine At.seq (by kernel_rfl) (p0 := [true, true, true, true, true, false, true, false, false, true, false, false, true, true, true, true, false]) (p1 := [true, true, true, true, true, false, true, false, false, true, false, false, true, true, true, true, true]) rfl rfl ?_
           refine At.seq (by kernel_rfl) (p0 := [true, true, true, true, true, false, true, false, false, true, false, false, true, true, true, true, false, false]) (p1 := [true, true, true, true, true, false, true, false, false, true, false, false, true, true, true, true, false, true]) rfl rfl ?_
           refine At.join (fun ρ w => ∃ (v1882 : Bool), Known ρ [(0, (.slice A2 (List.length p1) c3)), (1, (.slice A6 (List.length p5) c7)), (5, (.bool z9)), (6, (.slice A1859 (List.length l1858) c1860)), (8, (.int .i64 v1712)), (13, (.int .i64 z1864.2.1)), (127, (.bool v1882))] ∧ SP [] w0 w [rowT 5 eU8 A1859 c1860 l1858] ∧ L_subwaylaw01_NumJoin_k43 (L_subwaylaw01_NumJoin_l16 p1 p5 z9 f30) (L_subwaylaw01_NumJoin_l36 (L_subwaylaw01_NumJoin_l16 p1 p5 z9 f30) p1 p5 z9 f40) v1712 l1858 z1864 v1882 = some r) ?_ ?_
           ·refine At.region (by kernel_rfl) (by kernel_rfl) ?_
            refine In.run' 3 (k' := 3) rfl [(108, (.bool z1864.2.2)), (109, (.bool (!z1864.2.2))), (110, (.bool (!z1864.2.2)))] (by kernel_rfl) ?_
            refine In.guard (t := 110) (b := (!z1864.2.2)) (by kernel_rfl) (fun hb1901 => ?_) (fun hb1901 => ?_)
            ·have H := ct H hb1901
             refine In.run' 17 (k' := 20) rfl [(111, undef), (112, undef), (113, undef), (114, undef), (115, undef), (116, undef), (117, (.bool true)), (118, (.bool true)), (119, undef), (120, undef), (121, (.bool true)), (122, (.bool true)), (123, undef), (124, undef), (125, undef), (126, undef), (127, (.bool true))] (by kernel_rfl) ?_
             refine In.fin (by kernel_rfl) ?_
             exact ⟨true, ⟨(by kernel_rfl), (by kernel_rfl), (by kernel_rfl), (by kernel_rfl), (by kernel_rfl), (by kernel_rfl), (by kernel_rfl), trivial⟩, SP.sel hs1869 [1] rfl rfl, H⟩
            ·have H := cf H hb1901
             refine In.run' 3 (k' := 6) rfl [(111, (.string ⟨List.toArray z1864.1⟩)), (112, (.slice A6 (List.length p5) c7)), (113, (.int .i64 v1712))] (by kernel_rfl) ?_
             obtain ⟨x1902, hp1903, hq1904, hx1905, H⟩ := idx_elim H
             refine In.step (k' := 7) rfl (by kernel_rfl) ?_
             refine Step.elem (e := eStr) (l := p5) (A := A6) (c := c7) (T := 38) (E := 9) (x := (.tmp 112)) (ix := (.tmp 113)) (ki := .i64) (iz := v1712) (d := (some 114)) (k := 6) (by kernel_rfl) rfl (by kernel_rfl) (by kernel_rfl) (by kernel_rfl) (by kernel_rfl) (RdT.sp hr8 hs1869) hp1903 hq1904 ?_
             intro b1906 o1907 hA1909 hb1910 hc1908
             refine In.step (k' := 8) rfl (by kernel_rfl) ?_
             refine Step.cell (t := 9) (x := (.tmp 114)) (b := b1906) (off := (o1907 + Int.toNat v1712 * eStr.sz)) (v := (.string ⟨List.toArray x1902⟩)) (d := (some 115)) (k := 7) (by kernel_rfl) rfl (by kernel_rfl) (by kernel_rfl) (elem_cell (e := eStr) (rdt_cells (RdT.sp hr8 hs1869) hA1909 hp1903 hq1904) hx1905 (j := 0) rfl) ?_
             refine In.step (k' := 9) rfl (by kernel_rfl) ?_
             refine Step.strOp (op := .neq) (T := 9) (T' := 9) (x := (.tmp 111)) (y := (.tmp 115)) (a := z1864.1) (b := x1902) (r := (.bool (!(z1864.1 == x1902)))) (d := (some 116)) (k := 8) (by kernel_rfl) rfl (by kernel_rfl) (by kernel_rfl) rfl ?_
             refine In.run' 2 (k' := 11) rfl [(117, (.bool (!(z1864.1 == x1902)))), (118, (.bool (!(z1864.1 == x1902))))] (by kernel_rfl) ?_
             refine In.guard (t := 118) (b := (!(z1864.1 == x1902))) (by kernel_rfl) (fun hb1911 => ?_) (fun hb1911 => ?_)
             ·have H := ct H hb1911
              refine In.run' 9 (k' := 20) rfl [(119, undef), (120, undef), (121, (.bool true)), (122, (.bool true)), (123, undef), (124, undef), (125, undef), (126, undef), (127, (.bool true))] (by kernel_rfl) ?_
              refine In.fin (by kernel_rfl) ?_
              exact ⟨true, ⟨(by kernel_rfl), (by kernel_rfl), (by kernel_rfl), (by kernel_rfl), (by kernel_rfl), (by kernel_rfl), (by kernel_rfl), trivial⟩, SP.sel hs1869 [1] rfl rfl, H⟩
             ·have H := cf H hb1911
              refine In.run' 4 (k' := 15) rfl [(119, (.int .i64 z1864.2.1)), (120, (.bool (decide (z1864.2.1 < 1)))), (121, (.bool (decide (z1864.2.1 < 1)))), (122, (.bool (decide (z1864.2.1 < 1))))] (by kernel_rfl) ?_
              refine In.guard (t := 122) (b := (decide (z1864.2.1 < 1))) (by kernel_rfl) (fun hb1912 => ?_) (fun hb1912 => ?_)
              ·have H := ct H hb1912
               refine In.run' 5 (k' := 20) rfl [(123, undef), (124, undef), (125, undef), (126, undef), (127, (.bool true))] (by kernel_rfl) ?_
               refine In.fin (by kernel_rfl) ?_
               exact ⟨true, ⟨(by kernel_rfl), (by kernel_rfl), (by kernel_rfl), (by kernel_rfl), (by kernel_rfl), (by kernel_rfl), (by kernel_rfl), trivial⟩, SP.sel hs1869 [1] rfl rfl, H⟩
              ·have H := cf H hb1912
               refine In.run' 5 (k' := 20) rfl [(123, (.int .i64 z1864.2.1)), (124, (.slice A1859 (List.length l1858) c1860)), (125, (.int .i64 ((List.length l1858 : Nat) : Int))), (126, (.bool (decide (z1864.2.1 > ((List.length l1858 : Nat) : Int))))), (127, (.bool (decide (z1864.2.1 > ((List.length l1858 : Nat) : Int)))))] (by kernel_rfl) ?_
               refine In.fin (by kernel_rfl) ?_
               exact ⟨(decide (z1864.2.1 > ((List.length l1858 : Nat) : Int))), ⟨(by kernel_rfl), (by kernel_rfl), (by kernel_rfl), (by kernel_rfl), (by kernel_rfl), (by kernel_rfl), (by kernel_rfl), trivial⟩, SP.sel hs1869 [1] rfl rfl, H⟩
           ·rintro ρ w1883 ⟨v1882, hk, hs1884, H⟩
            unfold L_subwaylaw01_NumJoin_k43 at H
            refine At.known [(0, (.slice A2 (List.length p1) c3)), (1, (.slice A6 (List.length p5) c7)), (5, (.bool z9)), (6, (.slice A1859 (List.length l1858) c1860)), (8, (.int .i64 v1712)), (13, (.int .i64 z1864.2.1)), (127, (.bool v1882))] hk ?_
            refine At.cond (by kernel_rfl) (o := (.tmp 127)) (by kernel_rfl) (b := v1882) (by kernel_rfl) (p0 := [true, true, true, true, true, false, true, false, false, true, false, false, true, true, true, true, false, true, false]) (p1 := [true, true, true, true, true, false, true, false, false, true, false, false, true, true, true, true, false, true, true]) rfl rfl (fun hb1885 => ?_) (fun hb1885 => ?_)
            ·have H := ct H hb1885
             refine At.seq (by kernel_rfl) (p0 := [true, true, true, true, true, false, true, false, false, true, false, false, true, true, true, true, false, true, false, false]) (p1 := [true, true, true, true, true, false, true, false, false, true, false, false, true, true, true, true, false, true, false, true]) rfl rfl ?_
             refine At.region (by kernel_rfl) (by kernel_rfl) ?_
             refine In.run' 1 (k' := 1) rfl [(4, (.bool false))] (by kernel_rfl) ?_
             refine In.fin (by kernel_rfl) ?_
             refine At.ret (by kernel_rfl) ?_
             refine ⟨(.bool false), by kernel_rfl, ?_⟩
             obtain rfl := some_elim H
             exact ⟨rfl, SP.sel hs1884 [] rfl rfl⟩
            ·have H := cf H hb1885
             refine At.skip (by kernel_rfl) ?_
             refine At.region (by kernel_rfl) (by kernel_rfl) ?_
             refine In.step (k' := 1) rfl (by kernel_rfl) ?_
             refine Step.newSlice (e := eU8) (T := 22) (E := 5) (len := 0) (parts := #[]) (cs := #[]) ([] : List UInt8) (d := (some 128)) (k := 0) (by kernel_rfl) rfl (fun _ => by kernel_rfl) hs1884 rfl rfl rfl rfl ?_
             intro g1886 w1887 hs1888
             have hs1889 : SP [] w0 w1887 [rowT 5 eU8 A1859 c1860 l1858, rowT 5 eU8 (some ⟨g1886, 0, none⟩) (List.length ([] : List UInt8)) ([] : List UInt8)] := hs1888
             clear hs1888
             refine In.run' 2 (k' := 3) rfl [(129, (.slice A1859 (List.length l1858) c1860)), (130, (.int .i64 z1864.2.1))] (by kernel_rfl) ?_
             obtain ⟨hz1890, hz1891, hz1892, H⟩ := sub_elim H
             obtain ⟨l1893, hyl1893⟩ : ∃ y, (List.drop (Int.toNat z1864.2.1) (List.take (Int.toNat ((List.length l1858 : Nat) : Int)) l1858)) = y := ⟨_, rfl⟩
             rw [hyl1893] at H
             refine In.step (k' := 4) rfl (by kernel_rfl) ?_
             refine Step.slice2 (e := eU8) (l := l1858) (m := l1893) (A := A1859) (c := c1860) (T := 22) (E := 5) (x := (.tmp 129)) (lo := (some (.tmp 130))) (hi := none) (i := z1864.2.1) (j := ((List.length l1858 : Nat) : Int)) (d := (some 131)) (k := 3) (by kernel_rfl) rfl (by kernel_rfl) (by kernel_rfl) (by kernel_rfl) ⟨.i64, by kernel_rfl⟩ rfl (RdX.le (rowT_rd (SP.get hs1889 (i := 0) rfl))) hz1890 hz1891 hz1892 hyl1893 ?_
             obtain ⟨hl1894, H⟩ := app_elim H
             obtain ⟨l1895, hyl1895⟩ : ∃ y, ([] : List UInt8) ++ l1893 = y := ⟨_, rfl⟩
             rw [hyl1895] at H
             refine In.step (k' := 5) rfl (by kernel_rfl) ?_
             refine Step.append (e := eU8) (l := ([] : List UInt8)) (m := l1893) (A := (some ⟨g1886, 0, none⟩)) (c := (List.length ([] : List UInt8))) (T := 22) (TX := 22) (E := 5) (b := 1) (s := (.tmp 128)) (x := (.tmp 131)) (i := 1) (vx := (.slice (cutA eU8.sz c1860 (Int.toNat z1864.2.1) A1859) (List.length l1893) (c1860 - Int.toNat z1864.2.1))) (d := (some 132)) (k := 4) (by kernel_rfl) rfl (by kernel_rfl) (by kernel_rfl) (by kernel_rfl) (by kernel_rfl) rfl hs1889 rfl (src_rdt (E := 5) (by kernel_rfl) ((cut_rd hz1890 hz1891 hz1892 hyl1893) w1887 (rowT_rd (SP.get hs1889 (i := 0) rfl)))) hl1894 ?_
             rw [hyl1895]
             intro A1896 c1897 w1898 hs1899
             have hs1900 : SP [] w0 w1898 [rowT 5 eU8 A1859 c1860 l1858, rowT 5 eU8 A1896 c1897 l1895] := hs1899
             clear hs1899
             refine In.run' 1 (k' := 6) rfl [(6, (.slice A1896 (List.length l1895) c1897))] (by kernel_rfl) ?_
             refine In.fin (by kernel_rfl) ?_
             refine At.region (by kernel_rfl) (by kernel_rfl) ?_
             refine In.run' 3 (k' := 3) rfl [(68, (.int .i64 v1712)), (69, (.int .i64 (IntKind.wrap .i64 (v1712 + 1)))), (8, (.int .i64 (IntKind.wrap .i64 (v1712 + 1))))] (by kernel_rfl) ?_
             refine In.fin (by kernel_rfl) ?_
             exact ⟨l1895, (IntKind.wrap .i64 (v1712 + 1)), A1896, c1897, ⟨(by kernel_rfl), (by kernel_rfl), (by kernel_rfl), (by kernel_rfl), (by kernel_rfl), trivial⟩, SP.sel hs1900 [1] rfl rfl, H⟩
        ·have H := cf H hb1826
         refine At.exit (by kernel_rfl) (id := 2) (by kernel_rfl) ?_
         refine At.seq (by kernel_rfl) (p0 := [true, true, true, true, true, true, false]) (p1 := [true, true, true, true, true, true, true]) rfl rfl ?_
         refine At.join (fun ρ w => ∃ (v1926 : Bool), Known ρ [(4, (.bool v1926))] ∧ SP [] w0 w [] ∧ L_subwaylaw01_NumJoin_k44 (L_subwaylaw01_NumJoin_l16 p1 p5 z9 f30) (L_subwaylaw01_NumJoin_l36 (L_subwaylaw01_NumJoin_l16 p1 p5 z9 f30) p1 p5 z9 f40) v1926 = some r) ?_ ?_
         ·refine At.region (by kernel_rfl) (by kernel_rfl) ?_
          refine In.run' 2 (k' := 2) rfl [(133, (.bool z9)), (134, (.bool z9))] (by kernel_rfl) ?_
          refine In.guard (t := 134) (b := z9) (by kernel_rfl) (fun hb1929 => ?_) (fun hb1929 => ?_)
          ·have H := ct H hb1929
           refine In.run' 5 (k' := 7) rfl [(135, (.slice A1709 (List.length v1711) c1710)), (136, (.int .i64 ((List.length v1711 : Nat) : Int))), (137, (.bool (((List.length v1711 : Nat) : Int) == 0))), (138, (.bool (((List.length v1711 : Nat) : Int) == 0))), (4, (.bool (((List.length v1711 : Nat) : Int) == 0)))] (by kernel_rfl) ?_
           refine In.fin (by kernel_rfl) ?_
           exact ⟨(((List.length v1711 : Nat) : Int) == 0), ⟨(by kernel_rfl), trivial⟩, SP.sel hs1825 [] rfl rfl, H⟩
          ·have H := cf H hb1929
           refine In.run' 5 (k' := 7) rfl [(135, undef), (136, undef), (137, undef), (138, (.bool false)), (4, (.bool false))] (by kernel_rfl) ?_
           refine In.fin (by kernel_rfl) ?_
           exact ⟨false, ⟨(by kernel_rfl), trivial⟩, SP.sel hs1825 [] rfl rfl, H⟩
         ·rintro ρ w1927 ⟨v1926, hk, hs1928, H⟩
          unfold L_subwaylaw01_NumJoin_k44 at H
          refine At.known [(4, (.bool v1926))] hk ?_
          refine At.ret (by kernel_rfl) ?_
          refine ⟨(.bool v1926), by kernel_rfl, ?_⟩
          obtain rfl := some_elim H
          exact ⟨rfl, SP.sel hs1928 [] rfl rfl⟩
      ·exact ⟨v764, 0, A762, c763, ⟨(by kernel_rfl), (by kernel_rfl), (by kernel_rfl), (by kernel_rfl), (by kernel_rfl), trivial⟩, SP.sel hs1352 [0] rfl rfl, H⟩
   ·exact ⟨([] : List UInt8), 0, none, 0, ⟨(by kernel_rfl), (by kernel_rfl), (by kernel_rfl), (by kernel_rfl), (by kernel_rfl), trivial⟩, SP.sel (SP.nilrow hs18 5 eU8) [0] rfl rfl, H⟩
end Go.Proofs.YtjpchjbbfbmjgaaDoor
