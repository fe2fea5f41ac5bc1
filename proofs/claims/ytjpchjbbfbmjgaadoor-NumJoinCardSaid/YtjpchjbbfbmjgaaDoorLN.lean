/- LIFTED BY PROGRAM (tools/lift.py): what functions compute, and that they do. -/
import Derived.Test.YtjpchjbbfbmjgaaDoorNumHand
import Derived.Test.YtjpchjbbfbmjgaaDoorNumW
import Derived.Test.YtjpchjbbfbmjgaaDoorLR1d
namespace Go.Proofs.YtjpchjbbfbmjgaaDoor
set_option linter.unusedSimpArgs false
set_option linter.unusedVariables false
open Go.RowKit

/-! L_num_Decimal -/
def L_num_Decimal_k1 (p1 : Int) (v3 : Bool) : Option ((List UInt8)) :=
  (cond v3 (some (([] : List UInt8))) ((L_strconv_FormatInt p1 10).bind fun z7 => (some (z7))))
def L_num_Decimal (p1 : Int) : Option ((List UInt8)) :=
  (cond (decide (p1 < 0)) (L_num_Decimal_k1 p1 true) (L_num_Decimal_k1 p1 (decide (p1 > 1099511627776))))
set_option maxRecDepth 100000 in
set_option maxHeartbeats 4000000 in
theorem L_num_Decimal_walk  (p1 : Int) (w0 : World) (hL : LaidW w0)  (r : ((List UInt8))) (H : L_num_Decimal p1 = some r) :
  Calls Tryd.prog 20 #[(.int .i64 p1)] w0 (fun e w' => e = .returned (.string ⟨List.toArray r⟩) ∧ SP [] w0 w' []) := by
 unfold L_num_Decimal at H
 refine calls_start (n := 11) Tryd.func20 (by kernel_rfl) (by kernel_rfl) (by kernel_rfl) ?_
 have hs0 := SP.start [] w0
 refine At.seq (by kernel_rfl) (p0 := [false]) (p1 := [true]) rfl rfl ?_
 refine At.region (by kernel_rfl) (by kernel_rfl) ?_
 refine In.run' 1 (k' := 1) rfl [(2, (.string ⟨List.toArray ([] : List UInt8)⟩))] (by kernel_rfl) ?_
 refine In.fin (by kernel_rfl) ?_
 refine At.seq (by kernel_rfl) (p0 := [true, false]) (p1 := [true, true]) rfl rfl ?_
 refine At.seq (by kernel_rfl) (p0 := [true, false, false]) (p1 := [true, false, true]) rfl rfl ?_
 refine At.join (fun ρ w => ∃ (v3 : Bool), Known ρ [(0, (.int .i64 p1)), (8, (.bool v3))] ∧ SP [] w0 w [] ∧ L_num_Decimal_k1 p1 v3 = some r) ?_ ?_
 ·refine At.region (by kernel_rfl) (by kernel_rfl) ?_
  refine In.run' 3 (k' := 3) rfl [(3, (.int .i64 p1)), (4, (.bool (decide (p1 < 0)))), (5, (.bool (decide (p1 < 0))))] (by kernel_rfl) ?_
  refine In.guard (t := 5) (b := (decide (p1 < 0))) (by kernel_rfl) (fun hb13 => ?_) (fun hb13 => ?_)
  ·have H := ct H hb13
   refine In.run' 3 (k' := 6) rfl [(6, undef), (7, undef), (8, (.bool true))] (by kernel_rfl) ?_
   refine In.fin (by kernel_rfl) ?_
   exact ⟨true, ⟨(by kernel_rfl), (by kernel_rfl), trivial⟩, SP.sel hs0 [] rfl rfl, H⟩
  ·have H := cf H hb13
   refine In.run' 3 (k' := 6) rfl [(6, (.int .i64 p1)), (7, (.bool (decide (p1 > 1099511627776)))), (8, (.bool (decide (p1 > 1099511627776))))] (by kernel_rfl) ?_
   refine In.fin (by kernel_rfl) ?_
   exact ⟨(decide (p1 > 1099511627776)), ⟨(by kernel_rfl), (by kernel_rfl), trivial⟩, SP.sel hs0 [] rfl rfl, H⟩
 ·rintro ρ w4 ⟨v3, hk, hs5, H⟩
  unfold L_num_Decimal_k1 at H
  refine At.known [(0, (.int .i64 p1)), (8, (.bool v3))] hk ?_
  refine At.cond (by kernel_rfl) (o := (.tmp 8)) (by kernel_rfl) (b := v3) (by kernel_rfl) (p0 := [true, false, true, false]) (p1 := [true, false, true, true]) rfl rfl (fun hb6 => ?_) (fun hb6 => ?_)
  ·have H := ct H hb6
   refine At.seq (by kernel_rfl) (p0 := [true, false, true, false, false]) (p1 := [true, false, true, false, true]) rfl rfl ?_
   refine At.region (by kernel_rfl) (by kernel_rfl) ?_
   refine In.run' 1 (k' := 1) rfl [(2, (.string ⟨List.toArray ([] : List UInt8)⟩))] (by kernel_rfl) ?_
   refine In.fin (by kernel_rfl) ?_
   refine At.ret (by kernel_rfl) ?_
   refine ⟨(.string ⟨List.toArray ([] : List UInt8)⟩), by kernel_rfl, ?_⟩
   obtain rfl := some_elim H
   exact ⟨rfl, SP.sel hs5 [] rfl rfl⟩
  ·have H := cf H hb6
   refine At.skip (by kernel_rfl) ?_
   refine At.seq (by kernel_rfl) (p0 := [true, true, false]) (p1 := [true, true, true]) rfl rfl ?_
   refine At.region (by kernel_rfl) (by kernel_rfl) ?_
   refine In.run' 1 (k' := 1) rfl [(9, (.int .i64 p1))] (by kernel_rfl) ?_
   obtain ⟨z7, hz8, H⟩ := bind_elim H
   refine In.step (k' := 2) rfl (by kernel_rfl) ?_
   refine Step.callF (f := 24) (fo := (.func 24)) (xs := #[(.tmp 9), (.const (.int .i64 (10)))]) (tys := #[2, 3]) (first := #[]) (captured := #[]) (d := (some 10)) (k := 1) (by kernel_rfl) rfl (by kernel_rfl) (by kernel_rfl) Tryd.call24 (L_strconv_FormatInt_walk  p1 10 w4 (laid_below hL (SP.keeps hs5)) z7 hz8) ?_
   rintro e w9 ⟨rfl, hs10⟩
   refine ⟨_, rfl, ?_⟩
   have hs11 := SP.call hs5 hs10
   clear hs10
   have hs12 : SP [] w0 w9 [] := hs11
   clear hs11
   refine In.run' 1 (k' := 3) rfl [(2, (.string ⟨List.toArray z7⟩))] (by kernel_rfl) ?_
   refine In.fin (by kernel_rfl) ?_
   refine At.ret (by kernel_rfl) ?_
   refine ⟨(.string ⟨List.toArray z7⟩), by kernel_rfl, ?_⟩
   obtain rfl := some_elim H
   exact ⟨rfl, SP.sel hs12 [] rfl rfl⟩
/-! L_num_Parse -/
def L_num_Parse_k4 (rec3 : Int → Int → Option (Int × Bool)) (v37 : Int) (v38 : Int) (x65 : UInt8) (v76 : Bool) : Option (Int × Bool) :=
  (cond v76 (some (0, false)) (rec3 (IntKind.wrap .i64 ((IntKind.wrap .i64 (10 * v37)) + (IntKind.wrap .i64 (IntKind.wrap .u8 (((x65).toNat : Int) - 48))))) (IntKind.wrap .i64 (v38 + 1))))
def L_num_Parse_b2 (rec3 : Int → Int → Option (Int × Bool)) (p1 : (List UInt8)) (v37 : Int) (v38 : Int) : Option (Int × Bool) :=
  (cond (decide (v38 < ((List.length p1 : Nat) : Int))) ((idx p1 v38).bind fun x65 => (cond (decide (((x65).toNat : Int) < 48)) (L_num_Parse_k4 rec3 v37 v38 x65 true) (cond (decide (((x65).toNat : Int) > 57)) (L_num_Parse_k4 rec3 v37 v38 x65 true) (L_num_Parse_k4 rec3 v37 v38 x65 (decide (v37 > 1099511627776)))))) ((L_num_Decimal v37).bind fun z82 => (cond (!(z82 == p1)) (some (0, false)) (some (v37, true)))))
def L_num_Parse_l2 (p1 : (List UInt8)) : Nat → Int → Int → Option (Int × Bool)
  | 0, _, _ => none
  | f + 1, v37, v38 => L_num_Parse_b2  (L_num_Parse_l2 p1 f) p1 v37 v38
def L_num_Parse (p1 : (List UInt8)) : Option (Int × Bool) :=
  ((chk (Nat.ble (List.length p1) 2147483648)).bind fun _ => (L_num_Parse_l2 p1 fuel 0 0))
set_option maxRecDepth 100000 in
set_option maxHeartbeats 4000000 in
theorem L_num_Parse_walk  (p1 : (List UInt8)) (w0 : World) (hL : LaidW w0)  (r : (Int × Bool)) (H : L_num_Parse p1 = some r) :
  Calls Tryd.prog 14 #[(.string ⟨List.toArray p1⟩)] w0 (fun e w' => e = .returned (.tuple #[(.int .i64 r.1), (.bool r.2)]) ∧ SP [] w0 w' []) := by
 unfold L_num_Parse at H
 refine calls_start (n := 36) Tryd.func14 (by kernel_rfl) (by kernel_rfl) (by kernel_rfl) ?_
 have hs0 := SP.start [] w0
 refine At.seq (by kernel_rfl) (p0 := [false]) (p1 := [true]) rfl rfl ?_
 refine At.region (by kernel_rfl) (by kernel_rfl) ?_
 refine In.run' 2 (k' := 2) rfl [(2, (.int .i64 0)), (3, (.bool false))] (by kernel_rfl) ?_
 refine In.fin (by kernel_rfl) ?_
 refine At.seq (by kernel_rfl) (p0 := [true, false]) (p1 := [true, true]) rfl rfl ?_
 refine At.region (by kernel_rfl) (by kernel_rfl) ?_
 refine In.run' 1 (k' := 1) rfl [(4, (.int .i64 0))] (by kernel_rfl) ?_
 refine In.fin (by kernel_rfl) ?_
 refine At.seq (by kernel_rfl) (p0 := [true, true, false]) (p1 := [true, true, true]) rfl rfl ?_
 refine At.seq (by kernel_rfl) (p0 := [true, true, false, false]) (p1 := [true, true, false, true]) rfl rfl ?_
 refine At.region (by kernel_rfl) (by kernel_rfl) ?_
 refine In.run' 1 (k' := 1) rfl [(7, (.string ⟨List.toArray p1⟩))] (by kernel_rfl) ?_
 obtain ⟨hb2, H⟩ := chk_elim H
 refine In.step (k' := 2) rfl (by kernel_rfl) ?_
 refine Step.toBytes (S' := 9) (T := 22) (E := 5) (x := (.tmp 7)) (l := p1) (d := (some 8)) (k := 1) (by kernel_rfl) rfl (by kernel_rfl) (by kernel_rfl) (by kernel_rfl) (by kernel_rfl) (max_of_chk hb2) hs0 ?_
 intro g3 c4 w5 hs6 _
 have hs7 : SP [] w0 w5 [rdE eU8 (some ⟨g3, 0, none⟩) c4 p1] := hs6
 clear hs6
 refine In.run' 2 (k' := 4) rfl [(9, (.int .i64 ((List.length p1 : Nat) : Int))), (10, (.int .i64 0))] (by kernel_rfl) ?_
 refine In.fin (by kernel_rfl) ?_
 refine At.block (by kernel_rfl) (id := 0) (by kernel_rfl) (p0 := [true, true, false, true, false]) rfl ?_
 refine At.loop (by kernel_rfl) (p0 := [true, true, false, true, false, false]) rfl (fun f3 ρ w => ∃ (v37 : Int) (v38 : Int), Known ρ [(0, (.string ⟨List.toArray p1⟩)), (4, (.int .i64 v37)), (8, (.slice (some ⟨g3, 0, none⟩) (List.length p1) c4)), (9, (.int .i64 ((List.length p1 : Nat) : Int))), (10, (.int .i64 v38))] ∧ SP [] w0 w [rdE eU8 (some ⟨g3, 0, none⟩) c4 p1] ∧ L_num_Parse_l2 p1 f3 v37 v38 = some r) (by rintro ρ w ⟨v37, v38, hk, hs, H⟩; cases H) ?_ fuel ?_
 ·rintro f3 ρ w35 ⟨v37, v38, hk, hs36, H⟩
  refine At.known [(0, (.string ⟨List.toArray p1⟩)), (4, (.int .i64 v37)), (8, (.slice (some ⟨g3, 0, none⟩) (List.length p1) c4)), (9, (.int .i64 ((List.length p1 : Nat) : Int))), (10, (.int .i64 v38))] hk ?_
  replace H := (show L_num_Parse_b2 (L_num_Parse_l2 p1 f3) p1 v37 v38 = some r from H)
  unfold L_num_Parse_b2 at H
  refine At.seq (by kernel_rfl) (p0 := [true, true, false, true, false, false, false]) (p1 := [true, true, false, true, false, false, true]) rfl rfl ?_
  refine At.region (by kernel_rfl) (by kernel_rfl) ?_
  refine In.run' 1 (k' := 1) rfl [(11, (.bool (decide (v38 < ((List.length p1 : Nat) : Int)))))] (by kernel_rfl) ?_
  refine In.fin (by kernel_rfl) ?_
  refine At.seq (by kernel_rfl) (p0 := [true, true, false, true, false, false, true, false]) (p1 := [true, true, false, true, false, false, true, true]) rfl rfl ?_
  refine At.cond (by kernel_rfl) (o := (.tmp 11)) (by kernel_rfl) (b := (decide (v38 < ((List.length p1 : Nat) : Int)))) (by kernel_rfl) (p0 := [true, true, false, true, false, false, true, false, false]) (p1 := [true, true, false, true, false, false, true, false, true]) rfl rfl (fun hb64 => ?_) (fun hb64 => ?_)
  ·have H := ct H hb64
   refine At.skip (by kernel_rfl) ?_
   refine At.seq (by kernel_rfl) (p0 := [true, true, false, true, false, false, true, true, false]) (p1 := [true, true, false, true, false, false, true, true, true]) rfl rfl ?_
   refine At.block (by kernel_rfl) (id := 1) (by kernel_rfl) (p0 := [true, true, false, true, false, false, true, true, false, false]) rfl ?_
   refine At.seq (by kernel_rfl) (p0 := [true, true, false, true, false, false, true, true, false, false, false]) (p1 := [true, true, false, true, false, false, true, true, false, false, true]) rfl rfl ?_
   refine At.region (by kernel_rfl) (by kernel_rfl) ?_
   obtain ⟨x65, hp66, hq67, hx68, H⟩ := idx_elim H
   refine In.step (k' := 1) rfl (by kernel_rfl) ?_
   refine Step.elem (e := eU8) (l := p1) (A := (some ⟨g3, 0, none⟩)) (c := c4) (T := 22) (E := 5) (x := (.tmp 8)) (ix := (.tmp 10)) (ki := .i64) (iz := v38) (d := (some 12)) (k := 0) (by kernel_rfl) rfl (by kernel_rfl) (by kernel_rfl) (by kernel_rfl) (by kernel_rfl) (rdE_rd (SP.get hs36 (i := 0) rfl)) hp66 hq67 ?_
   intro b69 o70 hA72 hb73 hc71
   refine In.step (k' := 2) rfl (by kernel_rfl) ?_
   refine Step.cell (t := 5) (x := (.tmp 12)) (b := b69) (off := (o70 + Int.toNat v38 * eU8.sz)) (v := (.int .u8 ((x65).toNat : Int))) (d := (some 13)) (k := 1) (by kernel_rfl) rfl (by kernel_rfl) (by kernel_rfl) (elem_cell (e := eU8) (rdt_cells (rdE_rd (SP.get hs36 (i := 0) rfl)) hA72 hp66 hq67) hx68 (j := 0) rfl) ?_
   refine In.run' 1 (k' := 3) rfl [(6, (.int .u8 ((x65).toNat : Int)))] (by kernel_rfl) ?_
   refine In.fin (by kernel_rfl) ?_
   refine At.seq (by kernel_rfl) (p0 := [true, true, false, true, false, false, true, true, false, false, true, false]) (p1 := [true, true, false, true, false, false, true, true, false, false, true, true]) rfl rfl ?_
   refine At.seq (by kernel_rfl) (p0 := [true, true, false, true, false, false, true, true, false, false, true, false, false]) (p1 := [true, true, false, true, false, false, true, true, false, false, true, false, true]) rfl rfl ?_
   refine At.join (fun ρ w => ∃ (v76 : Bool), Known ρ [(0, (.string ⟨List.toArray p1⟩)), (4, (.int .i64 v37)), (6, (.int .u8 ((x65).toNat : Int))), (8, (.slice (some ⟨g3, 0, none⟩) (List.length p1) c4)), (9, (.int .i64 ((List.length p1 : Nat) : Int))), (10, (.int .i64 v38)), (23, (.bool v76))] ∧ SP [] w0 w [rdE eU8 (some ⟨g3, 0, none⟩) c4 p1] ∧ L_num_Parse_k4 (L_num_Parse_l2 p1 f3) v37 v38 x65 v76 = some r) ?_ ?_
   ·refine At.region (by kernel_rfl) (by kernel_rfl) ?_
    refine In.run' 3 (k' := 3) rfl [(14, (.int .u8 ((x65).toNat : Int))), (15, (.bool (decide (((x65).toNat : Int) < 48)))), (16, (.bool (decide (((x65).toNat : Int) < 48))))] (by kernel_rfl) ?_
    refine In.guard (t := 16) (b := (decide (((x65).toNat : Int) < 48))) (by kernel_rfl) (fun hb80 => ?_) (fun hb80 => ?_)
    ·have H := ct H hb80
     refine In.run' 7 (k' := 10) rfl [(17, undef), (18, undef), (19, (.bool true)), (20, (.bool true)), (21, undef), (22, undef), (23, (.bool true))] (by kernel_rfl) ?_
     refine In.fin (by kernel_rfl) ?_
     exact ⟨true, ⟨(by kernel_rfl), (by kernel_rfl), (by kernel_rfl), (by kernel_rfl), (by kernel_rfl), (by kernel_rfl), (by kernel_rfl), trivial⟩, SP.sel hs36 [0] rfl rfl, H⟩
    ·have H := cf H hb80
     refine In.run' 4 (k' := 7) rfl [(17, (.int .u8 ((x65).toNat : Int))), (18, (.bool (decide (((x65).toNat : Int) > 57)))), (19, (.bool (decide (((x65).toNat : Int) > 57)))), (20, (.bool (decide (((x65).toNat : Int) > 57))))] (by kernel_rfl) ?_
     refine In.guard (t := 20) (b := (decide (((x65).toNat : Int) > 57))) (by kernel_rfl) (fun hb81 => ?_) (fun hb81 => ?_)
     ·have H := ct H hb81
      refine In.run' 3 (k' := 10) rfl [(21, undef), (22, undef), (23, (.bool true))] (by kernel_rfl) ?_
      refine In.fin (by kernel_rfl) ?_
      exact ⟨true, ⟨(by kernel_rfl), (by kernel_rfl), (by kernel_rfl), (by kernel_rfl), (by kernel_rfl), (by kernel_rfl), (by kernel_rfl), trivial⟩, SP.sel hs36 [0] rfl rfl, H⟩
     ·have H := cf H hb81
      refine In.run' 3 (k' := 10) rfl [(21, (.int .i64 v37)), (22, (.bool (decide (v37 > 1099511627776)))), (23, (.bool (decide (v37 > 1099511627776))))] (by kernel_rfl) ?_
      refine In.fin (by kernel_rfl) ?_
      exact ⟨(decide (v37 > 1099511627776)), ⟨(by kernel_rfl), (by kernel_rfl), (by kernel_rfl), (by kernel_rfl), (by kernel_rfl), (by kernel_rfl), (by kernel_rfl), trivial⟩, SP.sel hs36 [0] rfl rfl, H⟩
   ·rintro ρ w77 ⟨v76, hk, hs78, H⟩
    unfold L_num_Parse_k4 at H
    refine At.known [(0, (.string ⟨List.toArray p1⟩)), (4, (.int .i64 v37)), (6, (.int .u8 ((x65).toNat : Int))), (8, (.slice (some ⟨g3, 0, none⟩) (List.length p1) c4)), (9, (.int .i64 ((List.length p1 : Nat) : Int))), (10, (.int .i64 v38)), (23, (.bool v76))] hk ?_
    refine At.cond (by kernel_rfl) (o := (.tmp 23)) (by kernel_rfl) (b := v76) (by kernel_rfl) (p0 := [true, true, false, true, false, false, true, true, false, false, true, false, true, false]) (p1 := [true, true, false, true, false, false, true, true, false, false, true, false, true, true]) rfl rfl (fun hb79 => ?_) (fun hb79 => ?_)
    ·have H := ct H hb79
     refine At.seq (by kernel_rfl) (p0 := [true, true, false, true, false, false, true, true, false, false, true, false, true, false, false]) (p1 := [true, true, false, true, false, false, true, true, false, false, true, false, true, false, true]) rfl rfl ?_
     refine At.region (by kernel_rfl) (by kernel_rfl) ?_
     refine In.run' 2 (k' := 2) rfl [(2, (.int .i64 0)), (3, (.bool false))] (by kernel_rfl) ?_
     refine In.fin (by kernel_rfl) ?_
     refine At.ret (by kernel_rfl) ?_
     refine ⟨(.tuple #[(.int .i64 0), (.bool false)]), by kernel_rfl, ?_⟩
     obtain rfl := some_elim H
     exact ⟨rfl, SP.sel hs78 [] rfl rfl⟩
    ·have H := cf H hb79
     refine At.skip (by kernel_rfl) ?_
     refine At.region (by kernel_rfl) (by kernel_rfl) ?_
     refine In.run' 7 (k' := 7) rfl [(24, (.int .i64 v37)), (25, (.int .i64 (IntKind.wrap .i64 (10 * v37)))), (26, (.int .u8 ((x65).toNat : Int))), (27, (.int .u8 (IntKind.wrap .u8 (((x65).toNat : Int) - 48)))), (28, (.int .i64 (IntKind.wrap .i64 (IntKind.wrap .u8 (((x65).toNat : Int) - 48))))), (29, (.int .i64 (IntKind.wrap .i64 ((IntKind.wrap .i64 (10 * v37)) + (IntKind.wrap .i64 (IntKind.wrap .u8 (((x65).toNat : Int) - 48))))))), (4, (.int .i64 (IntKind.wrap .i64 ((IntKind.wrap .i64 (10 * v37)) + (IntKind.wrap .i64 (IntKind.wrap .u8 (((x65).toNat : Int) - 48)))))))] (by kernel_rfl) ?_
     refine In.fin (by kernel_rfl) ?_
     refine At.region (by kernel_rfl) (by kernel_rfl) ?_
     refine In.run' 2 (k' := 2) rfl [(30, (.int .i64 (IntKind.wrap .i64 (v38 + 1)))), (10, (.int .i64 (IntKind.wrap .i64 (v38 + 1))))] (by kernel_rfl) ?_
     refine In.fin (by kernel_rfl) ?_
     exact ⟨(IntKind.wrap .i64 ((IntKind.wrap .i64 (10 * v37)) + (IntKind.wrap .i64 (IntKind.wrap .u8 (((x65).toNat : Int) - 48))))), (IntKind.wrap .i64 (v38 + 1)), ⟨(by kernel_rfl), (by kernel_rfl), (by kernel_rfl), (by kernel_rfl), (by kernel_rfl), trivial⟩, SP.sel hs78 [0] rfl rfl, H⟩
  ·have H := cf H hb64
   refine At.exit (by kernel_rfl) (id := 0) (by kernel_rfl) ?_
   refine At.seq (by kernel_rfl) (p0 := [true, true, true, false]) (p1 := [true, true, true, true]) rfl rfl ?_
   refine At.seq (by kernel_rfl) (p0 := [true, true, true, false, false]) (p1 := [true, true, true, false, true]) rfl rfl ?_
   refine At.region (by kernel_rfl) (by kernel_rfl) ?_
   refine In.run' 1 (k' := 1) rfl [(31, (.int .i64 v37))] (by kernel_rfl) ?_
   obtain ⟨z82, hz83, H⟩ := bind_elim H
   refine In.step (k' := 2) rfl (by kernel_rfl) ?_
   refine Step.callF (f := 20) (fo := (.func 20)) (xs := #[(.tmp 31)]) (tys := #[2]) (first := #[]) (captured := #[]) (d := (some 32)) (k := 1) (by kernel_rfl) rfl (by kernel_rfl) (by kernel_rfl) Tryd.call20 (L_num_Decimal_walk  v37 w35 (laid_below hL (SP.keeps hs36)) z82 hz83) ?_
   rintro e w84 ⟨rfl, hs85⟩
   refine ⟨_, rfl, ?_⟩
   have hs86 := SP.call hs36 hs85
   clear hs85
   have hs87 : SP [] w0 w84 [rdE eU8 (some ⟨g3, 0, none⟩) c4 p1] := hs86
   clear hs86
   refine In.run' 1 (k' := 3) rfl [(33, (.string ⟨List.toArray p1⟩))] (by kernel_rfl) ?_
   refine In.step (k' := 4) rfl (by kernel_rfl) ?_
   refine Step.strOp (op := .neq) (T := 9) (T' := 9) (x := (.tmp 32)) (y := (.tmp 33)) (a := z82) (b := p1) (r := (.bool (!(z82 == p1)))) (d := (some 34)) (k := 3) (by kernel_rfl) rfl (by kernel_rfl) (by kernel_rfl) rfl ?_
   refine In.fin (by kernel_rfl) ?_
   refine At.cond (by kernel_rfl) (o := (.tmp 34)) (by kernel_rfl) (b := (!(z82 == p1))) (by kernel_rfl) (p0 := [true, true, true, false, true, false]) (p1 := [true, true, true, false, true, true]) rfl rfl (fun hb88 => ?_) (fun hb88 => ?_)
   ·have H := ct H hb88
    refine At.seq (by kernel_rfl) (p0 := [true, true, true, false, true, false, false]) (p1 := [true, true, true, false, true, false, true]) rfl rfl ?_
    refine At.region (by kernel_rfl) (by kernel_rfl) ?_
    refine In.run' 2 (k' := 2) rfl [(2, (.int .i64 0)), (3, (.bool false))] (by kernel_rfl) ?_
    refine In.fin (by kernel_rfl) ?_
    refine At.ret (by kernel_rfl) ?_
    refine ⟨(.tuple #[(.int .i64 0), (.bool false)]), by kernel_rfl, ?_⟩
    obtain rfl := some_elim H
    exact ⟨rfl, SP.sel hs87 [] rfl rfl⟩
   ·have H := cf H hb88
    refine At.skip (by kernel_rfl) ?_
    refine At.seq (by kernel_rfl) (p0 := [true, true, true, true, false]) (p1 := [true, true, true, true, true]) rfl rfl ?_
    refine At.region (by kernel_rfl) (by kernel_rfl) ?_
    refine In.run' 3 (k' := 3) rfl [(35, (.int .i64 v37)), (2, (.int .i64 v37)), (3, (.bool true))] (by kernel_rfl) ?_
    refine In.fin (by kernel_rfl) ?_
    refine At.ret (by kernel_rfl) ?_
    refine ⟨(.tuple #[(.int .i64 v37), (.bool true)]), by kernel_rfl, ?_⟩
    obtain rfl := some_elim H
    exact ⟨rfl, SP.sel hs87 [] rfl rfl⟩
 ·exact ⟨0, 0, ⟨(by kernel_rfl), (by kernel_rfl), (by kernel_rfl), (by kernel_rfl), (by kernel_rfl), trivial⟩, SP.sel hs7 [0] rfl rfl, H⟩
/-! L_subwaylaw01_head -/
def L_subwaylaw01_head_k1 (v89 : Bool) : Option (Bool) :=
  (some (v89))
def L_subwaylaw01_head  : Option (Bool) :=
  ((L_num_Put 300).bind fun z1 => ((L_num_Get ([(130 : UInt8), (44 : UInt8), (7 : UInt8)] : List UInt8)).bind fun z13 => ((L_num_Read ([(2 : UInt8), (97 : UInt8), (98 : UInt8), (99 : UInt8)] : List UInt8)).bind fun z26 => ((L_num_Parse ([51, 48, 48] : List UInt8)).bind fun z32 => ((L_num_Parse ([48, 51, 48] : List UInt8)).bind fun z38 => (cond (((List.length z1 : Nat) : Int) == 2) ((idx z1 0).bind fun x93 => (cond (((x93).toNat : Int) == 130) ((idx z1 1).bind fun x103 => (cond (((x103).toNat : Int) == 44) (cond (z13.1 == 300) (cond (z13.2.1 == 2) (cond z13.2.2 (cond (z26.1 == ([97, 98] : List UInt8)) (cond (z26.2.1 == 3) (cond z26.2.2 ((L_num_Text ([97, 98] : List UInt8)).bind fun z119 => (cond (z119 == ([2, 97, 98] : List UInt8)) (cond (z32.1 == 300) (cond z32.2 (cond (!z38.2) ((L_num_Decimal 300).bind fun z131 => (L_subwaylaw01_head_k1 (z131 == ([51, 48, 48] : List UInt8)))) (L_subwaylaw01_head_k1 false)) (L_subwaylaw01_head_k1 false)) (L_subwaylaw01_head_k1 false)) (L_subwaylaw01_head_k1 false))) (L_subwaylaw01_head_k1 false)) (L_subwaylaw01_head_k1 false)) (L_subwaylaw01_head_k1 false)) (L_subwaylaw01_head_k1 false)) (L_subwaylaw01_head_k1 false)) (L_subwaylaw01_head_k1 false)) (L_subwaylaw01_head_k1 false))) (L_subwaylaw01_head_k1 false))) (L_subwaylaw01_head_k1 false)))))))
set_option maxRecDepth 100000 in
set_option maxHeartbeats 4000000 in
theorem L_subwaylaw01_head_walk   (w0 : World) (hL : LaidW w0)  (r : (Bool)) (H : L_subwaylaw01_head  = some r) :
  Calls Tryd.prog 9 #[] w0 (fun e w' => e = .returned (.bool r) ∧ SP [] w0 w' []) := by
 unfold L_subwaylaw01_head at H
 refine calls_start (n := 91) Tryd.func9 (by kernel_rfl) (by kernel_rfl) (by kernel_rfl) ?_
 have hs0 := SP.start [] w0
 refine At.seq (by kernel_rfl) (p0 := [false]) (p1 := [true]) rfl rfl ?_
 refine At.region (by kernel_rfl) (by kernel_rfl) ?_
 refine In.run' 1 (k' := 1) rfl [(0, (.bool false))] (by kernel_rfl) ?_
 refine In.fin (by kernel_rfl) ?_
 refine At.seq (by kernel_rfl) (p0 := [true, false]) (p1 := [true, true]) rfl rfl ?_
 refine At.region (by kernel_rfl) (by kernel_rfl) ?_
 obtain ⟨z1, hz2, H⟩ := bind_elim H
 refine In.step (k' := 1) rfl (by kernel_rfl) ?_
 refine Step.callF (f := 16) (fo := (.func 16)) (xs := #[(.const (.int .i64 (300)))]) (tys := #[2]) (first := #[]) (captured := #[]) (d := (some 12)) (k := 0) (by kernel_rfl) rfl (by kernel_rfl) (by kernel_rfl) Tryd.call16 (L_num_Put_walk  300 w0  z1 hz2) ?_
 rintro e w3 ⟨A5, c6, rfl, hs4⟩
 refine ⟨_, rfl, ?_⟩
 have hs7 := SP.call hs0 hs4
 clear hs4
 have hs8 : SP [] w0 w3 [rowT 5 eU8 A5 c6 z1] := hs7
 clear hs7
 refine In.run' 1 (k' := 2) rfl [(1, (.slice A5 (List.length z1) c6))] (by kernel_rfl) ?_
 refine In.fin (by kernel_rfl) ?_
 refine At.seq (by kernel_rfl) (p0 := [true, true, false]) (p1 := [true, true, true]) rfl rfl ?_
 refine At.region (by kernel_rfl) (by kernel_rfl) ?_
 refine In.step (k' := 1) rfl (by kernel_rfl) ?_
 refine Step.newSlice (e := eU8) (T := 22) (E := 5) (len := 3) (parts := #[(0, (.const (.int .u8 (130)))), (1, (.const (.int .u8 (44)))), (2, (.const (.int .u8 (7))))]) (cs := #[(.int .u8 130), (.int .u8 44), (.int .u8 7)]) ([(130 : UInt8), (44 : UInt8), (7 : UInt8)] : List UInt8) (d := (some 14)) (k := 0) (by kernel_rfl) rfl (fun _ => by kernel_rfl) hs8 (cells_cons8 (Or.inl rfl) (cells_cons8 (Or.inl rfl) (cells_cons8 (Or.inl rfl) rfl))) rfl rfl rfl ?_
 intro g9 w10 hs11
 have hs12 : SP [] w0 w10 [rowT 5 eU8 A5 c6 z1, rowT 5 eU8 (some ⟨g9, 0, none⟩) (List.length ([(130 : UInt8), (44 : UInt8), (7 : UInt8)] : List UInt8)) ([(130 : UInt8), (44 : UInt8), (7 : UInt8)] : List UInt8)] := hs11
 clear hs11
 obtain ⟨z13, hz14, H⟩ := bind_elim H
 refine In.step (k' := 2) rfl (by kernel_rfl) ?_
 refine Step.callF (f := 10) (fo := (.func 10)) (xs := #[(.tmp 14)]) (tys := #[22]) (first := #[]) (captured := #[]) (d := (some 15)) (k := 1) (by kernel_rfl) rfl (by kernel_rfl) (by kernel_rfl) Tryd.call10 (L_num_Get_walk (some ⟨g9, 0, none⟩) (List.length ([(130 : UInt8), (44 : UInt8), (7 : UInt8)] : List UInt8)) ([(130 : UInt8), (44 : UInt8), (7 : UInt8)] : List UInt8) w10 (rowT_rd (SP.get hs12 (i := 1) rfl)) z13 hz14) ?_
 rintro e w15 ⟨rfl, hs16⟩
 refine ⟨_, rfl, ?_⟩
 have hs17 := SP.call hs12 hs16
 clear hs16
 have hs18 : SP [] w0 w15 [rowT 5 eU8 A5 c6 z1, rowT 5 eU8 (some ⟨g9, 0, none⟩) (List.length ([(130 : UInt8), (44 : UInt8), (7 : UInt8)] : List UInt8)) ([(130 : UInt8), (44 : UInt8), (7 : UInt8)] : List UInt8)] := hs17
 clear hs17
 refine In.run' 7 (k' := 9) rfl [(13, (.tuple #[(.int .i64 z13.1), (.int .i64 z13.2.1), (.bool z13.2.2)])), (16, (.int .i64 z13.1)), (17, (.int .i64 z13.2.1)), (18, (.bool z13.2.2)), (2, (.int .i64 z13.1)), (3, (.int .i64 z13.2.1)), (4, (.bool z13.2.2))] (by kernel_rfl) ?_
 refine In.fin (by kernel_rfl) ?_
 refine At.seq (by kernel_rfl) (p0 := [true, true, true, false]) (p1 := [true, true, true, true]) rfl rfl ?_
 refine At.region (by kernel_rfl) (by kernel_rfl) ?_
 refine In.step (k' := 1) rfl (by kernel_rfl) ?_
 refine Step.newSlice (e := eU8) (T := 22) (E := 5) (len := 4) (parts := #[(0, (.const (.int .u8 (2)))), (1, (.const (.int .u8 (97)))), (2, (.const (.int .u8 (98)))), (3, (.const (.int .u8 (99))))]) (cs := #[(.int .u8 2), (.int .u8 97), (.int .u8 98), (.int .u8 99)]) ([(2 : UInt8), (97 : UInt8), (98 : UInt8), (99 : UInt8)] : List UInt8) (d := (some 20)) (k := 0) (by kernel_rfl) rfl (fun _ => by kernel_rfl) hs18 (cells_cons8 (Or.inl rfl) (cells_cons8 (Or.inl rfl) (cells_cons8 (Or.inl rfl) (cells_cons8 (Or.inl rfl) rfl)))) rfl rfl rfl ?_
 intro g19 w20 hs21
 have hs22 : SP [] w0 w20 [rowT 5 eU8 A5 c6 z1, rowT 5 eU8 (some ⟨g9, 0, none⟩) (List.length ([(130 : UInt8), (44 : UInt8), (7 : UInt8)] : List UInt8)) ([(130 : UInt8), (44 : UInt8), (7 : UInt8)] : List UInt8), rowT 5 eU8 (some ⟨g19, 0, none⟩) (List.length ([(2 : UInt8), (97 : UInt8), (98 : UInt8), (99 : UInt8)] : List UInt8)) ([(2 : UInt8), (97 : UInt8), (98 : UInt8), (99 : UInt8)] : List UInt8)] := hs21
 clear hs21
 refine In.step (k' := 2) rfl (by kernel_rfl) ?_
 refine Step.mark (T := 22) (E := 5) (x := (.tmp 20)) (g := g19) (c := (List.length ([(2 : UInt8), (97 : UInt8), (98 : UInt8), (99 : UInt8)] : List UInt8))) (i := 2) (l := ([(2 : UInt8), (97 : UInt8), (98 : UInt8), (99 : UInt8)] : List UInt8)) (d := (some 21)) (k := 1) (by kernel_rfl) rfl (by kernel_rfl) (by kernel_rfl) (by kernel_rfl) hs22 rfl ?_
 intro w23 hs24
 have hs25 : SP [] w0 w23 [rowT 5 eU8 A5 c6 z1, rowT 5 eU8 (some ⟨g9, 0, none⟩) (List.length ([(130 : UInt8), (44 : UInt8), (7 : UInt8)] : List UInt8)) ([(130 : UInt8), (44 : UInt8), (7 : UInt8)] : List UInt8), rdE eU8 (some ⟨g19, 0, none⟩) (List.length ([(2 : UInt8), (97 : UInt8), (98 : UInt8), (99 : UInt8)] : List UInt8)) ([(2 : UInt8), (97 : UInt8), (98 : UInt8), (99 : UInt8)] : List UInt8)] := hs24
 clear hs24
 obtain ⟨z26, hz27, H⟩ := bind_elim H
 refine In.step (k' := 3) rfl (by kernel_rfl) ?_
 refine Step.callF (f := 12) (fo := (.func 12)) (xs := #[(.tmp 21)]) (tys := #[22]) (first := #[]) (captured := #[]) (d := (some 22)) (k := 2) (by kernel_rfl) rfl (by kernel_rfl) (by kernel_rfl) Tryd.call12 (L_num_Read_walk (some ⟨g19, 0, none⟩) (List.length ([(2 : UInt8), (97 : UInt8), (98 : UInt8), (99 : UInt8)] : List UInt8)) ([(2 : UInt8), (97 : UInt8), (98 : UInt8), (99 : UInt8)] : List UInt8) w23 (rdE_rd (SP.get hs25 (i := 2) rfl)) z26 hz27) ?_
 rintro e w28 ⟨rfl, hs29⟩
 refine ⟨_, rfl, ?_⟩
 have hs30 := SP.call hs25 hs29
 clear hs29
 have hs31 : SP [] w0 w28 [rowT 5 eU8 A5 c6 z1, rowT 5 eU8 (some ⟨g9, 0, none⟩) (List.length ([(130 : UInt8), (44 : UInt8), (7 : UInt8)] : List UInt8)) ([(130 : UInt8), (44 : UInt8), (7 : UInt8)] : List UInt8), rdE eU8 (some ⟨g19, 0, none⟩) (List.length ([(2 : UInt8), (97 : UInt8), (98 : UInt8), (99 : UInt8)] : List UInt8)) ([(2 : UInt8), (97 : UInt8), (98 : UInt8), (99 : UInt8)] : List UInt8)] := hs30
 clear hs30
 refine In.run' 7 (k' := 10) rfl [(19, (.tuple #[(.string ⟨List.toArray z26.1⟩), (.int .i64 z26.2.1), (.bool z26.2.2)])), (23, (.string ⟨List.toArray z26.1⟩)), (24, (.int .i64 z26.2.1)), (25, (.bool z26.2.2)), (5, (.string ⟨List.toArray z26.1⟩)), (6, (.int .i64 z26.2.1)), (7, (.bool z26.2.2))] (by kernel_rfl) ?_
 refine In.fin (by kernel_rfl) ?_
 refine At.seq (by kernel_rfl) (p0 := [true, true, true, true, false]) (p1 := [true, true, true, true, true]) rfl rfl ?_
 refine At.region (by kernel_rfl) (by kernel_rfl) ?_
 obtain ⟨z32, hz33, H⟩ := bind_elim H
 refine In.step (k' := 1) rfl (by kernel_rfl) ?_
 refine Step.callF (f := 14) (fo := (.func 14)) (xs := #[(.const (.string ⟨List.toArray ([51, 48, 48] : List UInt8)⟩))]) (tys := #[9]) (first := #[]) (captured := #[]) (d := (some 27)) (k := 0) (by kernel_rfl) rfl (by kernel_rfl) (by kernel_rfl) Tryd.call14 (L_num_Parse_walk  ([51, 48, 48] : List UInt8) w28 (laid_below hL (SP.keeps hs31)) z32 hz33) ?_
 rintro e w34 ⟨rfl, hs35⟩
 refine ⟨_, rfl, ?_⟩
 have hs36 := SP.call hs31 hs35
 clear hs35
 have hs37 : SP [] w0 w34 [rowT 5 eU8 A5 c6 z1, rowT 5 eU8 (some ⟨g9, 0, none⟩) (List.length ([(130 : UInt8), (44 : UInt8), (7 : UInt8)] : List UInt8)) ([(130 : UInt8), (44 : UInt8), (7 : UInt8)] : List UInt8), rdE eU8 (some ⟨g19, 0, none⟩) (List.length ([(2 : UInt8), (97 : UInt8), (98 : UInt8), (99 : UInt8)] : List UInt8)) ([(2 : UInt8), (97 : UInt8), (98 : UInt8), (99 : UInt8)] : List UInt8)] := hs36
 clear hs36
 refine In.run' 5 (k' := 6) rfl [(26, (.tuple #[(.int .i64 z32.1), (.bool z32.2)])), (28, (.int .i64 z32.1)), (29, (.bool z32.2)), (8, (.int .i64 z32.1)), (9, (.bool z32.2))] (by kernel_rfl) ?_
 refine In.fin (by kernel_rfl) ?_
 refine At.seq (by kernel_rfl) (p0 := [true, true, true, true, true, false]) (p1 := [true, true, true, true, true, true]) rfl rfl ?_
 refine At.region (by kernel_rfl) (by kernel_rfl) ?_
 obtain ⟨z38, hz39, H⟩ := bind_elim H
 refine In.step (k' := 1) rfl (by kernel_rfl) ?_
 refine Step.callF (f := 14) (fo := (.func 14)) (xs := #[(.const (.string ⟨List.toArray ([48, 51, 48] : List UInt8)⟩))]) (tys := #[9]) (first := #[]) (captured := #[]) (d := (some 31)) (k := 0) (by kernel_rfl) rfl (by kernel_rfl) (by kernel_rfl) Tryd.call14 (L_num_Parse_walk  ([48, 51, 48] : List UInt8) w34 (laid_below hL (SP.keeps hs37)) z38 hz39) ?_
 rintro e w40 ⟨rfl, hs41⟩
 refine ⟨_, rfl, ?_⟩
 have hs42 := SP.call hs37 hs41
 clear hs41
 have hs43 : SP [] w0 w40 [rowT 5 eU8 A5 c6 z1, rowT 5 eU8 (some ⟨g9, 0, none⟩) (List.length ([(130 : UInt8), (44 : UInt8), (7 : UInt8)] : List UInt8)) ([(130 : UInt8), (44 : UInt8), (7 : UInt8)] : List UInt8), rdE eU8 (some ⟨g19, 0, none⟩) (List.length ([(2 : UInt8), (97 : UInt8), (98 : UInt8), (99 : UInt8)] : List UInt8)) ([(2 : UInt8), (97 : UInt8), (98 : UInt8), (99 : UInt8)] : List UInt8)] := hs42
 clear hs42
 refine In.run' 5 (k' := 6) rfl [(30, (.tuple #[(.int .i64 z38.1), (.bool z38.2)])), (32, (.int .i64 z38.1)), (33, (.bool z38.2)), (10, (.int .i64 z38.1)), (11, (.bool z38.2))] (by kernel_rfl) ?_
 refine In.fin (by kernel_rfl) ?_
 refine At.seq (by kernel_rfl) (p0 := [true, true, true, true, true, true, false]) (p1 := [true, true, true, true, true, true, true]) rfl rfl ?_
 refine At.join (fun ρ w => ∃ (v89 : Bool), Known ρ [(0, (.bool v89))] ∧ SP [] w0 w [] ∧ L_subwaylaw01_head_k1 v89 = some r) ?_ ?_
 ·refine At.region (by kernel_rfl) (by kernel_rfl) ?_
  refine In.run' 4 (k' := 4) rfl [(34, (.slice A5 (List.length z1) c6)), (35, (.int .i64 ((List.length z1 : Nat) : Int))), (36, (.bool (((List.length z1 : Nat) : Int) == 2))), (37, (.bool (((List.length z1 : Nat) : Int) == 2)))] (by kernel_rfl) ?_
  refine In.guard (t := 37) (b := (((List.length z1 : Nat) : Int) == 2)) (by kernel_rfl) (fun hb92 => ?_) (fun hb92 => ?_)
  ·have H := ct H hb92
   refine In.run' 1 (k' := 5) rfl [(38, (.slice A5 (List.length z1) c6))] (by kernel_rfl) ?_
   obtain ⟨x93, hp94, hq95, hx96, H⟩ := idx_elim H
   refine In.step (k' := 6) rfl (by kernel_rfl) ?_
   refine Step.elem (e := eU8) (l := z1) (A := A5) (c := c6) (T := 22) (E := 5) (x := (.tmp 38)) (ix := (.const (.int .i64 (0)))) (ki := .i64) (iz := 0) (d := (some 39)) (k := 5) (by kernel_rfl) rfl (by kernel_rfl) (by kernel_rfl) (by kernel_rfl) (by kernel_rfl) (rowT_rd (SP.get hs43 (i := 0) rfl)) hp94 hq95 ?_
   intro b97 o98 hA100 hb101 hc99
   refine In.step (k' := 7) rfl (by kernel_rfl) ?_
   refine Step.cell (t := 5) (x := (.tmp 39)) (b := b97) (off := (o98 + Int.toNat 0 * eU8.sz)) (v := (.int .u8 ((x93).toNat : Int))) (d := (some 40)) (k := 6) (by kernel_rfl) rfl (by kernel_rfl) (by kernel_rfl) (elem_cell (e := eU8) (rdt_cells (rowT_rd (SP.get hs43 (i := 0) rfl)) hA100 hp94 hq95) hx96 (j := 0) rfl) ?_
   refine In.run' 3 (k' := 10) rfl [(41, (.bool (((x93).toNat : Int) == 130))), (42, (.bool (((x93).toNat : Int) == 130))), (43, (.bool (((x93).toNat : Int) == 130)))] (by kernel_rfl) ?_
   refine In.guard (t := 43) (b := (((x93).toNat : Int) == 130)) (by kernel_rfl) (fun hb102 => ?_) (fun hb102 => ?_)
   ·have H := ct H hb102
    refine In.run' 1 (k' := 11) rfl [(44, (.slice A5 (List.length z1) c6))] (by kernel_rfl) ?_
    obtain ⟨x103, hp104, hq105, hx106, H⟩ := idx_elim H
    refine In.step (k' := 12) rfl (by kernel_rfl) ?_
    refine Step.elem (e := eU8) (l := z1) (A := A5) (c := c6) (T := 22) (E := 5) (x := (.tmp 44)) (ix := (.const (.int .i64 (1)))) (ki := .i64) (iz := 1) (d := (some 45)) (k := 11) (by kernel_rfl) rfl (by kernel_rfl) (by kernel_rfl) (by kernel_rfl) (by kernel_rfl) (rowT_rd (SP.get hs43 (i := 0) rfl)) hp104 hq105 ?_
    intro b107 o108 hA110 hb111 hc109
    refine In.step (k' := 13) rfl (by kernel_rfl) ?_
    refine Step.cell (t := 5) (x := (.tmp 45)) (b := b107) (off := (o108 + Int.toNat 1 * eU8.sz)) (v := (.int .u8 ((x103).toNat : Int))) (d := (some 46)) (k := 12) (by kernel_rfl) rfl (by kernel_rfl) (by kernel_rfl) (elem_cell (e := eU8) (rdt_cells (rowT_rd (SP.get hs43 (i := 0) rfl)) hA110 hp104 hq105) hx106 (j := 0) rfl) ?_
    refine In.run' 3 (k' := 16) rfl [(47, (.bool (((x103).toNat : Int) == 44))), (48, (.bool (((x103).toNat : Int) == 44))), (49, (.bool (((x103).toNat : Int) == 44)))] (by kernel_rfl) ?_
    refine In.guard (t := 49) (b := (((x103).toNat : Int) == 44)) (by kernel_rfl) (fun hb112 => ?_) (fun hb112 => ?_)
    ·have H := ct H hb112
     refine In.run' 4 (k' := 20) rfl [(50, (.int .i64 z13.1)), (51, (.bool (z13.1 == 300))), (52, (.bool (z13.1 == 300))), (53, (.bool (z13.1 == 300)))] (by kernel_rfl) ?_
     refine In.guard (t := 53) (b := (z13.1 == 300)) (by kernel_rfl) (fun hb113 => ?_) (fun hb113 => ?_)
     ·have H := ct H hb113
      refine In.run' 4 (k' := 24) rfl [(54, (.int .i64 z13.2.1)), (55, (.bool (z13.2.1 == 2))), (56, (.bool (z13.2.1 == 2))), (57, (.bool (z13.2.1 == 2)))] (by kernel_rfl) ?_
      refine In.guard (t := 57) (b := (z13.2.1 == 2)) (by kernel_rfl) (fun hb114 => ?_) (fun hb114 => ?_)
      ·have H := ct H hb114
       refine In.run' 3 (k' := 27) rfl [(58, (.bool z13.2.2)), (59, (.bool z13.2.2)), (60, (.bool z13.2.2))] (by kernel_rfl) ?_
       refine In.guard (t := 60) (b := z13.2.2) (by kernel_rfl) (fun hb115 => ?_) (fun hb115 => ?_)
       ·have H := ct H hb115
        refine In.run' 1 (k' := 28) rfl [(61, (.string ⟨List.toArray z26.1⟩))] (by kernel_rfl) ?_
        refine In.step (k' := 29) rfl (by kernel_rfl) ?_
        refine Step.strOp (op := .eql) (T := 9) (T' := 9) (x := (.tmp 61)) (y := (.const (.string ⟨List.toArray ([97, 98] : List UInt8)⟩))) (a := z26.1) (b := ([97, 98] : List UInt8)) (r := (.bool (z26.1 == ([97, 98] : List UInt8)))) (d := (some 62)) (k := 28) (by kernel_rfl) rfl (by kernel_rfl) (by kernel_rfl) rfl ?_
        refine In.run' 2 (k' := 31) rfl [(63, (.bool (z26.1 == ([97, 98] : List UInt8)))), (64, (.bool (z26.1 == ([97, 98] : List UInt8))))] (by kernel_rfl) ?_
        refine In.guard (t := 64) (b := (z26.1 == ([97, 98] : List UInt8))) (by kernel_rfl) (fun hb116 => ?_) (fun hb116 => ?_)
        ·have H := ct H hb116
         refine In.run' 4 (k' := 35) rfl [(65, (.int .i64 z26.2.1)), (66, (.bool (z26.2.1 == 3))), (67, (.bool (z26.2.1 == 3))), (68, (.bool (z26.2.1 == 3)))] (by kernel_rfl) ?_
         refine In.guard (t := 68) (b := (z26.2.1 == 3)) (by kernel_rfl) (fun hb117 => ?_) (fun hb117 => ?_)
         ·have H := ct H hb117
          refine In.run' 3 (k' := 38) rfl [(69, (.bool z26.2.2)), (70, (.bool z26.2.2)), (71, (.bool z26.2.2))] (by kernel_rfl) ?_
          refine In.guard (t := 71) (b := z26.2.2) (by kernel_rfl) (fun hb118 => ?_) (fun hb118 => ?_)
          ·have H := ct H hb118
           obtain ⟨z119, hz120, H⟩ := bind_elim H
           refine In.step (k' := 39) rfl (by kernel_rfl) ?_
           refine Step.callF (f := 18) (fo := (.func 18)) (xs := #[(.const (.string ⟨List.toArray ([97, 98] : List UInt8)⟩))]) (tys := #[9]) (first := #[]) (captured := #[]) (d := (some 72)) (k := 38) (by kernel_rfl) rfl (by kernel_rfl) (by kernel_rfl) Tryd.call18 (L_num_Text_walk  ([97, 98] : List UInt8) w40  z119 hz120) ?_
           rintro e w121 ⟨A123, c124, rfl, hs122⟩
           refine ⟨_, rfl, ?_⟩
           have hs125 := SP.call hs43 hs122
           clear hs122
           have hs126 : SP [] w0 w121 [rowT 5 eU8 A5 c6 z1, rowT 5 eU8 (some ⟨g9, 0, none⟩) (List.length ([(130 : UInt8), (44 : UInt8), (7 : UInt8)] : List UInt8)) ([(130 : UInt8), (44 : UInt8), (7 : UInt8)] : List UInt8), rdE eU8 (some ⟨g19, 0, none⟩) (List.length ([(2 : UInt8), (97 : UInt8), (98 : UInt8), (99 : UInt8)] : List UInt8)) ([(2 : UInt8), (97 : UInt8), (98 : UInt8), (99 : UInt8)] : List UInt8), rowT 5 eU8 A123 c124 z119] := hs125
           clear hs125
           refine In.step (k' := 40) rfl (by kernel_rfl) ?_
           refine Step.toStr (T := 22) (S' := 9) (E := 5) (x := (.tmp 72)) (A := A123) (c := c124) (l := z119) (d := (some 73)) (k := 39) (by kernel_rfl) rfl (by kernel_rfl) (by kernel_rfl) (by kernel_rfl) (by kernel_rfl) (rowT_rd (SP.get hs126 (i := 3) rfl)) ?_
           refine In.step (k' := 41) rfl (by kernel_rfl) ?_
           refine Step.strOp (op := .eql) (T := 9) (T' := 9) (x := (.tmp 73)) (y := (.const (.string ⟨List.toArray ([2, 97, 98] : List UInt8)⟩))) (a := z119) (b := ([2, 97, 98] : List UInt8)) (r := (.bool (z119 == ([2, 97, 98] : List UInt8)))) (d := (some 74)) (k := 40) (by kernel_rfl) rfl (by kernel_rfl) (by kernel_rfl) rfl ?_
           refine In.run' 2 (k' := 43) rfl [(75, (.bool (z119 == ([2, 97, 98] : List UInt8)))), (76, (.bool (z119 == ([2, 97, 98] : List UInt8))))] (by kernel_rfl) ?_
           refine In.guard (t := 76) (b := (z119 == ([2, 97, 98] : List UInt8))) (by kernel_rfl) (fun hb127 => ?_) (fun hb127 => ?_)
           ·have H := ct H hb127
            refine In.run' 4 (k' := 47) rfl [(77, (.int .i64 z32.1)), (78, (.bool (z32.1 == 300))), (79, (.bool (z32.1 == 300))), (80, (.bool (z32.1 == 300)))] (by kernel_rfl) ?_
            refine In.guard (t := 80) (b := (z32.1 == 300)) (by kernel_rfl) (fun hb128 => ?_) (fun hb128 => ?_)
            ·have H := ct H hb128
             refine In.run' 3 (k' := 50) rfl [(81, (.bool z32.2)), (82, (.bool z32.2)), (83, (.bool z32.2))] (by kernel_rfl) ?_
             refine In.guard (t := 83) (b := z32.2) (by kernel_rfl) (fun hb129 => ?_) (fun hb129 => ?_)
             ·have H := ct H hb129
              refine In.run' 4 (k' := 54) rfl [(84, (.bool z38.2)), (85, (.bool (!z38.2))), (86, (.bool (!z38.2))), (87, (.bool (!z38.2)))] (by kernel_rfl) ?_
              refine In.guard (t := 87) (b := (!z38.2)) (by kernel_rfl) (fun hb130 => ?_) (fun hb130 => ?_)
              ·have H := ct H hb130
               obtain ⟨z131, hz132, H⟩ := bind_elim H
               refine In.step (k' := 55) rfl (by kernel_rfl) ?_
               refine Step.callF (f := 20) (fo := (.func 20)) (xs := #[(.const (.int .i64 (300)))]) (tys := #[2]) (first := #[]) (captured := #[]) (d := (some 88)) (k := 54) (by kernel_rfl) rfl (by kernel_rfl) (by kernel_rfl) Tryd.call20 (L_num_Decimal_walk  300 w121 (laid_below hL (SP.keeps hs126)) z131 hz132) ?_
               rintro e w133 ⟨rfl, hs134⟩
               refine ⟨_, rfl, ?_⟩
               have hs135 := SP.call hs126 hs134
               clear hs134
               have hs136 : SP [] w0 w133 [rowT 5 eU8 A5 c6 z1, rowT 5 eU8 (some ⟨g9, 0, none⟩) (List.length ([(130 : UInt8), (44 : UInt8), (7 : UInt8)] : List UInt8)) ([(130 : UInt8), (44 : UInt8), (7 : UInt8)] : List UInt8), rdE eU8 (some ⟨g19, 0, none⟩) (List.length ([(2 : UInt8), (97 : UInt8), (98 : UInt8), (99 : UInt8)] : List UInt8)) ([(2 : UInt8), (97 : UInt8), (98 : UInt8), (99 : UInt8)] : List UInt8), rowT 5 eU8 A123 c124 z119] := hs135
               clear hs135
               refine In.step (k' := 56) rfl (by kernel_rfl) ?_
               refine Step.strOp (op := .eql) (T := 9) (T' := 9) (x := (.tmp 88)) (y := (.const (.string ⟨List.toArray ([51, 48, 48] : List UInt8)⟩))) (a := z131) (b := ([51, 48, 48] : List UInt8)) (r := (.bool (z131 == ([51, 48, 48] : List UInt8)))) (d := (some 89)) (k := 55) (by kernel_rfl) rfl (by kernel_rfl) (by kernel_rfl) rfl ?_
               refine In.run' 2 (k' := 58) rfl [(90, (.bool (z131 == ([51, 48, 48] : List UInt8)))), (0, (.bool (z131 == ([51, 48, 48] : List UInt8))))] (by kernel_rfl) ?_
               refine In.fin (by kernel_rfl) ?_
               exact ⟨(z131 == ([51, 48, 48] : List UInt8)), ⟨(by kernel_rfl), trivial⟩, SP.sel hs136 [] rfl rfl, H⟩
              ·have H := cf H hb130
               refine In.run' 4 (k' := 58) rfl [(88, undef), (89, undef), (90, (.bool false)), (0, (.bool false))] (by kernel_rfl) ?_
               refine In.fin (by kernel_rfl) ?_
               exact ⟨false, ⟨(by kernel_rfl), trivial⟩, SP.sel hs126 [] rfl rfl, H⟩
             ·have H := cf H hb129
              refine In.run' 8 (k' := 58) rfl [(84, undef), (85, undef), (86, (.bool false)), (87, (.bool false)), (88, undef), (89, undef), (90, (.bool false)), (0, (.bool false))] (by kernel_rfl) ?_
              refine In.fin (by kernel_rfl) ?_
              exact ⟨false, ⟨(by kernel_rfl), trivial⟩, SP.sel hs126 [] rfl rfl, H⟩
            ·have H := cf H hb128
             refine In.run' 11 (k' := 58) rfl [(81, undef), (82, (.bool false)), (83, (.bool false)), (84, undef), (85, undef), (86, (.bool false)), (87, (.bool false)), (88, undef), (89, undef), (90, (.bool false)), (0, (.bool false))] (by kernel_rfl) ?_
             refine In.fin (by kernel_rfl) ?_
             exact ⟨false, ⟨(by kernel_rfl), trivial⟩, SP.sel hs126 [] rfl rfl, H⟩
           ·have H := cf H hb127
            refine In.run' 15 (k' := 58) rfl [(77, undef), (78, undef), (79, (.bool false)), (80, (.bool false)), (81, undef), (82, (.bool false)), (83, (.bool false)), (84, undef), (85, undef), (86, (.bool false)), (87, (.bool false)), (88, undef), (89, undef), (90, (.bool false)), (0, (.bool false))] (by kernel_rfl) ?_
            refine In.fin (by kernel_rfl) ?_
            exact ⟨false, ⟨(by kernel_rfl), trivial⟩, SP.sel hs126 [] rfl rfl, H⟩
          ·have H := cf H hb118
           refine In.run' 20 (k' := 58) rfl [(72, undef), (73, undef), (74, undef), (75, (.bool false)), (76, (.bool false)), (77, undef), (78, undef), (79, (.bool false)), (80, (.bool false)), (81, undef), (82, (.bool false)), (83, (.bool false)), (84, undef), (85, undef), (86, (.bool false)), (87, (.bool false)), (88, undef), (89, undef), (90, (.bool false)), (0, (.bool false))] (by kernel_rfl) ?_
           refine In.fin (by kernel_rfl) ?_
           exact ⟨false, ⟨(by kernel_rfl), trivial⟩, SP.sel hs43 [] rfl rfl, H⟩
         ·have H := cf H hb117
          refine In.run' 23 (k' := 58) rfl [(69, undef), (70, (.bool false)), (71, (.bool false)), (72, undef), (73, undef), (74, undef), (75, (.bool false)), (76, (.bool false)), (77, undef), (78, undef), (79, (.bool false)), (80, (.bool false)), (81, undef), (82, (.bool false)), (83, (.bool false)), (84, undef), (85, undef), (86, (.bool false)), (87, (.bool false)), (88, undef), (89, undef), (90, (.bool false)), (0, (.bool false))] (by kernel_rfl) ?_
          refine In.fin (by kernel_rfl) ?_
          exact ⟨false, ⟨(by kernel_rfl), trivial⟩, SP.sel hs43 [] rfl rfl, H⟩
        ·have H := cf H hb116
         refine In.run' 27 (k' := 58) rfl [(65, undef), (66, undef), (67, (.bool false)), (68, (.bool false)), (69, undef), (70, (.bool false)), (71, (.bool false)), (72, undef), (73, undef), (74, undef), (75, (.bool false)), (76, (.bool false)), (77, undef), (78, undef), (79, (.bool false)), (80, (.bool false)), (81, undef), (82, (.bool false)), (83, (.bool false)), (84, undef), (85, undef), (86, (.bool false)), (87, (.bool false)), (88, undef), (89, undef), (90, (.bool false)), (0, (.bool false))] (by kernel_rfl) ?_
         refine In.fin (by kernel_rfl) ?_
         exact ⟨false, ⟨(by kernel_rfl), trivial⟩, SP.sel hs43 [] rfl rfl, H⟩
       ·have H := cf H hb115
        refine In.run' 31 (k' := 58) rfl [(61, undef), (62, undef), (63, (.bool false)), (64, (.bool false)), (65, undef), (66, undef), (67, (.bool false)), (68, (.bool false)), (69, undef), (70, (.bool false)), (71, (.bool false)), (72, undef), (73, undef), (74, undef), (75, (.bool false)), (76, (.bool false)), (77, undef), (78, undef), (79, (.bool false)), (80, (.bool false)), (81, undef), (82, (.bool false)), (83, (.bool false)), (84, undef), (85, undef), (86, (.bool false)), (87, (.bool false)), (88, undef), (89, undef), (90, (.bool false)), (0, (.bool false))] (by kernel_rfl) ?_
        refine In.fin (by kernel_rfl) ?_
        exact ⟨false, ⟨(by kernel_rfl), trivial⟩, SP.sel hs43 [] rfl rfl, H⟩
      ·have H := cf H hb114
       refine In.run' 34 (k' := 58) rfl [(58, undef), (59, (.bool false)), (60, (.bool false)), (61, undef), (62, undef), (63, (.bool false)), (64, (.bool false)), (65, undef), (66, undef), (67, (.bool false)), (68, (.bool false)), (69, undef), (70, (.bool false)), (71, (.bool false)), (72, undef), (73, undef), (74, undef), (75, (.bool false)), (76, (.bool false)), (77, undef), (78, undef), (79, (.bool false)), (80, (.bool false)), (81, undef), (82, (.bool false)), (83, (.bool false)), (84, undef), (85, undef), (86, (.bool false)), (87, (.bool false)), (88, undef), (89, undef), (90, (.bool false)), (0, (.bool false))] (by kernel_rfl) ?_
       refine In.fin (by kernel_rfl) ?_
       exact ⟨false, ⟨(by kernel_rfl), trivial⟩, SP.sel hs43 [] rfl rfl, H⟩
     ·have H := cf H hb113
      refine In.run' 38 (k' := 58) rfl [(54, undef), (55, undef), (56, (.bool false)), (57, (.bool false)), (58, undef), (59, (.bool false)), (60, (.bool false)), (61, undef), (62, undef), (63, (.bool false)), (64, (.bool false)), (65, undef), (66, undef), (67, (.bool false)), (68, (.bool false)), (69, undef), (70, (.bool false)), (71, (.bool false)), (72, undef), (73, undef), (74, undef), (75, (.bool false)), (76, (.bool false)), (77, undef), (78, undef), (79, (.bool false)), (80, (.bool false)), (81, undef), (82, (.bool false)), (83, (.bool false)), (84, undef), (85, undef), (86, (.bool false)), (87, (.bool false)), (88, undef), (89, undef), (90, (.bool false)), (0, (.bool false))] (by kernel_rfl) ?_
      refine In.fin (by kernel_rfl) ?_
      exact ⟨false, ⟨(by kernel_rfl), trivial⟩, SP.sel hs43 [] rfl rfl, H⟩
    ·have H := cf H hb112
     refine In.run' 42 (k' := 58) rfl [(50, undef), (51, undef), (52, (.bool false)), (53, (.bool false)), (54, undef), (55, undef), (56, (.bool false)), (57, (.bool false)), (58, undef), (59, (.bool false)), (60, (.bool false)), (61, undef), (62, undef), (63, (.bool false)), (64, (.bool false)), (65, undef), (66, undef), (67, (.bool false)), (68, (.bool false)), (69, undef), (70, (.bool false)), (71, (.bool false)), (72, undef), (73, undef), (74, undef), (75, (.bool false)), (76, (.bool false)), (77, undef), (78, undef), (79, (.bool false)), (80, (.bool false)), (81, undef), (82, (.bool false)), (83, (.bool false)), (84, undef), (85, undef), (86, (.bool false)), (87, (.bool false)), (88, undef), (89, undef), (90, (.bool false)), (0, (.bool false))] (by kernel_rfl) ?_
     refine In.fin (by kernel_rfl) ?_
     exact ⟨false, ⟨(by kernel_rfl), trivial⟩, SP.sel hs43 [] rfl rfl, H⟩
   ·have H := cf H hb102
    refine In.run' 48 (k' := 58) rfl [(44, undef), (45, undef), (46, undef), (47, undef), (48, (.bool false)), (49, (.bool false)), (50, undef), (51, undef), (52, (.bool false)), (53, (.bool false)), (54, undef), (55, undef), (56, (.bool false)), (57, (.bool false)), (58, undef), (59, (.bool false)), (60, (.bool false)), (61, undef), (62, undef), (63, (.bool false)), (64, (.bool false)), (65, undef), (66, undef), (67, (.bool false)), (68, (.bool false)), (69, undef), (70, (.bool false)), (71, (.bool false)), (72, undef), (73, undef), (74, undef), (75, (.bool false)), (76, (.bool false)), (77, undef), (78, undef), (79, (.bool false)), (80, (.bool false)), (81, undef), (82, (.bool false)), (83, (.bool false)), (84, undef), (85, undef), (86, (.bool false)), (87, (.bool false)), (88, undef), (89, undef), (90, (.bool false)), (0, (.bool false))] (by kernel_rfl) ?_
    refine In.fin (by kernel_rfl) ?_
    exact ⟨false, ⟨(by kernel_rfl), trivial⟩, SP.sel hs43 [] rfl rfl, H⟩
  ·have H := cf H hb92
   refine In.run' 54 (k' := 58) rfl [(38, undef), (39, undef), (40, undef), (41, undef), (42, (.bool false)), (43, (.bool false)), (44, undef), (45, undef), (46, undef), (47, undef), (48, (.bool false)), (49, (.bool false)), (50, undef), (51, undef), (52, (.bool false)), (53, (.bool false)), (54, undef), (55, undef), (56, (.bool false)), (57, (.bool false)), (58, undef), (59, (.bool false)), (60, (.bool false)), (61, undef), (62, undef), (63, (.bool false)), (64, (.bool false)), (65, undef), (66, undef), (67, (.bool false)), (68, (.bool false)), (69, undef), (70, (.bool false)), (71, (.bool false)), (72, undef), (73, undef), (74, undef), (75, (.bool false)), (76, (.bool false)), (77, undef), (78, undef), (79, (.bool false)), (80, (.bool false)), (81, undef), (82, (.bool false)), (83, (.bool false)), (84, undef), (85, undef), (86, (.bool false)), (87, (.bool false)), (88, undef), (89, undef), (90, (.bool false)), (0, (.bool false))] (by kernel_rfl) ?_
   refine In.fin (by kernel_rfl) ?_
   exact ⟨false, ⟨(by kernel_rfl), trivial⟩, SP.sel hs43 [] rfl rfl, H⟩
 ·rintro ρ w90 ⟨v89, hk, hs91, H⟩
  unfold L_subwaylaw01_head_k1 at H
  refine At.known [(0, (.bool v89))] hk ?_
  refine At.ret (by kernel_rfl) ?_
  refine ⟨(.bool v89), by kernel_rfl, ?_⟩
  obtain rfl := some_elim H
  exact ⟨rfl, SP.sel hs91 [] rfl rfl⟩
end Go.Proofs.YtjpchjbbfbmjgaaDoor
