/- LIFTED BY PROGRAM (tools/lift.py): what functions compute, and that they do. -/
import Derived.Test.YthnakiihenbcjaaDoorNumHand
namespace Go.Proofs.YthnakiihenbcjaaDoor
set_option linter.unusedSimpArgs false
set_option linter.unusedVariables false
open Go.RowKit

/-! L_num_Decimal -/
def L_num_Decimal_k1 (p1 : Int) (v3 : Bool) : Option ((List UInt8)) :=
  (cond v3 (some (([] : List UInt8))) ((L_strconv_FormatInt p1 10).bind fun z7 => (some (z7))))
def L_num_Decimal (p1 : Int) : Option ((List UInt8)) :=
  (cond (decide (p1 < 0)) (L_num_Decimal_k1 p1 true) (L_num_Decimal_k1 p1 (decide (p1 > 1099511627776))))
set_option maxRecDepth 100000 in
set_option maxHeartbeats 4000000 in
theorem L_num_Decimal_walk  (p1 : Int) (w0 : World) (hL : LaidW w0)  (r : ((List UInt8))) (H : L_num_Decimal p1 = some r) :
  Calls Tryd.prog 32 #[(.int .i64 p1)] w0 (fun e w' => e = .returned (.string ⟨List.toArray r⟩) ∧ SP [] w0 w' []) := by
 unfold L_num_Decimal at H
 refine calls_start (n := 11) Tryd.func32 (by kernel_rfl) (by kernel_rfl) (by kernel_rfl) ?_
 have hs0 := SP.start [] w0
 refine At.seq (by kernel_rfl) (p0 := [false]) (p1 := [true]) rfl rfl ?_
 refine At.region (by kernel_rfl) (by kernel_rfl) ?_
 refine In.run' 1 (k' := 1) rfl [(2, (.string ⟨List.toArray ([] : List UInt8)⟩))] (by kernel_rfl) ?_
 refine In.fin (by kernel_rfl) ?_
 refine At.seq (by kernel_rfl) (p0 := [true, false]) (p1 := [true, true]) rfl rfl ?_
 refine At.seq (by kernel_rfl) (p0 := [true, false, false]) (p1 := [true, false, true]) rfl rfl ?_
 refine At.join (fun ρ w => ∃ (v3 : Bool), Known ρ [(0, (.int .i64 p1)), (8, (.bool v3))] ∧ SP [] w0 w [] ∧ L_num_Decimal_k1 p1 v3 = some r) ?_ ?_
 ·refine At.region (by kernel_rfl) (by kernel_rfl) ?_
  refine In.run' 3 (k' := 3) rfl [(3, (.int .i64 p1)), (4, (.bool (decide (p1 < 0)))), (5, (.bool (decide (p1 < 0))))] (by kernel_rfl) ?_
  refine In.guard (t := 5) (b := (decide (p1 < 0))) (by kernel_rfl) (fun hb13 => ?_) (fun hb13 => ?_)
  ·have H := ct H hb13
   refine In.run' 3 (k' := 6) rfl [(6, undef), (7, undef), (8, (.bool true))] (by kernel_rfl) ?_
   refine In.fin (by kernel_rfl) ?_
   exact ⟨true, ⟨(by kernel_rfl), (by kernel_rfl), trivial⟩, SP.sel hs0 [] rfl rfl, H⟩
  ·have H := cf H hb13
   refine In.run' 3 (k' := 6) rfl [(6, (.int .i64 p1)), (7, (.bool (decide (p1 > 1099511627776)))), (8, (.bool (decide (p1 > 1099511627776))))] (by kernel_rfl) ?_
   refine In.fin (by kernel_rfl) ?_
   exact ⟨(decide (p1 > 1099511627776)), ⟨(by kernel_rfl), (by kernel_rfl), trivial⟩, SP.sel hs0 [] rfl rfl, H⟩
 ·rintro ρ w4 ⟨v3, hk, hs5, H⟩
  unfold L_num_Decimal_k1 at H
  refine At.known [(0, (.int .i64 p1)), (8, (.bool v3))] hk ?_
  refine At.cond (by kernel_rfl) (o := (.tmp 8)) (by kernel_rfl) (b := v3) (by kernel_rfl) (p0 := [true, false, true, false]) (p1 := [true, false, true, true]) rfl rfl (fun hb6 => ?_) (fun hb6 => ?_)
  ·have H := ct H hb6
   refine At.seq (by kernel_rfl) (p0 := [true, false, true, false, false]) (p1 := [true, false, true, false, true]) rfl rfl ?_
   refine At.region (by kernel_rfl) (by kernel_rfl) ?_
   refine In.run' 1 (k' := 1) rfl [(2, (.string ⟨List.toArray ([] : List UInt8)⟩))] (by kernel_rfl) ?_
   refine In.fin (by kernel_rfl) ?_
   refine At.ret (by kernel_rfl) ?_
   refine ⟨(.string ⟨List.toArray ([] : List UInt8)⟩), by kernel_rfl, ?_⟩
   obtain rfl := some_elim H
   exact ⟨rfl, SP.sel hs5 [] rfl rfl⟩
  ·have H := cf H hb6
   refine At.skip (by kernel_rfl) ?_
   refine At.seq (by kernel_rfl) (p0 := [true, true, false]) (p1 := [true, true, true]) rfl rfl ?_
   refine At.region (by kernel_rfl) (by kernel_rfl) ?_
   refine In.run' 1 (k' := 1) rfl [(9, (.int .i64 p1))] (by kernel_rfl) ?_
   obtain ⟨z7, hz8, H⟩ := bind_elim H
   refine In.step (k' := 2) rfl (by kernel_rfl) ?_
   refine Step.callF (f := 46) (fo := (.func 46)) (xs := #[(.tmp 9), (.const (.int .i64 (10)))]) (tys := #[2, 3]) (first := #[]) (captured := #[]) (d := (some 10)) (k := 1) (by kernel_rfl) rfl (by kernel_rfl) (by kernel_rfl) Tryd.call46 (L_strconv_FormatInt_walk  p1 10 w4 (laid_below hL (SP.keeps hs5)) z7 hz8) ?_
   rintro e w9 ⟨rfl, hs10⟩
   refine ⟨_, rfl, ?_⟩
   have hs11 := SP.call hs5 hs10
   clear hs10
   have hs12 : SP [] w0 w9 [] := hs11
   clear hs11
   refine In.run' 1 (k' := 3) rfl [(2, (.string ⟨List.toArray z7⟩))] (by kernel_rfl) ?_
   refine In.fin (by kernel_rfl) ?_
   refine At.ret (by kernel_rfl) ?_
   refine ⟨(.string ⟨List.toArray z7⟩), by kernel_rfl, ?_⟩
   obtain rfl := some_elim H
   exact ⟨rfl, SP.sel hs12 [] rfl rfl⟩
/-! L_num_Parse -/
def L_num_Parse_k4 (rec3 : Int → Int → Option (Int × Bool)) (v37 : Int) (v38 : Int) (x65 : UInt8) (v76 : Bool) : Option (Int × Bool) :=
  (cond v76 (some (0, false)) (rec3 (IntKind.wrap .i64 ((IntKind.wrap .i64 (10 * v37)) + (IntKind.wrap .i64 (IntKind.wrap .u8 (((x65).toNat : Int) - 48))))) (IntKind.wrap .i64 (v38 + 1))))
def L_num_Parse_b2 (rec3 : Int → Int → Option (Int × Bool)) (p1 : (List UInt8)) (v37 : Int) (v38 : Int) : Option (Int × Bool) :=
  (cond (decide (v38 < ((List.length p1 : Nat) : Int))) ((idx p1 v38).bind fun x65 => (cond (decide (((x65).toNat : Int) < 48)) (L_num_Parse_k4 rec3 v37 v38 x65 true) (cond (decide (((x65).toNat : Int) > 57)) (L_num_Parse_k4 rec3 v37 v38 x65 true) (L_num_Parse_k4 rec3 v37 v38 x65 (decide (v37 > 1099511627776)))))) ((L_num_Decimal v37).bind fun z82 => (cond (!(z82 == p1)) (some (0, false)) (some (v37, true)))))
def L_num_Parse_l2 (p1 : (List UInt8)) : Nat → Int → Int → Option (Int × Bool)
  | 0, _, _ => none
  | f + 1, v37, v38 => L_num_Parse_b2  (L_num_Parse_l2 p1 f) p1 v37 v38
def L_num_Parse (p1 : (List UInt8)) : Option (Int × Bool) :=
  ((chk (Nat.ble (List.length p1) 2147483648)).bind fun _ => (L_num_Parse_l2 p1 fuel 0 0))
set_option maxRecDepth 100000 in
set_option maxHeartbeats 4000000 in
theorem L_num_Parse_walk  (p1 : (List UInt8)) (w0 : World) (hL : LaidW w0)  (r : (Int × Bool)) (H : L_num_Parse p1 = some r) :
  Calls Tryd.prog 25 #[(.string ⟨List.toArray p1⟩)] w0 (fun e w' => e = .returned (.tuple #[(.int .i64 r.1), (.bool r.2)]) ∧ SP [] w0 w' []) := by
 unfold L_num_Parse at H
 refine calls_start (n := 36) Tryd.func25 (by kernel_rfl) (by kernel_rfl) (by kernel_rfl) ?_
 have hs0 := SP.start [] w0
 refine At.seq (by kernel_rfl) (p0 := [false]) (p1 := [true]) rfl rfl ?_
 refine At.region (by kernel_rfl) (by kernel_rfl) ?_
 refine In.run' 2 (k' := 2) rfl [(2, (.int .i64 0)), (3, (.bool false))] (by kernel_rfl) ?_
 refine In.fin (by kernel_rfl) ?_
 refine At.seq (by kernel_rfl) (p0 := [true, false]) (p1 := [true, true]) rfl rfl ?_
 refine At.region (by kernel_rfl) (by kernel_rfl) ?_
 refine In.run' 1 (k' := 1) rfl [(4, (.int .i64 0))] (by kernel_rfl) ?_
 refine In.fin (by kernel_rfl) ?_
 refine At.seq (by kernel_rfl) (p0 := [true, true, false]) (p1 := [true, true, true]) rfl rfl ?_
 refine At.seq (by kernel_rfl) (p0 := [true, true, false, false]) (p1 := [true, true, false, true]) rfl rfl ?_
 refine At.region (by kernel_rfl) (by kernel_rfl) ?_
 refine In.run' 1 (k' := 1) rfl [(7, (.string ⟨List.toArray p1⟩))] (by kernel_rfl) ?_
 obtain ⟨hb2, H⟩ := chk_elim H
 refine In.step (k' := 2) rfl (by kernel_rfl) ?_
 refine Step.toBytes (S' := 9) (T := 39) (E := 5) (x := (.tmp 7)) (l := p1) (d := (some 8)) (k := 1) (by kernel_rfl) rfl (by kernel_rfl) (by kernel_rfl) (by kernel_rfl) (by kernel_rfl) (max_of_chk hb2) hs0 ?_
 intro g3 c4 w5 hs6 _
 have hs7 : SP [] w0 w5 [rdE eU8 (some ⟨g3, 0, none⟩) c4 p1] := hs6
 clear hs6
 refine In.run' 2 (k' := 4) rfl [(9, (.int .i64 ((List.length p1 : Nat) : Int))), (10, (.int .i64 0))] (by kernel_rfl) ?_
 refine In.fin (by kernel_rfl) ?_
 refine At.block (by kernel_rfl) (id := 0) (by kernel_rfl) (p0 := [true, true, false, true, false]) rfl ?_
 refine At.loop (by kernel_rfl) (p0 := [true, true, false, true, false, false]) rfl (fun f3 ρ w => ∃ (v37 : Int) (v38 : Int), Known ρ [(0, (.string ⟨List.toArray p1⟩)), (4, (.int .i64 v37)), (8, (.slice (some ⟨g3, 0, none⟩) (List.length p1) c4)), (9, (.int .i64 ((List.length p1 : Nat) : Int))), (10, (.int .i64 v38))] ∧ SP [] w0 w [rdE eU8 (some ⟨g3, 0, none⟩) c4 p1] ∧ L_num_Parse_l2 p1 f3 v37 v38 = some r) (by rintro ρ w ⟨v37, v38, hk, hs, H⟩; cases H) ?_ fuel ?_
 ·rintro f3 ρ w35 ⟨v37, v38, hk, hs36, H⟩
  refine At.known [(0, (.string ⟨List.toArray p1⟩)), (4, (.int .i64 v37)), (8, (.slice (some ⟨g3, 0, none⟩) (List.length p1) c4)), (9, (.int .i64 ((List.length p1 : Nat) : Int))), (10, (.int .i64 v38))] hk ?_
  replace H := (show L_num_Parse_b2 (L_num_Parse_l2 p1 f3) p1 v37 v38 = some r from H)
  unfold L_num_Parse_b2 at H
  refine At.seq (by kernel_rfl) (p0 := [true, true, false, true, false, false, false]) (p1 := [true, true, false, true, false, false, true]) rfl rfl ?_
  refine At.region (by kernel_rfl) (by kernel_rfl) ?_
  refine In.run' 1 (k' := 1) rfl [(11, (.bool (decide (v38 < ((List.length p1 : Nat) : Int)))))] (by kernel_rfl) ?_
  refine In.fin (by kernel_rfl) ?_
  refine At.seq (by kernel_rfl) (p0 := [true, true, false, true, false, false, true, false]) (p1 := [true, true, false, true, false, false, true, true]) rfl rfl ?_
  refine At.cond (by kernel_rfl) (o := (.tmp 11)) (by kernel_rfl) (b := (decide (v38 < ((List.length p1 : Nat) : Int)))) (by kernel_rfl) (p0 := [true, true, false, true, false, false, true, false, false]) (p1 := [true, true, false, true, false, false, true, false, true]) rfl rfl (fun hb64 => ?_) (fun hb64 => ?_)
  ·have H := ct H hb64
   refine At.skip (by kernel_rfl) ?_
   refine At.seq (by kernel_rfl) (p0 := [true, true, false, true, false, false, true, true, false]) (p1 := [true, true, false, true, false, false, true, true, true]) rfl rfl ?_
   refine At.block (by kernel_rfl) (id := 1) (by kernel_rfl) (p0 := [true, true, false, true, false, false, true, true, false, false]) rfl ?_
   refine At.seq (by kernel_rfl) (p0 := [true, true, false, true, false, false, true, true, false, false, false]) (p1 := [true, true, false, true, false, false, true, true, false, false, true]) rfl rfl ?_
   refine At.region (by kernel_rfl) (by kernel_rfl) ?_
   obtain ⟨x65, hp66, hq67, hx68, H⟩ := idx_elim H
   refine In.step (k' := 1) rfl (by kernel_rfl) ?_
   refine Step.elem (e := eU8) (l := p1) (A := (some ⟨g3, 0, none⟩)) (c := c4) (T := 39) (E := 5) (x := (.tmp 8)) (ix := (.tmp 10)) (ki := .i64) (iz := v38) (d := (some 12)) (k := 0) (by kernel_rfl) rfl (by kernel_rfl) (by kernel_rfl) (by kernel_rfl) (by kernel_rfl) (rdE_rd (SP.get hs36 (i := 0) rfl)) hp66 hq67 ?_
   intro b69 o70 hA72 hb73 hc71
   refine In.step (k' := 2) rfl (by kernel_rfl) ?_
   refine Step.cell (t := 5) (x := (.tmp 12)) (b := b69) (off := (o70 + Int.toNat v38 * eU8.sz)) (v := (.int .u8 ((x65).toNat : Int))) (d := (some 13)) (k := 1) (by kernel_rfl) rfl (by kernel_rfl) (by kernel_rfl) (elem_cell (e := eU8) (rdt_cells (rdE_rd (SP.get hs36 (i := 0) rfl)) hA72 hp66 hq67) hx68 (j := 0) rfl) ?_
   refine In.run' 1 (k' := 3) rfl [(6, (.int .u8 ((x65).toNat : Int)))] (by kernel_rfl) ?_
   refine In.fin (by kernel_rfl) ?_
   refine At.seq (by kernel_rfl) (p0 := [true, true, false, true, false, false, true, true, false, false, true, false]) (p1 := [true, true, false, true, false, false, true, true, false, false, true, true]) rfl rfl ?_
   refine At.seq (by kernel_rfl) (p0 := [true, true, false, true, false, false, true, true, false, false, true, false, false]) (p1 := [true, true, false, true, false, false, true, true, false, false, true, false, true]) rfl rfl ?_
   refine At.join (fun ρ w => ∃ (v76 : Bool), Known ρ [(0, (.string ⟨List.toArray p1⟩)), (4, (.int .i64 v37)), (6, (.int .u8 ((x65).toNat : Int))), (8, (.slice (some ⟨g3, 0, none⟩) (List.length p1) c4)), (9, (.int .i64 ((List.length p1 : Nat) : Int))), (10, (.int .i64 v38)), (23, (.bool v76))] ∧ SP [] w0 w [rdE eU8 (some ⟨g3, 0, none⟩) c4 p1] ∧ L_num_Parse_k4 (L_num_Parse_l2 p1 f3) v37 v38 x65 v76 = some r) ?_ ?_
   ·refine At.region (by kernel_rfl) (by kernel_rfl) ?_
    refine In.run' 3 (k' := 3) rfl [(14, (.int .u8 ((x65).toNat : Int))), (15, (.bool (decide (((x65).toNat : Int) < 48)))), (16, (.bool (decide (((x65).toNat : Int) < 48))))] (by kernel_rfl) ?_
    refine In.guard (t := 16) (b := (decide (((x65).toNat : Int) < 48))) (by kernel_rfl) (fun hb80 => ?_) (fun hb80 => ?_)
    ·have H := ct H hb80
     refine In.run' 7 (k' := 10) rfl [(17, undef), (18, undef), (19, (.bool true)), (20, (.bool true)), (21, undef), (22, undef), (23, (.bool true))] (by kernel_rfl) ?_
     refine In.fin (by kernel_rfl) ?_
     exact ⟨true, ⟨(by kernel_rfl), (by kernel_rfl), (by kernel_rfl), (by kernel_rfl), (by kernel_rfl), (by kernel_rfl), (by kernel_rfl), trivial⟩, SP.sel hs36 [0] rfl rfl, H⟩
    ·have H := cf H hb80
     refine In.run' 4 (k' := 7) rfl [(17, (.int .u8 ((x65).toNat : Int))), (18, (.bool (decide (((x65).toNat : Int) > 57)))), (19, (.bool (decide (((x65).toNat : Int) > 57)))), (20, (.bool (decide (((x65).toNat : Int) > 57))))] (by kernel_rfl) ?_
     refine In.guard (t := 20) (b := (decide (((x65).toNat : Int) > 57))) (by kernel_rfl) (fun hb81 => ?_) (fun hb81 => ?_)
     ·have H := ct H hb81
      refine In.run' 3 (k' := 10) rfl [(21, undef), (22, undef), (23, (.bool true))] (by kernel_rfl) ?_
      refine In.fin (by kernel_rfl) ?_
      exact ⟨true, ⟨(by kernel_rfl), (by kernel_rfl), (by kernel_rfl), (by kernel_rfl), (by kernel_rfl), (by kernel_rfl), (by kernel_rfl), trivial⟩, SP.sel hs36 [0] rfl rfl, H⟩
     ·have H := cf H hb81
      refine In.run' 3 (k' := 10) rfl [(21, (.int .i64 v37)), (22, (.bool (decide (v37 > 1099511627776)))), (23, (.bool (decide (v37 > 1099511627776))))] (by kernel_rfl) ?_
      refine In.fin (by kernel_rfl) ?_
      exact ⟨(decide (v37 > 1099511627776)), ⟨(by kernel_rfl), (by kernel_rfl), (by kernel_rfl), (by kernel_rfl), (by kernel_rfl), (by kernel_rfl), (by kernel_rfl), trivial⟩, SP.sel hs36 [0] rfl rfl, H⟩
   ·rintro ρ w77 ⟨v76, hk, hs78, H⟩
    unfold L_num_Parse_k4 at H
    refine At.known [(0, (.string ⟨List.toArray p1⟩)), (4, (.int .i64 v37)), (6, (.int .u8 ((x65).toNat : Int))), (8, (.slice (some ⟨g3, 0, none⟩) (List.length p1) c4)), (9, (.int .i64 ((List.length p1 : Nat) : Int))), (10, (.int .i64 v38)), (23, (.bool v76))] hk ?_
    refine At.cond (by kernel_rfl) (o := (.tmp 23)) (by kernel_rfl) (b := v76) (by kernel_rfl) (p0 := [true, true, false, true, false, false, true, true, false, false, true, false, true, false]) (p1 := [true, true, false, true, false, false, true, true, false, false, true, false, true, true]) rfl rfl (fun hb79 => ?_) (fun hb79 => ?_)
    ·have H := ct H hb79
     refine At.seq (by kernel_rfl) (p0 := [true, true, false, true, false, false, true, true, false, false, true, false, true, false, false]) (p1 := [true, true, false, true, false, false, true, true, false, false, true, false, true, false, true]) rfl rfl ?_
     refine At.region (by kernel_rfl) (by kernel_rfl) ?_
     refine In.run' 2 (k' := 2) rfl [(2, (.int .i64 0)), (3, (.bool false))] (by kernel_rfl) ?_
     refine In.fin (by kernel_rfl) ?_
     refine At.ret (by kernel_rfl) ?_
     refine ⟨(.tuple #[(.int .i64 0), (.bool false)]), by kernel_rfl, ?_⟩
     obtain rfl := some_elim H
     exact ⟨rfl, SP.sel hs78 [] rfl rfl⟩
    ·have H := cf H hb79
     refine At.skip (by kernel_rfl) ?_
     refine At.region (by kernel_rfl) (by kernel_rfl) ?_
     refine In.run' 7 (k' := 7) rfl [(24, (.int .i64 v37)), (25, (.int .i64 (IntKind.wrap .i64 (10 * v37)))), (26, (.int .u8 ((x65).toNat : Int))), (27, (.int .u8 (IntKind.wrap .u8 (((x65).toNat : Int) - 48)))), (28, (.int .i64 (IntKind.wrap .i64 (IntKind.wrap .u8 (((x65).toNat : Int) - 48))))), (29, (.int .i64 (IntKind.wrap .i64 ((IntKind.wrap .i64 (10 * v37)) + (IntKind.wrap .i64 (IntKind.wrap .u8 (((x65).toNat : Int) - 48))))))), (4, (.int .i64 (IntKind.wrap .i64 ((IntKind.wrap .i64 (10 * v37)) + (IntKind.wrap .i64 (IntKind.wrap .u8 (((x65).toNat : Int) - 48)))))))] (by kernel_rfl) ?_
     refine In.fin (by kernel_rfl) ?_
     refine At.region (by kernel_rfl) (by kernel_rfl) ?_
     refine In.run' 2 (k' := 2) rfl [(30, (.int .i64 (IntKind.wrap .i64 (v38 + 1)))), (10, (.int .i64 (IntKind.wrap .i64 (v38 + 1))))] (by kernel_rfl) ?_
     refine In.fin (by kernel_rfl) ?_
     exact ⟨(IntKind.wrap .i64 ((IntKind.wrap .i64 (10 * v37)) + (IntKind.wrap .i64 (IntKind.wrap .u8 (((x65).toNat : Int) - 48))))), (IntKind.wrap .i64 (v38 + 1)), ⟨(by kernel_rfl), (by kernel_rfl), (by kernel_rfl), (by kernel_rfl), (by kernel_rfl), trivial⟩, SP.sel hs78 [0] rfl rfl, H⟩
  ·have H := cf H hb64
   refine At.exit (by kernel_rfl) (id := 0) (by kernel_rfl) ?_
   refine At.seq (by kernel_rfl) (p0 := [true, true, true, false]) (p1 := [true, true, true, true]) rfl rfl ?_
   refine At.seq (by kernel_rfl) (p0 := [true, true, true, false, false]) (p1 := [true, true, true, false, true]) rfl rfl ?_
   refine At.region (by kernel_rfl) (by kernel_rfl) ?_
   refine In.run' 1 (k' := 1) rfl [(31, (.int .i64 v37))] (by kernel_rfl) ?_
   obtain ⟨z82, hz83, H⟩ := bind_elim H
   refine In.step (k' := 2) rfl (by kernel_rfl) ?_
   refine Step.callF (f := 32) (fo := (.func 32)) (xs := #[(.tmp 31)]) (tys := #[2]) (first := #[]) (captured := #[]) (d := (some 32)) (k := 1) (by kernel_rfl) rfl (by kernel_rfl) (by kernel_rfl) Tryd.call32 (L_num_Decimal_walk  v37 w35 (laid_below hL (SP.keeps hs36)) z82 hz83) ?_
   rintro e w84 ⟨rfl, hs85⟩
   refine ⟨_, rfl, ?_⟩
   have hs86 := SP.call hs36 hs85
   clear hs85
   have hs87 : SP [] w0 w84 [rdE eU8 (some ⟨g3, 0, none⟩) c4 p1] := hs86
   clear hs86
   refine In.run' 1 (k' := 3) rfl [(33, (.string ⟨List.toArray p1⟩))] (by kernel_rfl) ?_
   refine In.step (k' := 4) rfl (by kernel_rfl) ?_
   refine Step.strOp (op := .neq) (T := 9) (T' := 9) (x := (.tmp 32)) (y := (.tmp 33)) (a := z82) (b := p1) (r := (.bool (!(z82 == p1)))) (d := (some 34)) (k := 3) (by kernel_rfl) rfl (by kernel_rfl) (by kernel_rfl) rfl ?_
   refine In.fin (by kernel_rfl) ?_
   refine At.cond (by kernel_rfl) (o := (.tmp 34)) (by kernel_rfl) (b := (!(z82 == p1))) (by kernel_rfl) (p0 := [true, true, true, false, true, false]) (p1 := [true, true, true, false, true, true]) rfl rfl (fun hb88 => ?_) (fun hb88 => ?_)
   ·have H := ct H hb88
    refine At.seq (by kernel_rfl) (p0 := [true, true, true, false, true, false, false]) (p1 := [true, true, true, false, true, false, true]) rfl rfl ?_
    refine At.region (by kernel_rfl) (by kernel_rfl) ?_
    refine In.run' 2 (k' := 2) rfl [(2, (.int .i64 0)), (3, (.bool false))] (by kernel_rfl) ?_
    refine In.fin (by kernel_rfl) ?_
    refine At.ret (by kernel_rfl) ?_
    refine ⟨(.tuple #[(.int .i64 0), (.bool false)]), by kernel_rfl, ?_⟩
    obtain rfl := some_elim H
    exact ⟨rfl, SP.sel hs87 [] rfl rfl⟩
   ·have H := cf H hb88
    refine At.skip (by kernel_rfl) ?_
    refine At.seq (by kernel_rfl) (p0 := [true, true, true, true, false]) (p1 := [true, true, true, true, true]) rfl rfl ?_
    refine At.region (by kernel_rfl) (by kernel_rfl) ?_
    refine In.run' 3 (k' := 3) rfl [(35, (.int .i64 v37)), (2, (.int .i64 v37)), (3, (.bool true))] (by kernel_rfl) ?_
    refine In.fin (by kernel_rfl) ?_
    refine At.ret (by kernel_rfl) ?_
    refine ⟨(.tuple #[(.int .i64 v37), (.bool true)]), by kernel_rfl, ?_⟩
    obtain rfl := some_elim H
    exact ⟨rfl, SP.sel hs87 [] rfl rfl⟩
 ·exact ⟨0, 0, ⟨(by kernel_rfl), (by kernel_rfl), (by kernel_rfl), (by kernel_rfl), (by kernel_rfl), trivial⟩, SP.sel hs7 [0] rfl rfl, H⟩
end Go.Proofs.YthnakiihenbcjaaDoor
