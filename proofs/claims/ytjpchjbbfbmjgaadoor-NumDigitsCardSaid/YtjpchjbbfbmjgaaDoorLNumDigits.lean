/- LIFTED BY PROGRAM (tools/lift.py): what functions compute, and that they do. -/
import Derived.Test.YtjpchjbbfbmjgaaDoorLN
namespace Go.Proofs.YtjpchjbbfbmjgaaDoor
set_option linter.unusedSimpArgs false
set_option linter.unusedVariables false
open Go.RowKit

/-! L_subwaylaw01_NumDigits -/
def L_subwaylaw01_NumDigits_k13 (rec9 : Int → Int → Option (Bool)) (rec12 : Int → Option (Bool)) (v366 : Bool) : Option (Bool) :=
  (some (v366))
def L_subwaylaw01_NumDigits_b11 (rec9 : Int → Int → Option (Bool)) (rec12 : Int → Option (Bool)) (z2 : (Bool)) (v134 : Int) (z259 : ((List UInt8))) (v307 : Int) : Option (Bool) :=
  (cond (decide (v307 < ((List.length z259 : Nat) : Int))) ((idx z259 v307).bind fun x345 => (cond (!((decide (((x345).toNat : Int) ≥ 128)) == (decide (v307 < (IntKind.wrap .i64 (((List.length z259 : Nat) : Int) - 1)))))) (some (false)) (rec12 (IntKind.wrap .i64 (v307 + 1))))) (cond z2 (cond (v134 == 1) (L_subwaylaw01_NumDigits_k13 rec9 rec12 true) ((idx z259 0).bind fun x371 => (L_subwaylaw01_NumDigits_k13 rec9 rec12 (((x371).toNat : Int) != 128)))) (L_subwaylaw01_NumDigits_k13 rec9 rec12 false)))
def L_subwaylaw01_NumDigits_l11 (rec9 : Int → Int → Option (Bool)) (z2 : (Bool)) (v134 : Int) (z259 : ((List UInt8))) : Nat → Int → Option (Bool)
  | 0, _ => none
  | f + 1, v307 => L_subwaylaw01_NumDigits_b11 rec9 (L_subwaylaw01_NumDigits_l11 rec9 z2 v134 z259 f) z2 v134 z259 v307
def L_subwaylaw01_NumDigits_b5 (rec9 : Int → Int → Option (Bool)) (p1 : Int) (z2 : (Bool)) (v134 : Int) (v135 : Int) : Option (Bool) :=
  (cond (decide (v135 > 127)) (rec9 (IntKind.wrap .i64 (v134 + 1)) (IntKind.wrap .i64 (Int.tdiv v135 128))) ((L_num_Put (IntKind.wrap .i64 (Int.tmod p1 1099511627777))).bind fun z259 => (cond (((List.length z259 : Nat) : Int) != v134) (some (false)) (L_subwaylaw01_NumDigits_l11 rec9 z2 v134 z259 fuel 0))))
def L_subwaylaw01_NumDigits_l5 (p1 : Int) (z2 : (Bool)) : Nat → Int → Int → Option (Bool)
  | 0, _, _ => none
  | f + 1, v134, v135 => L_subwaylaw01_NumDigits_b5  (L_subwaylaw01_NumDigits_l5 p1 z2 f) p1 z2 v134 v135
def L_subwaylaw01_NumDigits (p1 : Int) : Option (Bool) :=
  ((L_subwaylaw01_head ).bind fun z2 => (L_subwaylaw01_NumDigits_l5 p1 z2 fuel 1 (IntKind.wrap .i64 (Int.tmod p1 1099511627777))))
set_option maxRecDepth 100000 in
set_option maxHeartbeats 4000000 in
theorem L_subwaylaw01_NumDigits_walk  (p1 : Int) (w0 : World) (hL : LaidW w0)  (r : (Bool)) (H : L_subwaylaw01_NumDigits p1 = some r) :
  Calls Tryd.prog 8 #[(.int .u64 p1)] w0 (fun e w' => e = .returned (.bool r) ∧ SP [] w0 w' []) := by
 unfold L_subwaylaw01_NumDigits at H
 refine calls_start (n := 54) Tryd.func8 (by kernel_rfl) (by kernel_rfl) (by kernel_rfl) ?_
 have hs0 := SP.start [] w0
 refine At.seq (by kernel_rfl) (p0 := [false]) (p1 := [true]) rfl rfl ?_
 refine At.region (by kernel_rfl) (by kernel_rfl) ?_
 refine In.run' 1 (k' := 1) rfl [(2, (.bool false))] (by kernel_rfl) ?_
 refine In.fin (by kernel_rfl) ?_
 refine At.seq (by kernel_rfl) (p0 := [true, false]) (p1 := [true, true]) rfl rfl ?_
 refine At.region (by kernel_rfl) (by kernel_rfl) ?_
 obtain ⟨z2, hz3, H⟩ := bind_elim H
 refine In.step (k' := 1) rfl (by kernel_rfl) ?_
 refine Step.callF (f := 9) (fo := (.func 9)) (xs := #[]) (tys := #[]) (first := #[]) (captured := #[]) (d := (some 9)) (k := 0) (by kernel_rfl) rfl (by kernel_rfl) (by kernel_rfl) Tryd.call9 (L_subwaylaw01_head_walk   w0 (laid_below hL (SP.keeps hs0)) z2 hz3) ?_
 rintro e w4 ⟨rfl, hs5⟩
 refine ⟨_, rfl, ?_⟩
 have hs6 := SP.call hs0 hs5
 clear hs5
 have hs7 : SP [] w0 w4 [] := hs6
 clear hs6
 refine In.run' 1 (k' := 2) rfl [(3, (.bool z2))] (by kernel_rfl) ?_
 refine In.fin (by kernel_rfl) ?_
 refine At.seq (by kernel_rfl) (p0 := [true, true, false]) (p1 := [true, true, true]) rfl rfl ?_
 refine At.region (by kernel_rfl) (by kernel_rfl) ?_
 refine In.run' 4 (k' := 4) rfl [(10, (.int .u64 p1)), (11, (.int .u64 (Int.tmod p1 1099511627777))), (12, (.int .i64 (IntKind.wrap .i64 (Int.tmod p1 1099511627777)))), (4, (.int .i64 (IntKind.wrap .i64 (Int.tmod p1 1099511627777))))] (by kernel_rfl) ?_
 refine In.fin (by kernel_rfl) ?_
 refine At.seq (by kernel_rfl) (p0 := [true, true, true, false]) (p1 := [true, true, true, true]) rfl rfl ?_
 refine At.region (by kernel_rfl) (by kernel_rfl) ?_
 refine In.run' 1 (k' := 1) rfl [(5, (.int .i64 1))] (by kernel_rfl) ?_
 refine In.fin (by kernel_rfl) ?_
 refine At.seq (by kernel_rfl) (p0 := [true, true, true, true, false]) (p1 := [true, true, true, true, true]) rfl rfl ?_
 refine At.seq (by kernel_rfl) (p0 := [true, true, true, true, false, false]) (p1 := [true, true, true, true, false, true]) rfl rfl ?_
 refine At.region (by kernel_rfl) (by kernel_rfl) ?_
 refine In.run' 2 (k' := 2) rfl [(13, (.int .i64 (IntKind.wrap .i64 (Int.tmod p1 1099511627777)))), (6, (.int .i64 (IntKind.wrap .i64 (Int.tmod p1 1099511627777))))] (by kernel_rfl) ?_
 refine In.fin (by kernel_rfl) ?_
 refine At.block (by kernel_rfl) (id := 0) (by kernel_rfl) (p0 := [true, true, true, true, false, true, false]) rfl ?_
 refine At.loop (by kernel_rfl) (p0 := [true, true, true, true, false, true, false, false]) rfl (fun f9 ρ w => ∃ (v134 : Int) (v135 : Int), Known ρ [(3, (.bool z2)), (4, (.int .i64 (IntKind.wrap .i64 (Int.tmod p1 1099511627777)))), (5, (.int .i64 v134)), (6, (.int .i64 v135))] ∧ SP [] w0 w [] ∧ L_subwaylaw01_NumDigits_l5 p1 z2 f9 v134 v135 = some r) (by rintro ρ w ⟨v134, v135, hk, hs, H⟩; cases H) ?_ fuel ?_
 ·rintro f9 ρ w132 ⟨v134, v135, hk, hs133, H⟩
  refine At.known [(3, (.bool z2)), (4, (.int .i64 (IntKind.wrap .i64 (Int.tmod p1 1099511627777)))), (5, (.int .i64 v134)), (6, (.int .i64 v135))] hk ?_
  replace H := (show L_subwaylaw01_NumDigits_b5 (L_subwaylaw01_NumDigits_l5 p1 z2 f9) p1 z2 v134 v135 = some r from H)
  unfold L_subwaylaw01_NumDigits_b5 at H
  refine At.seq (by kernel_rfl) (p0 := [true, true, true, true, false, true, false, false, false]) (p1 := [true, true, true, true, false, true, false, false, true]) rfl rfl ?_
  refine At.seq (by kernel_rfl) (p0 := [true, true, true, true, false, true, false, false, false, false]) (p1 := [true, true, true, true, false, true, false, false, false, true]) rfl rfl ?_
  refine At.region (by kernel_rfl) (by kernel_rfl) ?_
  refine In.run' 2 (k' := 2) rfl [(14, (.int .i64 v135)), (15, (.bool (decide (v135 > 127))))] (by kernel_rfl) ?_
  refine In.fin (by kernel_rfl) ?_
  refine At.cond (by kernel_rfl) (o := (.tmp 15)) (by kernel_rfl) (b := (decide (v135 > 127))) (by kernel_rfl) (p0 := [true, true, true, true, false, true, false, false, false, true, false]) (p1 := [true, true, true, true, false, true, false, false, false, true, true]) rfl rfl (fun hb258 => ?_) (fun hb258 => ?_)
  ·have H := ct H hb258
   refine At.skip (by kernel_rfl) ?_
   refine At.seq (by kernel_rfl) (p0 := [true, true, true, true, false, true, false, false, true, false]) (p1 := [true, true, true, true, false, true, false, false, true, true]) rfl rfl ?_
   refine At.block (by kernel_rfl) (id := 1) (by kernel_rfl) (p0 := [true, true, true, true, false, true, false, false, true, false, false]) rfl ?_
   refine At.region (by kernel_rfl) (by kernel_rfl) ?_
   refine In.run' 3 (k' := 3) rfl [(18, (.int .i64 v134)), (19, (.int .i64 (IntKind.wrap .i64 (v134 + 1)))), (5, (.int .i64 (IntKind.wrap .i64 (v134 + 1))))] (by kernel_rfl) ?_
   refine In.fin (by kernel_rfl) ?_
   refine At.region (by kernel_rfl) (by kernel_rfl) ?_
   refine In.run' 3 (k' := 3) rfl [(16, (.int .i64 v135)), (17, (.int .i64 (IntKind.wrap .i64 (Int.tdiv v135 128)))), (6, (.int .i64 (IntKind.wrap .i64 (Int.tdiv v135 128))))] (by kernel_rfl) ?_
   refine In.fin (by kernel_rfl) ?_
   exact ⟨(IntKind.wrap .i64 (v134 + 1)), (IntKind.wrap .i64 (Int.tdiv v135 128)), ⟨(by kernel_rfl), (by kernel_rfl), (by kernel_rfl), (by kernel_rfl), trivial⟩, SP.sel hs133 [] rfl rfl, H⟩
  ·have H := cf H hb258
   refine At.exit (by kernel_rfl) (id := 0) (by kernel_rfl) ?_
   refine At.seq (by kernel_rfl) (p0 := [true, true, true, true, true, false]) (p1 := [true, true, true, true, true, true]) rfl rfl ?_
   refine At.region (by kernel_rfl) (by kernel_rfl) ?_
   refine In.run' 1 (k' := 1) rfl [(20, (.int .i64 (IntKind.wrap .i64 (Int.tmod p1 1099511627777))))] (by kernel_rfl) ?_
   obtain ⟨z259, hz260, H⟩ := bind_elim H
   refine In.step (k' := 2) rfl (by kernel_rfl) ?_
   refine Step.callF (f := 16) (fo := (.func 16)) (xs := #[(.tmp 20)]) (tys := #[2]) (first := #[]) (captured := #[]) (d := (some 21)) (k := 1) (by kernel_rfl) rfl (by kernel_rfl) (by kernel_rfl) Tryd.call16 (L_num_Put_walk  (IntKind.wrap .i64 (Int.tmod p1 1099511627777)) w132  z259 hz260) ?_
   rintro e w261 ⟨A263, c264, rfl, hs262⟩
   refine ⟨_, rfl, ?_⟩
   have hs265 := SP.call hs133 hs262
   clear hs262
   have hs266 : SP [] w0 w261 [rowT 5 eU8 A263 c264 z259] := hs265
   clear hs265
   refine In.run' 1 (k' := 3) rfl [(7, (.slice A263 (List.length z259) c264))] (by kernel_rfl) ?_
   refine In.fin (by kernel_rfl) ?_
   refine At.seq (by kernel_rfl) (p0 := [true, true, true, true, true, true, false]) (p1 := [true, true, true, true, true, true, true]) rfl rfl ?_
   refine At.seq (by kernel_rfl) (p0 := [true, true, true, true, true, true, false, false]) (p1 := [true, true, true, true, true, true, false, true]) rfl rfl ?_
   refine At.region (by kernel_rfl) (by kernel_rfl) ?_
   refine In.run' 4 (k' := 4) rfl [(22, (.slice A263 (List.length z259) c264)), (23, (.int .i64 ((List.length z259 : Nat) : Int))), (24, (.int .i64 v134)), (25, (.bool (((List.length z259 : Nat) : Int) != v134)))] (by kernel_rfl) ?_
   refine In.fin (by kernel_rfl) ?_
   refine At.cond (by kernel_rfl) (o := (.tmp 25)) (by kernel_rfl) (b := (((List.length z259 : Nat) : Int) != v134)) (by kernel_rfl) (p0 := [true, true, true, true, true, true, false, true, false]) (p1 := [true, true, true, true, true, true, false, true, true]) rfl rfl (fun hb267 => ?_) (fun hb267 => ?_)
   ·have H := ct H hb267
    refine At.seq (by kernel_rfl) (p0 := [true, true, true, true, true, true, false, true, false, false]) (p1 := [true, true, true, true, true, true, false, true, false, true]) rfl rfl ?_
    refine At.region (by kernel_rfl) (by kernel_rfl) ?_
    refine In.run' 1 (k' := 1) rfl [(2, (.bool false))] (by kernel_rfl) ?_
    refine In.fin (by kernel_rfl) ?_
    refine At.ret (by kernel_rfl) ?_
    refine ⟨(.bool false), by kernel_rfl, ?_⟩
    obtain rfl := some_elim H
    exact ⟨rfl, SP.sel hs266 [] rfl rfl⟩
   ·have H := cf H hb267
    refine At.skip (by kernel_rfl) ?_
    refine At.seq (by kernel_rfl) (p0 := [true, true, true, true, true, true, true, false]) (p1 := [true, true, true, true, true, true, true, true]) rfl rfl ?_
    refine At.seq (by kernel_rfl) (p0 := [true, true, true, true, true, true, true, false, false]) (p1 := [true, true, true, true, true, true, true, false, true]) rfl rfl ?_
    refine At.region (by kernel_rfl) (by kernel_rfl) ?_
    refine In.run' 1 (k' := 1) rfl [(8, (.int .i64 0))] (by kernel_rfl) ?_
    refine In.fin (by kernel_rfl) ?_
    refine At.block (by kernel_rfl) (id := 2) (by kernel_rfl) (p0 := [true, true, true, true, true, true, true, false, true, false]) rfl ?_
    refine At.loop (by kernel_rfl) (p0 := [true, true, true, true, true, true, true, false, true, false, false]) rfl (fun f12 ρ w => ∃ (v307 : Int), Known ρ [(3, (.bool z2)), (5, (.int .i64 v134)), (7, (.slice A263 (List.length z259) c264)), (8, (.int .i64 v307))] ∧ SP [] w0 w [rowT 5 eU8 A263 c264 z259] ∧ L_subwaylaw01_NumDigits_l11 (L_subwaylaw01_NumDigits_l5 p1 z2 f9) z2 v134 z259 f12 v307 = some r) (by rintro ρ w ⟨v307, hk, hs, H⟩; cases H) ?_ fuel ?_
    ·rintro f12 ρ w305 ⟨v307, hk, hs306, H⟩
     refine At.known [(3, (.bool z2)), (5, (.int .i64 v134)), (7, (.slice A263 (List.length z259) c264)), (8, (.int .i64 v307))] hk ?_
     replace H := (show L_subwaylaw01_NumDigits_b11 (L_subwaylaw01_NumDigits_l5 p1 z2 f9) (L_subwaylaw01_NumDigits_l11 (L_subwaylaw01_NumDigits_l5 p1 z2 f9) z2 v134 z259 f12) z2 v134 z259 v307 = some r from H)
     unfold L_subwaylaw01_NumDigits_b11 at H
     refine At.seq (by kernel_rfl) (p0 := [true, true, true, true, true, true, true, false, true, false, false, false]) (p1 := [true, true, true, true, true, true, true, false, true, false, false, true]) rfl rfl ?_
     refine At.seq (by kernel_rfl) (p0 := [true, true, true, true, true, true, true, false, true, false, false, false, false]) (p1 := [true, true, true, true, true, true, true, false, true, false, false, false, true]) rfl rfl ?_
     refine At.region (by kernel_rfl) (by kernel_rfl) ?_
     refine In.run' 4 (k' := 4) rfl [(26, (.int .i64 v307)), (27, (.slice A263 (List.length z259) c264)), (28, (.int .i64 ((List.length z259 : Nat) : Int))), (29, (.bool (decide (v307 < ((List.length z259 : Nat) : Int)))))] (by kernel_rfl) ?_
     refine In.fin (by kernel_rfl) ?_
     refine At.cond (by kernel_rfl) (o := (.tmp 29)) (by kernel_rfl) (b := (decide (v307 < ((List.length z259 : Nat) : Int)))) (by kernel_rfl) (p0 := [true, true, true, true, true, true, true, false, true, false, false, false, true, false]) (p1 := [true, true, true, true, true, true, true, false, true, false, false, false, true, true]) rfl rfl (fun hb344 => ?_) (fun hb344 => ?_)
     ·have H := ct H hb344
      refine At.skip (by kernel_rfl) ?_
      refine At.seq (by kernel_rfl) (p0 := [true, true, true, true, true, true, true, false, true, false, false, true, false]) (p1 := [true, true, true, true, true, true, true, false, true, false, false, true, true]) rfl rfl ?_
      refine At.block (by kernel_rfl) (id := 3) (by kernel_rfl) (p0 := [true, true, true, true, true, true, true, false, true, false, false, true, false, false]) rfl ?_
      refine At.seq (by kernel_rfl) (p0 := [true, true, true, true, true, true, true, false, true, false, false, true, false, false, false]) (p1 := [true, true, true, true, true, true, true, false, true, false, false, true, false, false, true]) rfl rfl ?_
      refine At.region (by kernel_rfl) (by kernel_rfl) ?_
      refine In.run' 2 (k' := 2) rfl [(32, (.slice A263 (List.length z259) c264)), (33, (.int .i64 v307))] (by kernel_rfl) ?_
      obtain ⟨x345, hp346, hq347, hx348, H⟩ := idx_elim H
      refine In.step (k' := 3) rfl (by kernel_rfl) ?_
      refine Step.elem (e := eU8) (l := z259) (A := A263) (c := c264) (T := 22) (E := 5) (x := (.tmp 32)) (ix := (.tmp 33)) (ki := .i64) (iz := v307) (d := (some 34)) (k := 2) (by kernel_rfl) rfl (by kernel_rfl) (by kernel_rfl) (by kernel_rfl) (by kernel_rfl) (rowT_rd (SP.get hs306 (i := 0) rfl)) hp346 hq347 ?_
      intro b349 o350 hA352 hb353 hc351
      refine In.step (k' := 4) rfl (by kernel_rfl) ?_
      refine Step.cell (t := 5) (x := (.tmp 34)) (b := b349) (off := (o350 + Int.toNat v307 * eU8.sz)) (v := (.int .u8 ((x345).toNat : Int))) (d := (some 35)) (k := 3) (by kernel_rfl) rfl (by kernel_rfl) (by kernel_rfl) (elem_cell (e := eU8) hc351 hx348 (j := 0) rfl) ?_
      refine In.run' 7 (k' := 11) rfl [(36, (.bool (decide (((x345).toNat : Int) ≥ 128)))), (37, (.int .i64 v307)), (38, (.slice A263 (List.length z259) c264)), (39, (.int .i64 ((List.length z259 : Nat) : Int))), (40, (.int .i64 (IntKind.wrap .i64 (((List.length z259 : Nat) : Int) - 1)))), (41, (.bool (decide (v307 < (IntKind.wrap .i64 (((List.length z259 : Nat) : Int) - 1)))))), (42, (.bool (!((decide (((x345).toNat : Int) ≥ 128)) == (decide (v307 < (IntKind.wrap .i64 (((List.length z259 : Nat) : Int) - 1))))))))] (by kernel_rfl) ?_
      refine In.fin (by kernel_rfl) ?_
      refine At.cond (by kernel_rfl) (o := (.tmp 42)) (by kernel_rfl) (b := (!((decide (((x345).toNat : Int) ≥ 128)) == (decide (v307 < (IntKind.wrap .i64 (((List.length z259 : Nat) : Int) - 1))))))) (by kernel_rfl) (p0 := [true, true, true, true, true, true, true, false, true, false, false, true, false, false, true, false]) (p1 := [true, true, true, true, true, true, true, false, true, false, false, true, false, false, true, true]) rfl rfl (fun hb354 => ?_) (fun hb354 => ?_)
      ·have H := ct H hb354
       refine At.seq (by kernel_rfl) (p0 := [true, true, true, true, true, true, true, false, true, false, false, true, false, false, true, false, false]) (p1 := [true, true, true, true, true, true, true, false, true, false, false, true, false, false, true, false, true]) rfl rfl ?_
       refine At.region (by kernel_rfl) (by kernel_rfl) ?_
       refine In.run' 1 (k' := 1) rfl [(2, (.bool false))] (by kernel_rfl) ?_
       refine In.fin (by kernel_rfl) ?_
       refine At.ret (by kernel_rfl) ?_
       refine ⟨(.bool false), by kernel_rfl, ?_⟩
       obtain rfl := some_elim H
       exact ⟨rfl, SP.sel hs306 [] rfl rfl⟩
      ·have H := cf H hb354
       refine At.skip (by kernel_rfl) ?_
       refine At.region (by kernel_rfl) (by kernel_rfl) ?_
       refine In.run' 3 (k' := 3) rfl [(30, (.int .i64 v307)), (31, (.int .i64 (IntKind.wrap .i64 (v307 + 1)))), (8, (.int .i64 (IntKind.wrap .i64 (v307 + 1))))] (by kernel_rfl) ?_
       refine In.fin (by kernel_rfl) ?_
       exact ⟨(IntKind.wrap .i64 (v307 + 1)), ⟨(by kernel_rfl), (by kernel_rfl), (by kernel_rfl), (by kernel_rfl), trivial⟩, SP.sel hs306 [0] rfl rfl, H⟩
     ·have H := cf H hb344
      refine At.exit (by kernel_rfl) (id := 2) (by kernel_rfl) ?_
      refine At.seq (by kernel_rfl) (p0 := [true, true, true, true, true, true, true, true, false]) (p1 := [true, true, true, true, true, true, true, true, true]) rfl rfl ?_
      refine At.join (fun ρ w => ∃ (v366 : Bool), Known ρ [(2, (.bool v366))] ∧ SP [] w0 w [] ∧ L_subwaylaw01_NumDigits_k13 (L_subwaylaw01_NumDigits_l5 p1 z2 f9) (L_subwaylaw01_NumDigits_l11 (L_subwaylaw01_NumDigits_l5 p1 z2 f9) z2 v134 z259 f12) v366 = some r) ?_ ?_
      ·refine At.region (by kernel_rfl) (by kernel_rfl) ?_
       refine In.run' 2 (k' := 2) rfl [(43, (.bool z2)), (44, (.bool z2))] (by kernel_rfl) ?_
       refine In.guard (t := 44) (b := z2) (by kernel_rfl) (fun hb369 => ?_) (fun hb369 => ?_)
       ·have H := ct H hb369
        refine In.run' 3 (k' := 5) rfl [(45, (.int .i64 v134)), (46, (.bool (v134 == 1))), (47, (.bool (v134 == 1)))] (by kernel_rfl) ?_
        refine In.guard (t := 47) (b := (v134 == 1)) (by kernel_rfl) (fun hb370 => ?_) (fun hb370 => ?_)
        ·have H := ct H hb370
         refine In.run' 7 (k' := 12) rfl [(48, undef), (49, undef), (50, undef), (51, undef), (52, (.bool true)), (53, (.bool true)), (2, (.bool true))] (by kernel_rfl) ?_
         refine In.fin (by kernel_rfl) ?_
         exact ⟨true, ⟨(by kernel_rfl), trivial⟩, SP.sel hs306 [] rfl rfl, H⟩
        ·have H := cf H hb370
         refine In.run' 1 (k' := 6) rfl [(48, (.slice A263 (List.length z259) c264))] (by kernel_rfl) ?_
         obtain ⟨x371, hp372, hq373, hx374, H⟩ := idx_elim H
         refine In.step (k' := 7) rfl (by kernel_rfl) ?_
         refine Step.elem (e := eU8) (l := z259) (A := A263) (c := c264) (T := 22) (E := 5) (x := (.tmp 48)) (ix := (.const (.int .i64 (0)))) (ki := .i64) (iz := 0) (d := (some 49)) (k := 6) (by kernel_rfl) rfl (by kernel_rfl) (by kernel_rfl) (by kernel_rfl) (by kernel_rfl) (rowT_rd (SP.get hs306 (i := 0) rfl)) hp372 hq373 ?_
         intro b375 o376 hA378 hb379 hc377
         refine In.step (k' := 8) rfl (by kernel_rfl) ?_
         refine Step.cell (t := 5) (x := (.tmp 49)) (b := b375) (off := (o376 + Int.toNat 0 * eU8.sz)) (v := (.int .u8 ((x371).toNat : Int))) (d := (some 50)) (k := 7) (by kernel_rfl) rfl (by kernel_rfl) (by kernel_rfl) (elem_cell (e := eU8) hc377 hx374 (j := 0) rfl) ?_
         refine In.run' 4 (k' := 12) rfl [(51, (.bool (((x371).toNat : Int) != 128))), (52, (.bool (((x371).toNat : Int) != 128))), (53, (.bool (((x371).toNat : Int) != 128))), (2, (.bool (((x371).toNat : Int) != 128)))] (by kernel_rfl) ?_
         refine In.fin (by kernel_rfl) ?_
         exact ⟨(((x371).toNat : Int) != 128), ⟨(by kernel_rfl), trivial⟩, SP.sel hs306 [] rfl rfl, H⟩
       ·have H := cf H hb369
        refine In.run' 10 (k' := 12) rfl [(45, undef), (46, undef), (47, undef), (48, undef), (49, undef), (50, undef), (51, undef), (52, undef), (53, (.bool false)), (2, (.bool false))] (by kernel_rfl) ?_
        refine In.fin (by kernel_rfl) ?_
        exact ⟨false, ⟨(by kernel_rfl), trivial⟩, SP.sel hs306 [] rfl rfl, H⟩
      ·rintro ρ w367 ⟨v366, hk, hs368, H⟩
       unfold L_subwaylaw01_NumDigits_k13 at H
       refine At.known [(2, (.bool v366))] hk ?_
       refine At.ret (by kernel_rfl) ?_
       refine ⟨(.bool v366), by kernel_rfl, ?_⟩
       obtain rfl := some_elim H
       exact ⟨rfl, SP.sel hs368 [] rfl rfl⟩
    ·exact ⟨0, ⟨(by kernel_rfl), (by kernel_rfl), (by kernel_rfl), (by kernel_rfl), trivial⟩, SP.sel hs266 [0] rfl rfl, H⟩
 ·exact ⟨1, (IntKind.wrap .i64 (Int.tmod p1 1099511627777)), ⟨(by kernel_rfl), (by kernel_rfl), (by kernel_rfl), (by kernel_rfl), trivial⟩, SP.sel hs7 [] rfl rfl, H⟩
end Go.Proofs.YtjpchjbbfbmjgaaDoor
