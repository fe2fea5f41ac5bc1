/- LIFTED BY PROGRAM (tools/lift.py): what functions compute, and that they do. -/
import Derived.Test.YthnakiihenbcjaaDoorLSH
namespace Go.Proofs.YthnakiihenbcjaaDoor
set_option linter.unusedSimpArgs false
set_option linter.unusedVariables false
open Go.RowKit

/-! L_subwaylaw04_SyntaxParts -/
def L_subwaylaw04_SyntaxParts_k11 (rec9 : Int → Int → Int → Int → Option (Bool)) (v100 : Int) (v211 : Int) (v212 : Int) (v213 : Int) : Option (Bool) :=
  (rec9 v211 v212 v213 (IntKind.wrap .i64 (v100 + 1)))
def L_subwaylaw04_SyntaxParts_k12 (rec9 : Int → Int → Int → Int → Option (Bool)) (z8 : ((List UInt8))) (v97 : Int) (v98 : Int) (v99 : Int) (v100 : Int) (v230 : Bool) : Option (Bool) :=
  (cond v230 (some (false)) ((idx z8 v100).bind fun x234 => (cond (decide ((IntKind.wrap .u32 ((IntKind.wrap .u32 (10 * v99)) + (IntKind.wrap .u32 (IntKind.wrap .u8 (((x234).toNat : Int) - 48))))) > 255)) (some (false)) (L_subwaylaw04_SyntaxParts_k11 rec9 v100 v97 v98 (IntKind.wrap .u32 ((IntKind.wrap .u32 (10 * v99)) + (IntKind.wrap .u32 (IntKind.wrap .u8 (((x234).toNat : Int) - 48)))))))))
def L_subwaylaw04_SyntaxParts_k13 (rec9 : Int → Int → Int → Int → Option (Bool)) (v250 : Bool) : Option (Bool) :=
  (some (v250))
def L_subwaylaw04_SyntaxParts_b5 (rec9 : Int → Int → Int → Int → Option (Bool)) (p1 : Int) (z2 : (Bool)) (z8 : ((List UInt8))) (v97 : Int) (v98 : Int) (v99 : Int) (v100 : Int) : Option (Bool) :=
  (cond (decide (v100 < ((List.length z8 : Nat) : Int))) ((idx z8 v100).bind fun x216 => (cond (((x216).toNat : Int) == 46) (L_subwaylaw04_SyntaxParts_k11 rec9 v100 (IntKind.wrap .i64 (v97 + 1)) (IntKind.wrap .u32 ((IntKind.wrap .u32 (256 * v98)) + v99)) 0) ((idx z8 v100).bind fun x239 => (cond (decide (((x239).toNat : Int) < 48)) (L_subwaylaw04_SyntaxParts_k12 rec9 z8 v97 v98 v99 v100 true) ((idx z8 v100).bind fun x244 => (L_subwaylaw04_SyntaxParts_k12 rec9 z8 v97 v98 v99 v100 (decide (((x244).toNat : Int) > 57)))))))) (cond z2 (cond (v97 == 3) (L_subwaylaw04_SyntaxParts_k13 rec9 ((IntKind.wrap .u32 ((IntKind.wrap .u32 (256 * v98)) + v99)) == p1)) (L_subwaylaw04_SyntaxParts_k13 rec9 false)) (L_subwaylaw04_SyntaxParts_k13 rec9 false)))
def L_subwaylaw04_SyntaxParts_l5 (p1 : Int) (z2 : (Bool)) (z8 : ((List UInt8))) : Nat → Int → Int → Int → Int → Option (Bool)
  | 0, _, _, _, _ => none
  | f + 1, v97, v98, v99, v100 => L_subwaylaw04_SyntaxParts_b5  (L_subwaylaw04_SyntaxParts_l5 p1 z2 z8 f) p1 z2 z8 v97 v98 v99 v100
def L_subwaylaw04_SyntaxParts (p1 : Int) : Option (Bool) :=
  ((L_subwaylaw04_head ).bind fun z2 => ((L_syntax_Dots p1).bind fun z8 => (L_subwaylaw04_SyntaxParts_l5 p1 z2 z8 fuel 0 0 0 0)))
set_option maxRecDepth 100000 in
set_option maxHeartbeats 4000000 in
theorem L_subwaylaw04_SyntaxParts_walk  (p1 : Int) (w0 : World) (hL : LaidW w0)  (r : (Bool)) (H : L_subwaylaw04_SyntaxParts p1 = some r) :
  Calls Tryd.prog 9 #[(.int .u32 p1)] w0 (fun e w' => e = .returned (.bool r) ∧ SP [] w0 w' []) := by
 unfold L_subwaylaw04_SyntaxParts at H
 refine calls_start (n := 61) Tryd.func9 (by kernel_rfl) (by kernel_rfl) (by kernel_rfl) ?_
 have hs0 := SP.start [] w0
 refine At.seq (by kernel_rfl) (p0 := [false]) (p1 := [true]) rfl rfl ?_
 refine At.region (by kernel_rfl) (by kernel_rfl) ?_
 refine In.run' 1 (k' := 1) rfl [(2, (.bool false))] (by kernel_rfl) ?_
 refine In.fin (by kernel_rfl) ?_
 refine At.seq (by kernel_rfl) (p0 := [true, false]) (p1 := [true, true]) rfl rfl ?_
 refine At.region (by kernel_rfl) (by kernel_rfl) ?_
 obtain ⟨z2, hz3, H⟩ := bind_elim H
 refine In.step (k' := 1) rfl (by kernel_rfl) ?_
 refine Step.callF (f := 10) (fo := (.func 10)) (xs := #[]) (tys := #[]) (first := #[]) (captured := #[]) (d := (some 9)) (k := 0) (by kernel_rfl) rfl (by kernel_rfl) (by kernel_rfl) Tryd.call10 (L_subwaylaw04_head_walk   w0 (laid_below hL (SP.keeps hs0)) z2 hz3) ?_
 rintro e w4 ⟨rfl, hs5⟩
 refine ⟨_, rfl, ?_⟩
 have hs6 := SP.call hs0 hs5
 clear hs5
 have hs7 : SP [] w0 w4 [] := hs6
 clear hs6
 refine In.run' 1 (k' := 2) rfl [(3, (.bool z2))] (by kernel_rfl) ?_
 refine In.fin (by kernel_rfl) ?_
 refine At.seq (by kernel_rfl) (p0 := [true, true, false]) (p1 := [true, true, true]) rfl rfl ?_
 refine At.region (by kernel_rfl) (by kernel_rfl) ?_
 refine In.run' 1 (k' := 1) rfl [(10, (.int .u32 p1))] (by kernel_rfl) ?_
 obtain ⟨z8, hz9, H⟩ := bind_elim H
 refine In.step (k' := 2) rfl (by kernel_rfl) ?_
 refine Step.callF (f := 17) (fo := (.func 17)) (xs := #[(.tmp 10)]) (tys := #[22]) (first := #[]) (captured := #[]) (d := (some 11)) (k := 1) (by kernel_rfl) rfl (by kernel_rfl) (by kernel_rfl) Tryd.call17 (L_syntax_Dots_walk  p1 w4 (laid_below hL (SP.keeps hs7)) z8 hz9) ?_
 rintro e w10 ⟨rfl, hs11⟩
 refine ⟨_, rfl, ?_⟩
 have hs12 := SP.call hs7 hs11
 clear hs11
 have hs13 : SP [] w0 w10 [] := hs12
 clear hs12
 refine In.run' 1 (k' := 3) rfl [(4, (.string ⟨List.toArray z8⟩))] (by kernel_rfl) ?_
 refine In.fin (by kernel_rfl) ?_
 refine At.seq (by kernel_rfl) (p0 := [true, true, true, false]) (p1 := [true, true, true, true]) rfl rfl ?_
 refine At.region (by kernel_rfl) (by kernel_rfl) ?_
 refine In.run' 1 (k' := 1) rfl [(5, (.int .i64 0))] (by kernel_rfl) ?_
 refine In.fin (by kernel_rfl) ?_
 refine At.seq (by kernel_rfl) (p0 := [true, true, true, true, false]) (p1 := [true, true, true, true, true]) rfl rfl ?_
 refine At.region (by kernel_rfl) (by kernel_rfl) ?_
 refine In.run' 1 (k' := 1) rfl [(6, (.int .u32 0))] (by kernel_rfl) ?_
 refine In.fin (by kernel_rfl) ?_
 refine At.seq (by kernel_rfl) (p0 := [true, true, true, true, true, false]) (p1 := [true, true, true, true, true, true]) rfl rfl ?_
 refine At.region (by kernel_rfl) (by kernel_rfl) ?_
 refine In.run' 1 (k' := 1) rfl [(7, (.int .u32 0))] (by kernel_rfl) ?_
 refine In.fin (by kernel_rfl) ?_
 refine At.seq (by kernel_rfl) (p0 := [true, true, true, true, true, true, false]) (p1 := [true, true, true, true, true, true, true]) rfl rfl ?_
 refine At.seq (by kernel_rfl) (p0 := [true, true, true, true, true, true, false, false]) (p1 := [true, true, true, true, true, true, false, true]) rfl rfl ?_
 refine At.region (by kernel_rfl) (by kernel_rfl) ?_
 refine In.run' 1 (k' := 1) rfl [(8, (.int .i64 0))] (by kernel_rfl) ?_
 refine In.fin (by kernel_rfl) ?_
 refine At.block (by kernel_rfl) (id := 0) (by kernel_rfl) (p0 := [true, true, true, true, true, true, false, true, false]) rfl ?_
 refine At.loop (by kernel_rfl) (p0 := [true, true, true, true, true, true, false, true, false, false]) rfl (fun f9 ρ w => ∃ (v97 : Int) (v98 : Int) (v99 : Int) (v100 : Int), Known ρ [(0, (.int .u32 p1)), (3, (.bool z2)), (4, (.string ⟨List.toArray z8⟩)), (5, (.int .i64 v97)), (6, (.int .u32 v98)), (7, (.int .u32 v99)), (8, (.int .i64 v100))] ∧ SP [] w0 w [] ∧ L_subwaylaw04_SyntaxParts_l5 p1 z2 z8 f9 v97 v98 v99 v100 = some r) (by rintro ρ w ⟨v97, v98, v99, v100, hk, hs, H⟩; cases H) ?_ fuel ?_
 ·rintro f9 ρ w95 ⟨v97, v98, v99, v100, hk, hs96, H⟩
  refine At.known [(0, (.int .u32 p1)), (3, (.bool z2)), (4, (.string ⟨List.toArray z8⟩)), (5, (.int .i64 v97)), (6, (.int .u32 v98)), (7, (.int .u32 v99)), (8, (.int .i64 v100))] hk ?_
  replace H := (show L_subwaylaw04_SyntaxParts_b5 (L_subwaylaw04_SyntaxParts_l5 p1 z2 z8 f9) p1 z2 z8 v97 v98 v99 v100 = some r from H)
  unfold L_subwaylaw04_SyntaxParts_b5 at H
  refine At.seq (by kernel_rfl) (p0 := [true, true, true, true, true, true, false, true, false, false, false]) (p1 := [true, true, true, true, true, true, false, true, false, false, true]) rfl rfl ?_
  refine At.seq (by kernel_rfl) (p0 := [true, true, true, true, true, true, false, true, false, false, false, false]) (p1 := [true, true, true, true, true, true, false, true, false, false, false, true]) rfl rfl ?_
  refine At.region (by kernel_rfl) (by kernel_rfl) ?_
  refine In.run' 4 (k' := 4) rfl [(12, (.int .i64 v100)), (13, (.string ⟨List.toArray z8⟩)), (14, (.int .i64 ((List.length z8 : Nat) : Int))), (15, (.bool (decide (v100 < ((List.length z8 : Nat) : Int)))))] (by kernel_rfl) ?_
  refine In.fin (by kernel_rfl) ?_
  refine At.cond (by kernel_rfl) (o := (.tmp 15)) (by kernel_rfl) (b := (decide (v100 < ((List.length z8 : Nat) : Int)))) (by kernel_rfl) (p0 := [true, true, true, true, true, true, false, true, false, false, false, true, false]) (p1 := [true, true, true, true, true, true, false, true, false, false, false, true, true]) rfl rfl (fun hb178 => ?_) (fun hb178 => ?_)
  ·have H := ct H hb178
   refine At.skip (by kernel_rfl) ?_
   refine At.seq (by kernel_rfl) (p0 := [true, true, true, true, true, true, false, true, false, false, true, false]) (p1 := [true, true, true, true, true, true, false, true, false, false, true, true]) rfl rfl ?_
   refine At.join (fun ρ w => ∃ (v211 : Int) (v212 : Int) (v213 : Int), Known ρ [(0, (.int .u32 p1)), (3, (.bool z2)), (4, (.string ⟨List.toArray z8⟩)), (5, (.int .i64 v211)), (6, (.int .u32 v212)), (7, (.int .u32 v213)), (8, (.int .i64 v100))] ∧ SP [] w0 w [] ∧ L_subwaylaw04_SyntaxParts_k11 (L_subwaylaw04_SyntaxParts_l5 p1 z2 z8 f9) v100 v211 v212 v213 = some r) ?_ ?_
   ·refine At.block (by kernel_rfl) (id := 1) (by kernel_rfl) (p0 := [true, true, true, true, true, true, false, true, false, false, true, false, false]) rfl ?_
    refine At.seq (by kernel_rfl) (p0 := [true, true, true, true, true, true, false, true, false, false, true, false, false, false]) (p1 := [true, true, true, true, true, true, false, true, false, false, true, false, false, true]) rfl rfl ?_
    refine At.seq (by kernel_rfl) (p0 := [true, true, true, true, true, true, false, true, false, false, true, false, false, false, false]) (p1 := [true, true, true, true, true, true, false, true, false, false, true, false, false, false, true]) rfl rfl ?_
    refine At.region (by kernel_rfl) (by kernel_rfl) ?_
    refine In.run' 2 (k' := 2) rfl [(18, (.string ⟨List.toArray z8⟩)), (19, (.int .i64 v100))] (by kernel_rfl) ?_
    obtain ⟨x216, hp217, hq218, hx219, H⟩ := idx_elim H
    refine In.step (k' := 3) rfl (by kernel_rfl) ?_
    refine Step.strIdx (a := z8) (u := x216) (T := 9) (x := (.tmp 18)) (ix := (.tmp 19)) (ki := .i64) (iz := v100) (d := (some 20)) (k := 2) (by kernel_rfl) rfl (by kernel_rfl) (by kernel_rfl) (by kernel_rfl) hp217 hx219 ?_
    refine In.run' 1 (k' := 4) rfl [(21, (.bool (((x216).toNat : Int) == 46)))] (by kernel_rfl) ?_
    refine In.fin (by kernel_rfl) ?_
    refine At.cond (by kernel_rfl) (o := (.tmp 21)) (by kernel_rfl) (b := (((x216).toNat : Int) == 46)) (by kernel_rfl) (p0 := [true, true, true, true, true, true, false, true, false, false, true, false, false, false, true, false]) (p1 := [true, true, true, true, true, true, false, true, false, false, true, false, false, false, true, true]) rfl rfl (fun hb220 => ?_) (fun hb220 => ?_)
    ·have H := ct H hb220
     refine At.seq (by kernel_rfl) (p0 := [true, true, true, true, true, true, false, true, false, false, true, false, false, false, true, false, false]) (p1 := [true, true, true, true, true, true, false, true, false, false, true, false, false, false, true, false, true]) rfl rfl ?_
     refine At.region (by kernel_rfl) (by kernel_rfl) ?_
     refine In.run' 3 (k' := 3) rfl [(22, (.int .i64 v97)), (23, (.int .i64 (IntKind.wrap .i64 (v97 + 1)))), (5, (.int .i64 (IntKind.wrap .i64 (v97 + 1))))] (by kernel_rfl) ?_
     refine In.fin (by kernel_rfl) ?_
     refine At.seq (by kernel_rfl) (p0 := [true, true, true, true, true, true, false, true, false, false, true, false, false, false, true, false, true, false]) (p1 := [true, true, true, true, true, true, false, true, false, false, true, false, false, false, true, false, true, true]) rfl rfl ?_
     refine At.region (by kernel_rfl) (by kernel_rfl) ?_
     refine In.run' 5 (k' := 5) rfl [(24, (.int .u32 v98)), (25, (.int .u32 (IntKind.wrap .u32 (256 * v98)))), (26, (.int .u32 v99)), (27, (.int .u32 (IntKind.wrap .u32 ((IntKind.wrap .u32 (256 * v98)) + v99)))), (6, (.int .u32 (IntKind.wrap .u32 ((IntKind.wrap .u32 (256 * v98)) + v99))))] (by kernel_rfl) ?_
     refine In.fin (by kernel_rfl) ?_
     refine At.seq (by kernel_rfl) (p0 := [true, true, true, true, true, true, false, true, false, false, true, false, false, false, true, false, true, true, false]) (p1 := [true, true, true, true, true, true, false, true, false, false, true, false, false, false, true, false, true, true, true]) rfl rfl ?_
     refine At.region (by kernel_rfl) (by kernel_rfl) ?_
     refine In.run' 1 (k' := 1) rfl [(7, (.int .u32 0))] (by kernel_rfl) ?_
     refine In.fin (by kernel_rfl) ?_
     refine At.exit (by kernel_rfl) (id := 1) (by kernel_rfl) ?_
     exact ⟨(IntKind.wrap .i64 (v97 + 1)), (IntKind.wrap .u32 ((IntKind.wrap .u32 (256 * v98)) + v99)), 0, ⟨(by kernel_rfl), (by kernel_rfl), (by kernel_rfl), (by kernel_rfl), (by kernel_rfl), (by kernel_rfl), (by kernel_rfl), trivial⟩, SP.sel hs96 [] rfl rfl, H⟩
    ·have H := cf H hb220
     refine At.skip (by kernel_rfl) ?_
     refine At.seq (by kernel_rfl) (p0 := [true, true, true, true, true, true, false, true, false, false, true, false, false, true, false]) (p1 := [true, true, true, true, true, true, false, true, false, false, true, false, false, true, true]) rfl rfl ?_
     refine At.seq (by kernel_rfl) (p0 := [true, true, true, true, true, true, false, true, false, false, true, false, false, true, false, false]) (p1 := [true, true, true, true, true, true, false, true, false, false, true, false, false, true, false, true]) rfl rfl ?_
     refine At.join (fun ρ w => ∃ (v230 : Bool), Known ρ [(0, (.int .u32 p1)), (3, (.bool z2)), (4, (.string ⟨List.toArray z8⟩)), (5, (.int .i64 v97)), (6, (.int .u32 v98)), (7, (.int .u32 v99)), (8, (.int .i64 v100)), (37, (.bool v230))] ∧ SP [] w0 w [] ∧ L_subwaylaw04_SyntaxParts_k12 (L_subwaylaw04_SyntaxParts_l5 p1 z2 z8 f9) z8 v97 v98 v99 v100 v230 = some r) ?_ ?_
     ·refine At.region (by kernel_rfl) (by kernel_rfl) ?_
      refine In.run' 2 (k' := 2) rfl [(28, (.string ⟨List.toArray z8⟩)), (29, (.int .i64 v100))] (by kernel_rfl) ?_
      obtain ⟨x239, hp240, hq241, hx242, H⟩ := idx_elim H
      refine In.step (k' := 3) rfl (by kernel_rfl) ?_
      refine Step.strIdx (a := z8) (u := x239) (T := 9) (x := (.tmp 28)) (ix := (.tmp 29)) (ki := .i64) (iz := v100) (d := (some 30)) (k := 2) (by kernel_rfl) rfl (by kernel_rfl) (by kernel_rfl) (by kernel_rfl) hp240 hx242 ?_
      refine In.run' 2 (k' := 5) rfl [(31, (.bool (decide (((x239).toNat : Int) < 48)))), (32, (.bool (decide (((x239).toNat : Int) < 48))))] (by kernel_rfl) ?_
      refine In.guard (t := 32) (b := (decide (((x239).toNat : Int) < 48))) (by kernel_rfl) (fun hb243 => ?_) (fun hb243 => ?_)
      ·have H := ct H hb243
       refine In.run' 5 (k' := 10) rfl [(33, undef), (34, undef), (35, undef), (36, undef), (37, (.bool true))] (by kernel_rfl) ?_
       refine In.fin (by kernel_rfl) ?_
       exact ⟨true, ⟨(by kernel_rfl), (by kernel_rfl), (by kernel_rfl), (by kernel_rfl), (by kernel_rfl), (by kernel_rfl), (by kernel_rfl), (by kernel_rfl), trivial⟩, SP.sel hs96 [] rfl rfl, H⟩
      ·have H := cf H hb243
       refine In.run' 2 (k' := 7) rfl [(33, (.string ⟨List.toArray z8⟩)), (34, (.int .i64 v100))] (by kernel_rfl) ?_
       obtain ⟨x244, hp245, hq246, hx247, H⟩ := idx_elim H
       refine In.step (k' := 8) rfl (by kernel_rfl) ?_
       refine Step.strIdx (a := z8) (u := x244) (T := 9) (x := (.tmp 33)) (ix := (.tmp 34)) (ki := .i64) (iz := v100) (d := (some 35)) (k := 7) (by kernel_rfl) rfl (by kernel_rfl) (by kernel_rfl) (by kernel_rfl) hp245 hx247 ?_
       refine In.run' 2 (k' := 10) rfl [(36, (.bool (decide (((x244).toNat : Int) > 57)))), (37, (.bool (decide (((x244).toNat : Int) > 57))))] (by kernel_rfl) ?_
       refine In.fin (by kernel_rfl) ?_
       exact ⟨(decide (((x244).toNat : Int) > 57)), ⟨(by kernel_rfl), (by kernel_rfl), (by kernel_rfl), (by kernel_rfl), (by kernel_rfl), (by kernel_rfl), (by kernel_rfl), (by kernel_rfl), trivial⟩, SP.sel hs96 [] rfl rfl, H⟩
     ·rintro ρ w231 ⟨v230, hk, hs232, H⟩
      unfold L_subwaylaw04_SyntaxParts_k12 at H
      refine At.known [(0, (.int .u32 p1)), (3, (.bool z2)), (4, (.string ⟨List.toArray z8⟩)), (5, (.int .i64 v97)), (6, (.int .u32 v98)), (7, (.int .u32 v99)), (8, (.int .i64 v100)), (37, (.bool v230))] hk ?_
      refine At.cond (by kernel_rfl) (o := (.tmp 37)) (by kernel_rfl) (b := v230) (by kernel_rfl) (p0 := [true, true, true, true, true, true, false, true, false, false, true, false, false, true, false, true, false]) (p1 := [true, true, true, true, true, true, false, true, false, false, true, false, false, true, false, true, true]) rfl rfl (fun hb233 => ?_) (fun hb233 => ?_)
      ·have H := ct H hb233
       refine At.seq (by kernel_rfl) (p0 := [true, true, true, true, true, true, false, true, false, false, true, false, false, true, false, true, false, false]) (p1 := [true, true, true, true, true, true, false, true, false, false, true, false, false, true, false, true, false, true]) rfl rfl ?_
       refine At.region (by kernel_rfl) (by kernel_rfl) ?_
       refine In.run' 1 (k' := 1) rfl [(2, (.bool false))] (by kernel_rfl) ?_
       refine In.fin (by kernel_rfl) ?_
       refine At.ret (by kernel_rfl) ?_
       refine ⟨(.bool false), by kernel_rfl, ?_⟩
       obtain rfl := some_elim H
       exact ⟨rfl, SP.sel hs232 [] rfl rfl⟩
      ·have H := cf H hb233
       refine At.skip (by kernel_rfl) ?_
       refine At.seq (by kernel_rfl) (p0 := [true, true, true, true, true, true, false, true, false, false, true, false, false, true, true, false]) (p1 := [true, true, true, true, true, true, false, true, false, false, true, false, false, true, true, true]) rfl rfl ?_
       refine At.region (by kernel_rfl) (by kernel_rfl) ?_
       refine In.run' 4 (k' := 4) rfl [(38, (.int .u32 v99)), (39, (.int .u32 (IntKind.wrap .u32 (10 * v99)))), (40, (.string ⟨List.toArray z8⟩)), (41, (.int .i64 v100))] (by kernel_rfl) ?_
       obtain ⟨x234, hp235, hq236, hx237, H⟩ := idx_elim H
       refine In.step (k' := 5) rfl (by kernel_rfl) ?_
       refine Step.strIdx (a := z8) (u := x234) (T := 9) (x := (.tmp 40)) (ix := (.tmp 41)) (ki := .i64) (iz := v100) (d := (some 42)) (k := 4) (by kernel_rfl) rfl (by kernel_rfl) (by kernel_rfl) (by kernel_rfl) hp235 hx237 ?_
       refine In.run' 4 (k' := 9) rfl [(43, (.int .u8 (IntKind.wrap .u8 (((x234).toNat : Int) - 48)))), (44, (.int .u32 (IntKind.wrap .u32 (IntKind.wrap .u8 (((x234).toNat : Int) - 48))))), (45, (.int .u32 (IntKind.wrap .u32 ((IntKind.wrap .u32 (10 * v99)) + (IntKind.wrap .u32 (IntKind.wrap .u8 (((x234).toNat : Int) - 48))))))), (7, (.int .u32 (IntKind.wrap .u32 ((IntKind.wrap .u32 (10 * v99)) + (IntKind.wrap .u32 (IntKind.wrap .u8 (((x234).toNat : Int) - 48)))))))] (by kernel_rfl) ?_
       refine In.fin (by kernel_rfl) ?_
       refine At.seq (by kernel_rfl) (p0 := [true, true, true, true, true, true, false, true, false, false, true, false, false, true, true, true, false]) (p1 := [true, true, true, true, true, true, false, true, false, false, true, false, false, true, true, true, true]) rfl rfl ?_
       refine At.region (by kernel_rfl) (by kernel_rfl) ?_
       refine In.run' 2 (k' := 2) rfl [(46, (.int .u32 (IntKind.wrap .u32 ((IntKind.wrap .u32 (10 * v99)) + (IntKind.wrap .u32 (IntKind.wrap .u8 (((x234).toNat : Int) - 48))))))), (47, (.bool (decide ((IntKind.wrap .u32 ((IntKind.wrap .u32 (10 * v99)) + (IntKind.wrap .u32 (IntKind.wrap .u8 (((x234).toNat : Int) - 48))))) > 255))))] (by kernel_rfl) ?_
       refine In.fin (by kernel_rfl) ?_
       refine At.cond (by kernel_rfl) (o := (.tmp 47)) (by kernel_rfl) (b := (decide ((IntKind.wrap .u32 ((IntKind.wrap .u32 (10 * v99)) + (IntKind.wrap .u32 (IntKind.wrap .u8 (((x234).toNat : Int) - 48))))) > 255))) (by kernel_rfl) (p0 := [true, true, true, true, true, true, false, true, false, false, true, false, false, true, true, true, true, false]) (p1 := [true, true, true, true, true, true, false, true, false, false, true, false, false, true, true, true, true, true]) rfl rfl (fun hb238 => ?_) (fun hb238 => ?_)
       ·have H := ct H hb238
        refine At.seq (by kernel_rfl) (p0 := [true, true, true, true, true, true, false, true, false, false, true, false, false, true, true, true, true, false, false]) (p1 := [true, true, true, true, true, true, false, true, false, false, true, false, false, true, true, true, true, false, true]) rfl rfl ?_
        refine At.region (by kernel_rfl) (by kernel_rfl) ?_
        refine In.run' 1 (k' := 1) rfl [(2, (.bool false))] (by kernel_rfl) ?_
        refine In.fin (by kernel_rfl) ?_
        refine At.ret (by kernel_rfl) ?_
        refine ⟨(.bool false), by kernel_rfl, ?_⟩
        obtain rfl := some_elim H
        exact ⟨rfl, SP.sel hs232 [] rfl rfl⟩
       ·have H := cf H hb238
        refine At.skip (by kernel_rfl) ?_
        exact ⟨v97, v98, (IntKind.wrap .u32 ((IntKind.wrap .u32 (10 * v99)) + (IntKind.wrap .u32 (IntKind.wrap .u8 (((x234).toNat : Int) - 48))))), ⟨(by kernel_rfl), (by kernel_rfl), (by kernel_rfl), (by kernel_rfl), (by kernel_rfl), (by kernel_rfl), (by kernel_rfl), trivial⟩, SP.sel hs232 [] rfl rfl, H⟩
   ·rintro ρ w214 ⟨v211, v212, v213, hk, hs215, H⟩
    unfold L_subwaylaw04_SyntaxParts_k11 at H
    refine At.known [(0, (.int .u32 p1)), (3, (.bool z2)), (4, (.string ⟨List.toArray z8⟩)), (5, (.int .i64 v211)), (6, (.int .u32 v212)), (7, (.int .u32 v213)), (8, (.int .i64 v100))] hk ?_
    refine At.region (by kernel_rfl) (by kernel_rfl) ?_
    refine In.run' 3 (k' := 3) rfl [(16, (.int .i64 v100)), (17, (.int .i64 (IntKind.wrap .i64 (v100 + 1)))), (8, (.int .i64 (IntKind.wrap .i64 (v100 + 1))))] (by kernel_rfl) ?_
    refine In.fin (by kernel_rfl) ?_
    exact ⟨v211, v212, v213, (IntKind.wrap .i64 (v100 + 1)), ⟨(by kernel_rfl), (by kernel_rfl), (by kernel_rfl), (by kernel_rfl), (by kernel_rfl), (by kernel_rfl), (by kernel_rfl), trivial⟩, SP.sel hs215 [] rfl rfl, H⟩
  ·have H := cf H hb178
   refine At.exit (by kernel_rfl) (id := 0) (by kernel_rfl) ?_
   refine At.seq (by kernel_rfl) (p0 := [true, true, true, true, true, true, true, false]) (p1 := [true, true, true, true, true, true, true, true]) rfl rfl ?_
   refine At.join (fun ρ w => ∃ (v250 : Bool), Known ρ [(2, (.bool v250))] ∧ SP [] w0 w [] ∧ L_subwaylaw04_SyntaxParts_k13 (L_subwaylaw04_SyntaxParts_l5 p1 z2 z8 f9) v250 = some r) ?_ ?_
   ·refine At.region (by kernel_rfl) (by kernel_rfl) ?_
    refine In.run' 2 (k' := 2) rfl [(48, (.bool z2)), (49, (.bool z2))] (by kernel_rfl) ?_
    refine In.guard (t := 49) (b := z2) (by kernel_rfl) (fun hb253 => ?_) (fun hb253 => ?_)
    ·have H := ct H hb253
     refine In.run' 4 (k' := 6) rfl [(50, (.int .i64 v97)), (51, (.bool (v97 == 3))), (52, (.bool (v97 == 3))), (53, (.bool (v97 == 3)))] (by kernel_rfl) ?_
     refine In.guard (t := 53) (b := (v97 == 3)) (by kernel_rfl) (fun hb254 => ?_) (fun hb254 => ?_)
     ·have H := ct H hb254
      refine In.run' 8 (k' := 14) rfl [(54, (.int .u32 v98)), (55, (.int .u32 (IntKind.wrap .u32 (256 * v98)))), (56, (.int .u32 v99)), (57, (.int .u32 (IntKind.wrap .u32 ((IntKind.wrap .u32 (256 * v98)) + v99)))), (58, (.int .u32 p1)), (59, (.bool ((IntKind.wrap .u32 ((IntKind.wrap .u32 (256 * v98)) + v99)) == p1))), (60, (.bool ((IntKind.wrap .u32 ((IntKind.wrap .u32 (256 * v98)) + v99)) == p1))), (2, (.bool ((IntKind.wrap .u32 ((IntKind.wrap .u32 (256 * v98)) + v99)) == p1)))] (by kernel_rfl) ?_
      refine In.fin (by kernel_rfl) ?_
      exact ⟨((IntKind.wrap .u32 ((IntKind.wrap .u32 (256 * v98)) + v99)) == p1), ⟨(by kernel_rfl), trivial⟩, SP.sel hs96 [] rfl rfl, H⟩
     ·have H := cf H hb254
      refine In.run' 8 (k' := 14) rfl [(54, undef), (55, undef), (56, undef), (57, undef), (58, undef), (59, undef), (60, (.bool false)), (2, (.bool false))] (by kernel_rfl) ?_
      refine In.fin (by kernel_rfl) ?_
      exact ⟨false, ⟨(by kernel_rfl), trivial⟩, SP.sel hs96 [] rfl rfl, H⟩
    ·have H := cf H hb253
     refine In.run' 12 (k' := 14) rfl [(50, undef), (51, undef), (52, (.bool false)), (53, (.bool false)), (54, undef), (55, undef), (56, undef), (57, undef), (58, undef), (59, undef), (60, (.bool false)), (2, (.bool false))] (by kernel_rfl) ?_
     refine In.fin (by kernel_rfl) ?_
     exact ⟨false, ⟨(by kernel_rfl), trivial⟩, SP.sel hs96 [] rfl rfl, H⟩
   ·rintro ρ w251 ⟨v250, hk, hs252, H⟩
    unfold L_subwaylaw04_SyntaxParts_k13 at H
    refine At.known [(2, (.bool v250))] hk ?_
    refine At.ret (by kernel_rfl) ?_
    refine ⟨(.bool v250), by kernel_rfl, ?_⟩
    obtain rfl := some_elim H
    exact ⟨rfl, SP.sel hs252 [] rfl rfl⟩
 ·exact ⟨0, 0, 0, 0, ⟨(by kernel_rfl), (by kernel_rfl), (by kernel_rfl), (by kernel_rfl), (by kernel_rfl), (by kernel_rfl), (by kernel_rfl), trivial⟩, SP.sel hs13 [] rfl rfl, H⟩
end Go.Proofs.YthnakiihenbcjaaDoor
