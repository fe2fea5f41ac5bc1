/- LIFTED BY PROGRAM (tools/lift.py): what functions compute, and that they do. -/
import Derived.Test.YtfffjaijflbeaaaDoorSynHandA
import Derived.Test.YtfffjaijflbeaaaDoorLNum
namespace Go.Proofs.YtfffjaijflbeaaaDoor
set_option linter.unusedSimpArgs false
set_option linter.unusedVariables false
open Go.RowKit

/-! L_syntax_Name -/
def L_syntax_Name_k1 (v20 : Bool) : Option (Bool) :=
  (some (v20))
def L_syntax_Name (p1 : (List UInt8)) : Option (Bool) :=
  (cond (!(p1 == ([] : List UInt8))) (cond (decide (((List.length p1 : Nat) : Int) ≤ 20)) ((L_strings_Trim p1 ([97, 98, 99, 100, 101, 102, 103, 104, 105, 106, 107, 108, 109, 110, 111, 112, 113, 114, 115, 116, 117, 118, 119, 120, 121, 122, 48, 49, 50, 51, 52, 53, 54, 55, 56, 57, 45] : List UInt8)).bind fun z25 => (cond (z25 == ([] : List UInt8)) ((idx p1 0).bind fun x32 => (cond (((x32).toNat : Int) != 45) ((idx p1 (IntKind.wrap .i64 (((List.length p1 : Nat) : Int) - 1))).bind fun x37 => (L_syntax_Name_k1 (((x37).toNat : Int) != 45))) (L_syntax_Name_k1 false))) (L_syntax_Name_k1 false))) (L_syntax_Name_k1 false)) (L_syntax_Name_k1 false))
set_option maxRecDepth 100000 in
set_option maxHeartbeats 4000000 in
theorem L_syntax_Name_walk  (p1 : (List UInt8)) (w0 : World)  (r : (Bool)) (H : L_syntax_Name p1 = some r) :
  Calls Tryd.prog 51 #[(.string ⟨List.toArray p1⟩)] w0 (fun e w' => e = .returned (.bool r) ∧ SP [] w0 w' []) := by
 unfold L_syntax_Name at H
 refine calls_go (n := 28) Tryd.func51 K K K ?_
 have hs0 := SP.start [] w0
 refine At.sq K ?_
 refine At.region K K ?_
 refine In.run' 1 (k' := 1) rfl [(2, (.bool false))] K ?_
 refine In.fin K ?_
 refine At.sq K ?_
 refine At.join (fun ρ w => ∃ (v20 : Bool), Known ρ [(2, (.bool v20))] ∧ SP [] w0 w [] ∧ L_syntax_Name_k1 v20 = some r) ?_ ?_
 ·refine At.region K K ?_
  refine In.run' 1 (k' := 1) rfl [(3, (.string ⟨List.toArray p1⟩))] K ?_
  refine In.step (k' := 2) rfl K ?_
  refine Step.strOp (op := .neq) (T := 9) (T' := 9) (x := (.tmp 3)) (y := (.const (.string ⟨List.toArray ([] : List UInt8)⟩))) (a := p1) (b := ([] : List UInt8)) (r := (.bool (!(p1 == ([] : List UInt8))))) (d := (some 4)) (k := 1) K rfl K K rfl ?_
  refine In.run' 1 (k' := 3) rfl [(5, (.bool (!(p1 == ([] : List UInt8)))))] K ?_
  refine In.guard (t := 5) (b := (!(p1 == ([] : List UInt8)))) K (fun hb23 => ?_) (fun hb23 => ?_)
  ·have H := ct H hb23
   refine In.run' 5 (k' := 8) rfl [(6, (.string ⟨List.toArray p1⟩)), (7, (.int .i64 ((List.length p1 : Nat) : Int))), (8, (.bool (decide (((List.length p1 : Nat) : Int) ≤ 20)))), (9, (.bool (decide (((List.length p1 : Nat) : Int) ≤ 20)))), (10, (.bool (decide (((List.length p1 : Nat) : Int) ≤ 20))))] K ?_
   refine In.guard (t := 10) (b := (decide (((List.length p1 : Nat) : Int) ≤ 20))) K (fun hb24 => ?_) (fun hb24 => ?_)
   ·have H := ct H hb24
    refine In.run' 1 (k' := 9) rfl [(11, (.string ⟨List.toArray p1⟩))] K ?_
    obtain ⟨z25, hz26, H⟩ := bind_elim H
    refine In.step (k' := 10) rfl K ?_
    refine Step.callF (f := 58) (fo := (.func 58)) (xs := #[(.tmp 11), (.const (.string ⟨List.toArray ([97, 98, 99, 100, 101, 102, 103, 104, 105, 106, 107, 108, 109, 110, 111, 112, 113, 114, 115, 116, 117, 118, 119, 120, 121, 122, 48, 49, 50, 51, 52, 53, 54, 55, 56, 57, 45] : List UInt8)⟩))]) (tys := #[9, 9]) (first := #[]) (captured := #[]) (d := (some 12)) (k := 9) K rfl K K Tryd.call58 (L_strings_Trim_walk  p1 ([97, 98, 99, 100, 101, 102, 103, 104, 105, 106, 107, 108, 109, 110, 111, 112, 113, 114, 115, 116, 117, 118, 119, 120, 121, 122, 48, 49, 50, 51, 52, 53, 54, 55, 56, 57, 45] : List UInt8) w0  z25 hz26) ?_
    rintro e w27 ⟨rfl, hs28⟩
    refine ⟨_, rfl, ?_⟩
    have hs30 : SP [] w0 w27 [] := SP.call hs0 hs28
    clear hs28
    refine In.step (k' := 11) rfl K ?_
    refine Step.strOp (op := .eql) (T := 9) (T' := 9) (x := (.tmp 12)) (y := (.const (.string ⟨List.toArray ([] : List UInt8)⟩))) (a := z25) (b := ([] : List UInt8)) (r := (.bool (z25 == ([] : List UInt8)))) (d := (some 13)) (k := 10) K rfl K K rfl ?_
    refine In.run' 2 (k' := 13) rfl [(14, (.bool (z25 == ([] : List UInt8)))), (15, (.bool (z25 == ([] : List UInt8))))] K ?_
    refine In.guard (t := 15) (b := (z25 == ([] : List UInt8))) K (fun hb31 => ?_) (fun hb31 => ?_)
    ·have H := ct H hb31
     refine In.run' 1 (k' := 14) rfl [(16, (.string ⟨List.toArray p1⟩))] K ?_
     obtain ⟨x32, hp33, hq34, hx35, H⟩ := idx_elim H
     refine In.step (k' := 15) rfl K ?_
     refine Step.strIdx (a := p1) (u := x32) (T := 9) (x := (.tmp 16)) (ix := (.const (.int .i64 (0)))) (ki := .i64) (iz := 0) (d := (some 17)) (k := 14) K rfl K K K hp33 hx35 ?_
     refine In.run' 3 (k' := 18) rfl [(18, (.bool (((x32).toNat : Int) != 45))), (19, (.bool (((x32).toNat : Int) != 45))), (20, (.bool (((x32).toNat : Int) != 45)))] K ?_
     refine In.guard (t := 20) (b := (((x32).toNat : Int) != 45)) K (fun hb36 => ?_) (fun hb36 => ?_)
     ·have H := ct H hb36
      refine In.run' 4 (k' := 22) rfl [(21, (.string ⟨List.toArray p1⟩)), (22, (.string ⟨List.toArray p1⟩)), (23, (.int .i64 ((List.length p1 : Nat) : Int))), (24, (.int .i64 (IntKind.wrap .i64 (((List.length p1 : Nat) : Int) - 1))))] K ?_
      obtain ⟨x37, hp38, hq39, hx40, H⟩ := idx_elim H
      refine In.step (k' := 23) rfl K ?_
      refine Step.strIdx (a := p1) (u := x37) (T := 9) (x := (.tmp 21)) (ix := (.tmp 24)) (ki := .i64) (iz := (IntKind.wrap .i64 (((List.length p1 : Nat) : Int) - 1))) (d := (some 25)) (k := 22) K rfl K K K hp38 hx40 ?_
      refine In.run' 3 (k' := 26) rfl [(26, (.bool (((x37).toNat : Int) != 45))), (27, (.bool (((x37).toNat : Int) != 45))), (2, (.bool (((x37).toNat : Int) != 45)))] K ?_
      refine In.fin K ?_
      exact ⟨(((x37).toNat : Int) != 45), ⟨K, trivial⟩, SP.sel hs30 [] rfl rfl, H⟩
     ·have H := cf H hb36
      refine In.run' 8 (k' := 26) rfl [(21, undef), (22, undef), (23, undef), (24, undef), (25, undef), (26, undef), (27, (.bool false)), (2, (.bool false))] K ?_
      refine In.fin K ?_
      exact ⟨false, ⟨K, trivial⟩, SP.sel hs30 [] rfl rfl, H⟩
    ·have H := cf H hb31
     refine In.run' 13 (k' := 26) rfl [(16, undef), (17, undef), (18, undef), (19, (.bool false)), (20, (.bool false)), (21, undef), (22, undef), (23, undef), (24, undef), (25, undef), (26, undef), (27, (.bool false)), (2, (.bool false))] K ?_
     refine In.fin K ?_
     exact ⟨false, ⟨K, trivial⟩, SP.sel hs30 [] rfl rfl, H⟩
   ·have H := cf H hb24
    refine In.run' 18 (k' := 26) rfl [(11, undef), (12, undef), (13, undef), (14, (.bool false)), (15, (.bool false)), (16, undef), (17, undef), (18, undef), (19, (.bool false)), (20, (.bool false)), (21, undef), (22, undef), (23, undef), (24, undef), (25, undef), (26, undef), (27, (.bool false)), (2, (.bool false))] K ?_
    refine In.fin K ?_
    exact ⟨false, ⟨K, trivial⟩, SP.sel hs0 [] rfl rfl, H⟩
  ·have H := cf H hb23
   refine In.run' 23 (k' := 26) rfl [(6, undef), (7, undef), (8, undef), (9, (.bool false)), (10, (.bool false)), (11, undef), (12, undef), (13, undef), (14, (.bool false)), (15, (.bool false)), (16, undef), (17, undef), (18, undef), (19, (.bool false)), (20, (.bool false)), (21, undef), (22, undef), (23, undef), (24, undef), (25, undef), (26, undef), (27, (.bool false)), (2, (.bool false))] K ?_
   refine In.fin K ?_
   exact ⟨false, ⟨K, trivial⟩, SP.sel hs0 [] rfl rfl, H⟩
 ·rintro ρ w21 ⟨v20, hk, hs22, H⟩
  unfold L_syntax_Name_k1 at H
  first | refine At.known [(2, (.bool v20))] hk ?_ | rw [← known_updL (l := [(2, (.bool v20))]) hk]
  refine At.ret K ?_
  refine ⟨(.bool v20), K, ?_⟩
  obtain rfl := some_elim H
  exact ⟨rfl, SP.sel hs22 [] rfl rfl⟩
/-! L_syntax_Dots -/
def L_syntax_Dots_b1 (rec1 : (List (List UInt8)) → Int → Option ((List UInt8))) (p1 : Int) (v35 : (List (List UInt8))) (v36 : Int) : Option ((List UInt8)) :=
  (cond (decide (v36 < 4)) ((chk (decide (0 ≤ (IntKind.wrap .i64 (24 - (IntKind.wrap .i64 (8 * v36))))))).bind fun _ => ((L_num_Decimal (IntKind.wrap .i64 (IntKind.wrap .u8 (bShr .u32 p1 (IntKind.wrap .i64 (24 - (IntKind.wrap .i64 (8 * v36)))))))).bind fun z64 => ((app v35 ([z64] : List (List UInt8))).bind fun l75 => (rec1 l75 (IntKind.wrap .i64 (v36 + 1)))))) ((L_strings_Join v35 ([46] : List UInt8)).bind fun z81 => (some (z81))))
def L_syntax_Dots_l1 (p1 : Int) : Nat → (List (List UInt8)) → Int → Option ((List UInt8))
  | 0, _, _ => none
  | f + 1, v35, v36 => L_syntax_Dots_b1  (L_syntax_Dots_l1 p1 f) p1 v35 v36
def L_syntax_Dots (p1 : Int) : Option ((List UInt8)) :=
  (L_syntax_Dots_l1 p1 fuel ([] : List (List UInt8)) 0)
set_option maxRecDepth 100000 in
set_option maxHeartbeats 4000000 in
theorem L_syntax_Dots_walk  (p1 : Int) (w0 : World) (hL : LaidW w0)  (r : ((List UInt8))) (H : L_syntax_Dots p1 = some r) :
  Calls Tryd.prog 55 #[(.int .u32 p1)] w0 (fun e w' => e = .returned (.string ⟨List.toArray r⟩) ∧ SP [] w0 w' []) := by
 unfold L_syntax_Dots at H
 refine calls_go (n := 22) Tryd.func55 K K K ?_
 have hs0 := SP.start [] w0
 refine At.sq K ?_
 refine At.region K K ?_
 refine In.run' 1 (k' := 1) rfl [(2, (.string ⟨List.toArray ([] : List UInt8)⟩))] K ?_
 refine In.fin K ?_
 refine At.sq K ?_
 refine At.region K K ?_
 refine In.run' 1 (k' := 1) rfl [(3, (.slice none (List.length ([] : List (List UInt8))) 0))] K ?_
 refine In.fin K ?_
 refine At.sq K ?_
 refine At.sq K ?_
 refine At.region K K ?_
 refine In.run' 1 (k' := 1) rfl [(5, (.int .i64 0))] K ?_
 refine In.fin K ?_
 refine At.bk K (id := 0) K ?_
 refine At.lp K (fun f1 ρ w => ∃ (v35 : (List (List UInt8))) (v36 : Int) (A33 : Option Addr) (c34 : Nat), Known ρ [(0, (.int .u32 p1)), (3, (.slice A33 (List.length v35) c34)), (5, (.int .i64 v36))] ∧ SP [] w0 w [rowT 9 eStr A33 c34 v35] ∧ L_syntax_Dots_l1 p1 f1 v35 v36 = some r) (by rintro ρ w ⟨v35, v36, A33, c34, hk, hs, H⟩; cases H) ?_ fuel ?_
 ·rintro f1 ρ w31 ⟨v35, v36, A33, c34, hk, hs32, H⟩
  refine At.known [(0, (.int .u32 p1)), (3, (.slice A33 (List.length v35) c34)), (5, (.int .i64 v36))] hk ?_
  replace H := (show L_syntax_Dots_b1 (L_syntax_Dots_l1 p1 f1) p1 v35 v36 = some r from H)
  unfold L_syntax_Dots_b1 at H
  refine At.sq K ?_
  refine At.region K K ?_
  refine In.run' 1 (k' := 1) rfl [(6, (.bool (decide (v36 < 4))))] K ?_
  refine In.fin K ?_
  refine At.sq K ?_
  refine At.cd K (o := (.tmp 6)) K (b := (decide (v36 < 4))) K (fun hb62 => ?_) (fun hb62 => ?_)
  ·have H := ct H hb62
   refine At.skip K ?_
   refine At.sq K ?_
   refine At.bk K (id := 1) K ?_
   refine At.sq K ?_
   refine At.region K K ?_
   refine In.run' 2 (k' := 2) rfl [(7, (.int .i64 v36)), (4, (.int .i64 v36))] K ?_
   refine In.fin K ?_
   refine At.region K K ?_
   refine In.run' 5 (k' := 5) rfl [(8, (.slice A33 (List.length v35) c34)), (9, (.int .u32 p1)), (10, (.int .i64 v36)), (11, (.int .i64 (IntKind.wrap .i64 (8 * v36)))), (12, (.int .i64 (IntKind.wrap .i64 (24 - (IntKind.wrap .i64 (8 * v36))))))] K ?_
   obtain ⟨hl63, H⟩ := chk_elim H
   refine In.step (k' := 6) rfl K ?_
   refine Step.shift (op := .shr) (T := 33) (T' := 3) (x := (.tmp 9)) (y := (.tmp 12)) (kx := .u32) (ky := .i64) (a := p1) (b := (IntKind.wrap .i64 (24 - (IntKind.wrap .i64 (8 * v36))))) (v := (.int .u32 (bShr .u32 p1 (IntKind.wrap .i64 (24 - (IntKind.wrap .i64 (8 * v36))))))) (d := (some 13)) (k := 5) K rfl K K (of_decide_eq_true hl63) rfl ?_
   refine In.run' 2 (k' := 8) rfl [(14, (.int .u8 (IntKind.wrap .u8 (bShr .u32 p1 (IntKind.wrap .i64 (24 - (IntKind.wrap .i64 (8 * v36)))))))), (15, (.int .i64 (IntKind.wrap .i64 (IntKind.wrap .u8 (bShr .u32 p1 (IntKind.wrap .i64 (24 - (IntKind.wrap .i64 (8 * v36)))))))))] K ?_
   obtain ⟨z64, hz65, H⟩ := bind_elim H
   refine In.step (k' := 9) rfl K ?_
   refine Step.callF (f := 56) (fo := (.func 56)) (xs := #[(.tmp 15)]) (tys := #[2]) (first := #[]) (captured := #[]) (d := (some 16)) (k := 8) K rfl K K Tryd.call56 (L_num_Decimal_walk  (IntKind.wrap .i64 (IntKind.wrap .u8 (bShr .u32 p1 (IntKind.wrap .i64 (24 - (IntKind.wrap .i64 (8 * v36))))))) w31 (laid_below hL (SP.keeps hs32)) z64 hz65) ?_
   rintro e w66 ⟨rfl, hs67⟩
   refine ⟨_, rfl, ?_⟩
   have hs69 : SP [] w0 w66 [rowT 9 eStr A33 c34 v35] := SP.call hs32 hs67
   clear hs67
   refine In.step (k' := 10) rfl K ?_
   refine Step.newSlice (e := eStr) (T := 95) (E := 9) (len := 1) (parts := #[(0, (.tmp 16))]) (cs := #[(.string ⟨List.toArray z64⟩)]) ([z64] : List (List UInt8)) (d := (some 17)) (k := 9) K rfl (fun _ => K) hs69 rfl rfl rfl rfl ?_
   intro g70 w71 (hs73 : SP [] w0 w71 [rowT 9 eStr A33 c34 v35, rowT 9 eStr (some ⟨g70, 0, none⟩) (List.length ([z64] : List (List UInt8))) ([z64] : List (List UInt8))])
   obtain ⟨hl74, H⟩ := app_elim H
   obtain ⟨l75, hyl75⟩ : ∃ y, v35 ++ ([z64] : List (List UInt8)) = y := ⟨_, rfl⟩
   rw [hyl75] at H
   refine In.step (k' := 11) rfl K ?_
   refine Step.append (e := eStr) (l := v35) (m := ([z64] : List (List UInt8))) (A := A33) (c := c34) (T := 95) (TX := 95) (E := 9) (b := 16) (s := (.tmp 8)) (x := (.tmp 17)) (i := 0) (vx := (.slice (some ⟨g70, 0, none⟩) (List.length ([z64] : List (List UInt8))) (List.length ([z64] : List (List UInt8))))) (d := (some 18)) (k := 10) K rfl K K K K rfl hs73 rfl (src_rdt (E := 9) K (rowT_rd (SP.get hs73 (i := 1) rfl))) hl74 ?_
   rw [hyl75]
   intro A76 c77 w78 (hs80 : SP [] w0 w78 [rowT 9 eStr A76 c77 l75, rowT 9 eStr (some ⟨g70, 0, none⟩) (List.length ([z64] : List (List UInt8))) ([z64] : List (List UInt8))])
   refine In.run' 1 (k' := 12) rfl [(3, (.slice A76 (List.length l75) c77))] K ?_
   refine In.fin K ?_
   refine At.region K K ?_
   refine In.run' 2 (k' := 2) rfl [(19, (.int .i64 (IntKind.wrap .i64 (v36 + 1)))), (5, (.int .i64 (IntKind.wrap .i64 (v36 + 1))))] K ?_
   refine In.fin K ?_
   exact ⟨l75, (IntKind.wrap .i64 (v36 + 1)), A76, c77, ⟨K, K, K, trivial⟩, SP.sel hs80 [0] rfl rfl, H⟩
  ·have H := cf H hb62
   refine At.exit K (id := 0) K ?_
   refine At.sq K ?_
   refine At.region K K ?_
   refine In.run' 1 (k' := 1) rfl [(20, (.slice A33 (List.length v35) c34))] K ?_
   obtain ⟨z81, hz82, H⟩ := bind_elim H
   refine In.step (k' := 2) rfl K ?_
   refine Step.callF (f := 59) (fo := (.func 59)) (xs := #[(.tmp 20), (.const (.string ⟨List.toArray ([46] : List UInt8)⟩))]) (tys := #[95, 9]) (first := #[]) (captured := #[]) (d := (some 21)) (k := 1) K rfl K K Tryd.call59 (L_strings_Join_walk A33 c34 v35 ([46] : List UInt8) w31 (rowT_rd (SP.get hs32 (i := 0) rfl)) z81 hz82) ?_
   rintro e w83 ⟨rfl, hs84⟩
   refine ⟨_, rfl, ?_⟩
   have hs86 : SP [] w0 w83 [rowT 9 eStr A33 c34 v35] := SP.call hs32 hs84
   clear hs84
   refine In.run' 1 (k' := 3) rfl [(2, (.string ⟨List.toArray z81⟩))] K ?_
   refine In.fin K ?_
   refine At.ret K ?_
   refine ⟨(.string ⟨List.toArray z81⟩), K, ?_⟩
   obtain rfl := some_elim H
   exact ⟨rfl, SP.sel hs86 [] rfl rfl⟩
 ·exact ⟨([] : List (List UInt8)), 0, none, 0, ⟨K, K, K, trivial⟩, SP.sel (SP.nilrow hs0 9 eStr) [0] rfl rfl, H⟩
/-! L_syntax_mask -/
def L_syntax_mask (p1 : Int) : Option (Int) :=
  ((chk (decide (0 ≤ (IntKind.wrap .i64 (32 - p1))))).bind fun _ => (some ((bShl .u32 4294967295 (IntKind.wrap .i64 (32 - p1))))))
set_option maxRecDepth 100000 in
set_option maxHeartbeats 4000000 in
theorem L_syntax_mask_walk  (p1 : Int) (w0 : World)  (r : (Int)) (H : L_syntax_mask p1 = some r) :
  Calls Tryd.prog 42 #[(.int .i64 p1)] w0 (fun e w' => e = .returned (.int .u32 r) ∧ SP [] w0 w' []) := by
 unfold L_syntax_mask at H
 refine calls_go (n := 6) Tryd.func42 K K K ?_
 have hs0 := SP.start [] w0
 refine At.sq K ?_
 refine At.region K K ?_
 refine In.run' 1 (k' := 1) rfl [(2, (.int .u32 0))] K ?_
 refine In.fin K ?_
 refine At.sq K ?_
 refine At.region K K ?_
 refine In.run' 2 (k' := 2) rfl [(3, (.int .i64 p1)), (4, (.int .i64 (IntKind.wrap .i64 (32 - p1))))] K ?_
 obtain ⟨hl2, H⟩ := chk_elim H
 refine In.step (k' := 3) rfl K ?_
 refine Step.shift (op := .shl) (T := 33) (T' := 3) (x := (.const (.int .u32 (4294967295)))) (y := (.tmp 4)) (kx := .u32) (ky := .i64) (a := 4294967295) (b := (IntKind.wrap .i64 (32 - p1))) (v := (.int .u32 (bShl .u32 4294967295 (IntKind.wrap .i64 (32 - p1))))) (d := (some 5)) (k := 2) K rfl K K (of_decide_eq_true hl2) rfl ?_
 refine In.run' 1 (k' := 4) rfl [(2, (.int .u32 (bShl .u32 4294967295 (IntKind.wrap .i64 (32 - p1)))))] K ?_
 refine In.fin K ?_
 refine At.ret K ?_
 refine ⟨(.int .u32 (bShl .u32 4294967295 (IntKind.wrap .i64 (32 - p1)))), K, ?_⟩
 obtain rfl := some_elim H
 exact ⟨rfl, SP.sel hs0 [] rfl rfl⟩
/-! L_syntax_right -/
def L_syntax_right_k1 (v52 : Bool) : Option (Bool) :=
  (some (v52))
def L_syntax_right (pAddr1 : Int) (pBits2 : Int) : Option (Bool) :=
  (cond (decide (pBits2 ≥ 0)) (cond (decide (pBits2 ≤ 32)) ((L_syntax_mask pBits2).bind fun z57 => (L_syntax_right_k1 ((bAndNot .u32 pAddr1 z57) == 0))) (L_syntax_right_k1 false)) (L_syntax_right_k1 false))
set_option maxRecDepth 100000 in
set_option maxHeartbeats 4000000 in
theorem L_syntax_right_walk  (pAddr1 : Int) (pBits2 : Int) (w0 : World)  (r : (Bool)) (H : L_syntax_right pAddr1 pBits2 = some r) :
  Calls Tryd.prog 41 #[(.agg #[(.int .u32 pAddr1), (.int .i64 pBits2)])] w0 (fun e w' => e = .returned (.bool r) ∧ SP [] w0 w' []) := by
 unfold L_syntax_right at H
 refine calls_go (n := 20) Tryd.func41 K K K ?_
 have hs0 := SP.start [] w0
 refine At.sq K ?_
 refine At.region K K ?_
 refine In.step (k' := 1) rfl K ?_
 refine Step.box (t := 51) (x := (.tmp 0)) (v := (.agg #[(.int .u32 pAddr1), (.int .i64 pBits2)])) (d := (some 1)) (k := 0) K rfl K hs0 ?_
 intro g3 w4 (hs6 : SP [] w0 w4 [boxE g3 51 #[(.int .u32 pAddr1), (.int .i64 pBits2)]])
 refine In.run' 1 (k' := 2) rfl [(2, (.bool false))] K ?_
 refine In.fin K ?_
 refine At.sq K ?_
 refine At.join (fun ρ w => ∃ (v52 : Bool), Known ρ [(2, (.bool v52))] ∧ SP [] w0 w [] ∧ L_syntax_right_k1 v52 = some r) ?_ ?_
 ·rcases Bool.eq_false_or_eq_true (decide (pBits2 ≥ 0)) with hb55 | hb55
  ·have H := ct H hb55
   rcases Bool.eq_false_or_eq_true (decide (pBits2 ≤ 32)) with hb56 | hb56
   ·have H := ct H hb56
    obtain ⟨z57, hz58, H⟩ := bind_elim H
    refine At.stages K K K K K [GEq (pt g3 1), GEq (.int .i64 pBits2), GEq (.bool (decide (pBits2 ≥ 0))), GEq (.bool (decide (pBits2 ≥ 0))), GEq (pt g3 1), GEq (.int .i64 pBits2), GEq (.bool (decide (pBits2 ≤ 32))), GEq (.bool (decide (pBits2 ≤ 32))), GEq (.bool (decide (pBits2 ≤ 32))), GEq (pt g3 0), GEq (.int .u32 pAddr1), GEq (pt g3 1), GEq (.int .i64 pBits2), GEq (.int .u32 z57), GEq (.int .u32 (bAndNot .u32 pAddr1 z57)), GEq (.bool ((bAndNot .u32 pAddr1 z57) == 0)), GEq (.bool ((bAndNot .u32 pAddr1 z57) == 0)), GEq (.bool ((bAndNot .u32 pAddr1 z57) == 0))] [13] [([], fun vs w => VL vs [] ∧ SP [] w0 w [boxE g3 51 #[(.int .u32 pAddr1), (.int .i64 pBits2)]]), ([13], fun vs w => VL vs [(.int .u32 z57)] ∧ SP [] w0 w [boxE g3 51 #[(.int .u32 pAddr1), (.int .i64 pBits2)]])] (N := 18) K ⟨K, Nat.zero_lt_succ _⟩ (show VL [] [] ∧ SP [] w0 w4.drew [boxE g3 51 #[(.int .u32 pAddr1), (.int .i64 pBits2)]] from ⟨trivial, SP.drew hs6⟩) ⟨⟨⟨⟨⟨⟨⟨⟨⟨⟨⟨⟨⟨⟨⟨⟨⟨⟨trivial, ?_⟩, ?_⟩, ?_⟩, ?_⟩, ?_⟩, ?_⟩, ?_⟩, ?_⟩, ?_⟩, ?_⟩, ?_⟩, ?_⟩, ?_⟩, ?_⟩, ?_⟩, ?_⟩, ?_⟩, ?_⟩ (last := 1) K ?_
    ·exact Owe.run K [(1, (pt g3 0))] ⟨gS K K, trivial⟩ (pt g3 1) (fun _ _ => K) rfl
    ·refine Owe.light K [0] K (all_cons ?_ all_nil)
     ·rintro ρ' w' hs hah ⟨hvl68, hs67⟩
      have hkn : Known ρ' [(3, (pt g3 1))] := ⟨hah 0 3 K, trivial⟩
      refine Step.known _ hkn ?_
      refine Step.load (t := 3) (x := (.tmp 3)) (g := g3) (off := 1) (i := 0) (v := (.int .i64 pBits2)) (d := (some 4)) (k := 1) K rfl K hs67 rfl K ?_
      exact ⟨rfl, _, updO_known hkn, rfl⟩
    ·exact Owe.run K [(4, (.int .i64 pBits2))] ⟨gA 1 K K, trivial⟩ (.bool (decide (pBits2 ≥ 0))) (fun _ _ => K) rfl
    ·exact Owe.run K [(5, (.bool (decide (pBits2 ≥ 0))))] ⟨gA 2 K K, trivial⟩ (.bool (decide (pBits2 ≥ 0))) (fun _ _ => K) rfl
    ·exact Owe.run K [(1, (pt g3 0)), (6, (.bool true))] ⟨gS K K, gB 3 K (decide (pBits2 ≥ 0)) K hb55, trivial⟩ (pt g3 1) (fun _ _ => K) rfl
    ·refine Owe.light K [0] K (all_cons ?_ all_nil)
     ·rintro ρ' w' hs hah ⟨hvl70, hs69⟩
      have e7 := hah 4 7 K
      have e6 := hah 3 6 K
      have hkn : Known ρ' [(7, (pt g3 1)), (6, (.bool true))] := ⟨e7, (Eq.trans e6 (congrArg Value.bool hb55)), trivial⟩
      refine Step.known _ hkn ?_
      refine Step.load (t := 3) (x := (.tmp 7)) (g := g3) (off := 1) (i := 0) (v := (.int .i64 pBits2)) (d := (some 8)) (k := 5) K rfl K hs69 rfl K ?_
      exact ⟨rfl, _, updO_known hkn, rfl⟩
    ·exact Owe.run K [(8, (.int .i64 pBits2)), (6, (.bool true))] ⟨gA 5 K K, gB 3 K (decide (pBits2 ≥ 0)) K hb55, trivial⟩ (.bool (decide (pBits2 ≤ 32))) (fun _ _ => K) rfl
    ·exact Owe.run K [(6, (.bool true)), (9, (.bool (decide (pBits2 ≤ 32))))] ⟨gB 3 K (decide (pBits2 ≥ 0)) K hb55, gA 6 K K, trivial⟩ (.bool (decide (pBits2 ≤ 32))) (fun _ _ => K) rfl
    ·exact Owe.run K [(10, (.bool (decide (pBits2 ≤ 32))))] ⟨gA 7 K K, trivial⟩ (.bool (decide (pBits2 ≤ 32))) (fun _ _ => K) rfl
    ·exact Owe.run K [(1, (pt g3 0)), (11, (.bool true))] ⟨gS K K, gB 8 K (decide (pBits2 ≤ 32)) K hb56, trivial⟩ (pt g3 0) (fun _ _ => K) rfl
    ·refine Owe.light K [0, 1] K (all_cons ?_ (all_cons ?_ all_nil))
     ·rintro ρ' w' hs hah ⟨hvl72, hs71⟩
      have e12 := hah 9 12 K
      have e11 := hah 8 11 K
      have hkn : Known ρ' [(12, (pt g3 0)), (11, (.bool true))] := ⟨e12, (Eq.trans e11 (congrArg Value.bool hb56)), trivial⟩
      refine Step.known _ hkn ?_
      refine Step.load (t := 33) (x := (.tmp 12)) (g := g3) (off := 0) (i := 0) (v := (.int .u32 pAddr1)) (d := (some 13)) (k := 10) K rfl K hs71 rfl K ?_
      exact ⟨rfl, _, updO_known hkn, rfl⟩
     ·rintro ρ' w' hs hah ⟨⟨q74, -⟩, hs73⟩
      have e12 := hah 9 12 K
      have e11 := hah 8 11 K
      have hkn : Known ρ' [(12, (pt g3 0)), (11, (.bool true))] := ⟨e12, (Eq.trans e11 (congrArg Value.bool hb56)), trivial⟩
      refine Step.known _ hkn ?_
      refine Step.load (t := 33) (x := (.tmp 12)) (g := g3) (off := 0) (i := 0) (v := (.int .u32 pAddr1)) (d := (some 13)) (k := 10) K rfl K hs73 rfl K ?_
      exact ⟨rfl, _, updO_known hkn, rfl⟩
    ·exact Owe.run K [(1, (pt g3 0)), (11, (.bool true))] ⟨gS K K, gB 8 K (decide (pBits2 ≤ 32)) K hb56, trivial⟩ (pt g3 1) (fun _ _ => K) rfl
    ·refine Owe.light K [0] K (all_cons ?_ all_nil)
     ·rintro ρ' w' hs hah ⟨hvl77, hs76⟩
      have e14 := hah 11 14 K
      have e11 := hah 8 11 K
      have hkn : Known ρ' [(14, (pt g3 1)), (11, (.bool true))] := ⟨e14, (Eq.trans e11 (congrArg Value.bool hb56)), trivial⟩
      refine Step.known _ hkn ?_
      refine Step.load (t := 3) (x := (.tmp 14)) (g := g3) (off := 1) (i := 0) (v := (.int .i64 pBits2)) (d := (some 15)) (k := 12) K rfl K hs76 rfl K ?_
      exact ⟨rfl, _, updO_known hkn, rfl⟩
    ·refine Owe.heavy K [(0, 1)] K (all_cons ⟨K, K, ?_⟩ all_nil)
     ·rintro ρ' w' hs hah ⟨hvl79, hs78⟩
      have e15 := hah 12 15 K
      have e11 := hah 8 11 K
      have hkn : Known ρ' [(15, (.int .i64 pBits2)), (11, (.bool true))] := ⟨e15, (Eq.trans e11 (congrArg Value.bool hb56)), trivial⟩
      refine Step.known _ hkn ?_
      refine Step.callF (f := 42) (fo := (.func 42)) (xs := #[(.tmp 15)]) (tys := #[3]) (first := #[]) (captured := #[]) (d := (some 16)) (k := 13) K rfl K K Tryd.call42 (L_syntax_mask_walk  pBits2 w'  z57 hz58) ?_
      rintro e w80 ⟨rfl, hs81⟩
      refine ⟨_, rfl, ?_⟩
      have hs83 : SP [] w0 w80 [boxE g3 51 #[(.int .u32 pAddr1), (.int .i64 pBits2)]] := SP.call hs78 hs81
      clear hs81
      refine ⟨_, updO_known hkn, rfl, ?_⟩
      exact (And.intro (And.intro rfl (trivial)) (hs83))
    ·exact Owe.run K [(13, (.int .u32 pAddr1)), (16, (.int .u32 z57)), (11, (.bool true))] ⟨gA 10 K K, gA 13 K K, gB 8 K (decide (pBits2 ≤ 32)) K hb56, trivial⟩ (.int .u32 (bAndNot .u32 pAddr1 z57)) (fun _ _ => K) rfl
    ·exact Owe.run K [(17, (.int .u32 (bAndNot .u32 pAddr1 z57))), (11, (.bool true))] ⟨gA 14 K K, gB 8 K (decide (pBits2 ≤ 32)) K hb56, trivial⟩ (.bool ((bAndNot .u32 pAddr1 z57) == 0)) (fun _ _ => K) rfl
    ·exact Owe.run K [(11, (.bool true)), (18, (.bool ((bAndNot .u32 pAddr1 z57) == 0)))] ⟨gB 8 K (decide (pBits2 ≤ 32)) K hb56, gA 15 K K, trivial⟩ (.bool ((bAndNot .u32 pAddr1 z57) == 0)) (fun _ _ => K) rfl
    ·exact Owe.run K [(19, (.bool ((bAndNot .u32 pAddr1 z57) == 0)))] ⟨gA 16 K K, trivial⟩ (.bool ((bAndNot .u32 pAddr1 z57) == 0)) (fun _ _ => K) rfl
    ·rintro ρ' w' hs hf ⟨⟨q85, -⟩, hs84⟩
     refine postKnown [(2, (.bool ((bAndNot .u32 pAddr1 z57) == 0)))] ⟨hf 17 2 K, trivial⟩ ?_
     obtain ⟨w87, hww87⟩ : ∃ x, w' = x := ⟨_, rfl⟩
     rw [hww87] at hs84 ⊢
     exact ⟨((bAndNot .u32 pAddr1 z57) == 0), ⟨K, trivial⟩, SP.sel hs84 [] rfl rfl, H⟩
   ·have H := cf H hb56
    refine At.stages K K K K K [GEq (pt g3 1), GEq (.int .i64 pBits2), GEq (.bool (decide (pBits2 ≥ 0))), GEq (.bool (decide (pBits2 ≥ 0))), GEq (pt g3 1), GEq (.int .i64 pBits2), GEq (.bool (decide (pBits2 ≤ 32))), GEq (.bool (decide (pBits2 ≤ 32))), GEq (.bool (decide (pBits2 ≤ 32))), GEq undef, GEq undef, GEq undef, GEq undef, GEq undef, GEq undef, GEq undef, GEq (.bool false), GEq (.bool false)] [] [([], fun vs w => VL vs [] ∧ SP [] w0 w [boxE g3 51 #[(.int .u32 pAddr1), (.int .i64 pBits2)]])] (N := 18) K ⟨K, Nat.zero_lt_succ _⟩ (show VL [] [] ∧ SP [] w0 w4.drew [boxE g3 51 #[(.int .u32 pAddr1), (.int .i64 pBits2)]] from ⟨trivial, SP.drew hs6⟩) ⟨⟨⟨⟨⟨⟨⟨⟨⟨⟨⟨⟨⟨⟨⟨⟨⟨⟨trivial, ?_⟩, ?_⟩, ?_⟩, ?_⟩, ?_⟩, ?_⟩, ?_⟩, ?_⟩, ?_⟩, ?_⟩, ?_⟩, ?_⟩, ?_⟩, ?_⟩, ?_⟩, ?_⟩, ?_⟩, ?_⟩ (last := 0) K ?_
    ·exact Owe.run K [(1, (pt g3 0))] ⟨gS K K, trivial⟩ (pt g3 1) (fun _ _ => K) rfl
    ·refine Owe.light K [0] K (all_cons ?_ all_nil)
     ·rintro ρ' w' hs hah ⟨hvl89, hs88⟩
      have hkn : Known ρ' [(3, (pt g3 1))] := ⟨hah 0 3 K, trivial⟩
      refine Step.known _ hkn ?_
      refine Step.load (t := 3) (x := (.tmp 3)) (g := g3) (off := 1) (i := 0) (v := (.int .i64 pBits2)) (d := (some 4)) (k := 1) K rfl K hs88 rfl K ?_
      exact ⟨rfl, _, updO_known hkn, rfl⟩
    ·exact Owe.run K [(4, (.int .i64 pBits2))] ⟨gA 1 K K, trivial⟩ (.bool (decide (pBits2 ≥ 0))) (fun _ _ => K) rfl
    ·exact Owe.run K [(5, (.bool (decide (pBits2 ≥ 0))))] ⟨gA 2 K K, trivial⟩ (.bool (decide (pBits2 ≥ 0))) (fun _ _ => K) rfl
    ·exact Owe.run K [(1, (pt g3 0)), (6, (.bool true))] ⟨gS K K, gB 3 K (decide (pBits2 ≥ 0)) K hb55, trivial⟩ (pt g3 1) (fun _ _ => K) rfl
    ·refine Owe.light K [0] K (all_cons ?_ all_nil)
     ·rintro ρ' w' hs hah ⟨hvl91, hs90⟩
      have e7 := hah 4 7 K
      have e6 := hah 3 6 K
      have hkn : Known ρ' [(7, (pt g3 1)), (6, (.bool true))] := ⟨e7, (Eq.trans e6 (congrArg Value.bool hb55)), trivial⟩
      refine Step.known _ hkn ?_
      refine Step.load (t := 3) (x := (.tmp 7)) (g := g3) (off := 1) (i := 0) (v := (.int .i64 pBits2)) (d := (some 8)) (k := 5) K rfl K hs90 rfl K ?_
      exact ⟨rfl, _, updO_known hkn, rfl⟩
    ·exact Owe.run K [(8, (.int .i64 pBits2)), (6, (.bool true))] ⟨gA 5 K K, gB 3 K (decide (pBits2 ≥ 0)) K hb55, trivial⟩ (.bool (decide (pBits2 ≤ 32))) (fun _ _ => K) rfl
    ·exact Owe.run K [(6, (.bool true)), (9, (.bool (decide (pBits2 ≤ 32))))] ⟨gB 3 K (decide (pBits2 ≥ 0)) K hb55, gA 6 K K, trivial⟩ (.bool (decide (pBits2 ≤ 32))) (fun _ _ => K) rfl
    ·exact Owe.run K [(10, (.bool (decide (pBits2 ≤ 32))))] ⟨gA 7 K K, trivial⟩ (.bool (decide (pBits2 ≤ 32))) (fun _ _ => K) rfl
    ·exact Owe.skip K [(11, (.bool false))] ⟨gB 8 K (decide (pBits2 ≤ 32)) K hb56, trivial⟩ (some 12) (fun _ => K) K rfl
    ·exact Owe.skip K [(11, (.bool false))] ⟨gB 8 K (decide (pBits2 ≤ 32)) K hb56, trivial⟩ (some 13) (fun _ => K) K rfl
    ·exact Owe.skip K [(11, (.bool false))] ⟨gB 8 K (decide (pBits2 ≤ 32)) K hb56, trivial⟩ (some 14) (fun _ => K) K rfl
    ·exact Owe.skip K [(11, (.bool false))] ⟨gB 8 K (decide (pBits2 ≤ 32)) K hb56, trivial⟩ (some 15) (fun _ => K) K rfl
    ·exact Owe.skip K [(11, (.bool false))] ⟨gB 8 K (decide (pBits2 ≤ 32)) K hb56, trivial⟩ (some 16) (fun _ => K) K rfl
    ·exact Owe.skip K [(11, (.bool false))] ⟨gB 8 K (decide (pBits2 ≤ 32)) K hb56, trivial⟩ (some 17) (fun _ => K) K rfl
    ·exact Owe.skip K [(11, (.bool false))] ⟨gB 8 K (decide (pBits2 ≤ 32)) K hb56, trivial⟩ (some 18) (fun _ => K) K rfl
    ·exact Owe.run K [(11, (.bool false)), (18, undef)] ⟨gB 8 K (decide (pBits2 ≤ 32)) K hb56, gA 15 K K, trivial⟩ (.bool false) (fun _ _ => K) rfl
    ·exact Owe.run K [(19, (.bool false))] ⟨gA 16 K K, trivial⟩ (.bool false) (fun _ _ => K) rfl
    ·rintro ρ' w' hs hf ⟨hvl93, hs92⟩
     refine postKnown [(2, (.bool false))] ⟨hf 17 2 K, trivial⟩ ?_
     obtain ⟨w94, hww94⟩ : ∃ x, w' = x := ⟨_, rfl⟩
     rw [hww94] at hs92 ⊢
     exact ⟨false, ⟨K, trivial⟩, SP.sel hs92 [] rfl rfl, H⟩
  ·have H := cf H hb55
   refine At.stages K K K K K [GEq (pt g3 1), GEq (.int .i64 pBits2), GEq (.bool (decide (pBits2 ≥ 0))), GEq (.bool (decide (pBits2 ≥ 0))), GEq undef, GEq undef, GEq undef, GEq (.bool false), GEq (.bool false), GEq undef, GEq undef, GEq undef, GEq undef, GEq undef, GEq undef, GEq undef, GEq (.bool false), GEq (.bool false)] [] [([], fun vs w => VL vs [] ∧ SP [] w0 w [boxE g3 51 #[(.int .u32 pAddr1), (.int .i64 pBits2)]])] (N := 18) K ⟨K, Nat.zero_lt_succ _⟩ (show VL [] [] ∧ SP [] w0 w4.drew [boxE g3 51 #[(.int .u32 pAddr1), (.int .i64 pBits2)]] from ⟨trivial, SP.drew hs6⟩) ⟨⟨⟨⟨⟨⟨⟨⟨⟨⟨⟨⟨⟨⟨⟨⟨⟨⟨trivial, ?_⟩, ?_⟩, ?_⟩, ?_⟩, ?_⟩, ?_⟩, ?_⟩, ?_⟩, ?_⟩, ?_⟩, ?_⟩, ?_⟩, ?_⟩, ?_⟩, ?_⟩, ?_⟩, ?_⟩, ?_⟩ (last := 0) K ?_
   ·exact Owe.run K [(1, (pt g3 0))] ⟨gS K K, trivial⟩ (pt g3 1) (fun _ _ => K) rfl
   ·refine Owe.light K [0] K (all_cons ?_ all_nil)
    ·rintro ρ' w' hs hah ⟨hvl96, hs95⟩
     have hkn : Known ρ' [(3, (pt g3 1))] := ⟨hah 0 3 K, trivial⟩
     refine Step.known _ hkn ?_
     refine Step.load (t := 3) (x := (.tmp 3)) (g := g3) (off := 1) (i := 0) (v := (.int .i64 pBits2)) (d := (some 4)) (k := 1) K rfl K hs95 rfl K ?_
     exact ⟨rfl, _, updO_known hkn, rfl⟩
   ·exact Owe.run K [(4, (.int .i64 pBits2))] ⟨gA 1 K K, trivial⟩ (.bool (decide (pBits2 ≥ 0))) (fun _ _ => K) rfl
   ·exact Owe.run K [(5, (.bool (decide (pBits2 ≥ 0))))] ⟨gA 2 K K, trivial⟩ (.bool (decide (pBits2 ≥ 0))) (fun _ _ => K) rfl
   ·exact Owe.skip K [(6, (.bool false))] ⟨gB 3 K (decide (pBits2 ≥ 0)) K hb55, trivial⟩ (some 7) (fun _ => K) K rfl
   ·exact Owe.skip K [(6, (.bool false))] ⟨gB 3 K (decide (pBits2 ≥ 0)) K hb55, trivial⟩ (some 8) (fun _ => K) K rfl
   ·exact Owe.skip K [(6, (.bool false))] ⟨gB 3 K (decide (pBits2 ≥ 0)) K hb55, trivial⟩ (some 9) (fun _ => K) K rfl
   ·exact Owe.run K [(6, (.bool false)), (9, undef)] ⟨gB 3 K (decide (pBits2 ≥ 0)) K hb55, gA 6 K K, trivial⟩ (.bool false) (fun _ _ => K) rfl
   ·exact Owe.run K [(10, (.bool false))] ⟨gA 7 K K, trivial⟩ (.bool false) (fun _ _ => K) rfl
   ·exact Owe.skip K [(11, (.bool false))] ⟨gA 8 K K, trivial⟩ (some 12) (fun _ => K) K rfl
   ·exact Owe.skip K [(11, (.bool false))] ⟨gA 8 K K, trivial⟩ (some 13) (fun _ => K) K rfl
   ·exact Owe.skip K [(11, (.bool false))] ⟨gA 8 K K, trivial⟩ (some 14) (fun _ => K) K rfl
   ·exact Owe.skip K [(11, (.bool false))] ⟨gA 8 K K, trivial⟩ (some 15) (fun _ => K) K rfl
   ·exact Owe.skip K [(11, (.bool false))] ⟨gA 8 K K, trivial⟩ (some 16) (fun _ => K) K rfl
   ·exact Owe.skip K [(11, (.bool false))] ⟨gA 8 K K, trivial⟩ (some 17) (fun _ => K) K rfl
   ·exact Owe.skip K [(11, (.bool false))] ⟨gA 8 K K, trivial⟩ (some 18) (fun _ => K) K rfl
   ·exact Owe.run K [(11, (.bool false)), (18, undef)] ⟨gA 8 K K, gA 15 K K, trivial⟩ (.bool false) (fun _ _ => K) rfl
   ·exact Owe.run K [(19, (.bool false))] ⟨gA 16 K K, trivial⟩ (.bool false) (fun _ _ => K) rfl
   ·rintro ρ' w' hs hf ⟨hvl98, hs97⟩
    refine postKnown [(2, (.bool false))] ⟨hf 17 2 K, trivial⟩ ?_
    obtain ⟨w99, hww99⟩ : ∃ x, w' = x := ⟨_, rfl⟩
    rw [hww99] at hs97 ⊢
    exact ⟨false, ⟨K, trivial⟩, SP.sel hs97 [] rfl rfl, H⟩
 ·rintro ρ w53 ⟨v52, hk, hs54, H⟩
  unfold L_syntax_right_k1 at H
  first | refine At.known [(2, (.bool v52))] hk ?_ | rw [← known_updL (l := [(2, (.bool v52))]) hk]
  refine At.ret K ?_
  refine ⟨(.bool v52), K, ?_⟩
  obtain rfl := some_elim H
  exact ⟨rfl, SP.sel hs54 [] rfl rfl⟩
/-! L_syntax_Slash -/
def L_syntax_Slash (pAddr1 : Int) (pBits2 : Int) : Option ((List UInt8)) :=
  ((L_syntax_right pAddr1 pBits2).bind fun z7 => (cond (!z7) (some (([] : List UInt8))) ((L_syntax_Dots pAddr1).bind fun z14 => ((app z14 ([47] : List UInt8)).bind fun l20 => ((L_num_Decimal pBits2).bind fun z22 => ((app l20 z22).bind fun l28 => (some (l28))))))))
set_option maxRecDepth 100000 in
set_option maxHeartbeats 4000000 in
theorem L_syntax_Slash_walk  (pAddr1 : Int) (pBits2 : Int) (w0 : World) (hL : LaidW w0)  (r : ((List UInt8))) (H : L_syntax_Slash pAddr1 pBits2 = some r) :
  Calls Tryd.prog 47 #[(.agg #[(.int .u32 pAddr1), (.int .i64 pBits2)])] w0 (fun e w' => e = .returned (.string ⟨List.toArray r⟩) ∧ SP [] w0 w' []) := by
 unfold L_syntax_Slash at H
 refine calls_go (n := 14) Tryd.func47 K K K ?_
 have hs0 := SP.start [] w0
 refine At.sq K ?_
 refine At.region K K ?_
 refine In.step (k' := 1) rfl K ?_
 refine Step.box (t := 51) (x := (.tmp 0)) (v := (.agg #[(.int .u32 pAddr1), (.int .i64 pBits2)])) (d := (some 1)) (k := 0) K rfl K hs0 ?_
 intro g3 w4 (hs6 : SP [] w0 w4 [boxE g3 51 #[(.int .u32 pAddr1), (.int .i64 pBits2)]])
 refine In.run' 1 (k' := 2) rfl [(2, (.string ⟨List.toArray ([] : List UInt8)⟩))] K ?_
 refine In.fin K ?_
 refine At.sq K ?_
 refine At.sq K ?_
 refine At.region K K ?_
 refine In.step (k' := 1) rfl K ?_
 refine Step.load (t := 51) (x := (.tmp 1)) (g := g3) (off := 0) (i := 0) (v := (.agg #[(.int .u32 pAddr1), (.int .i64 pBits2)])) (d := (some 3)) (k := 0) K rfl K hs6 rfl K ?_
 obtain ⟨z7, hz8, H⟩ := bind_elim H
 refine In.step (k' := 2) rfl K ?_
 refine Step.callF (f := 41) (fo := (.func 41)) (xs := #[(.tmp 3)]) (tys := #[51]) (first := #[]) (captured := #[]) (d := (some 4)) (k := 1) K rfl K K Tryd.call41 (L_syntax_right_walk  pAddr1 pBits2 w4  z7 hz8) ?_
 rintro e w9 ⟨rfl, hs10⟩
 refine ⟨_, rfl, ?_⟩
 have hs12 : SP [] w0 w9 [boxE g3 51 #[(.int .u32 pAddr1), (.int .i64 pBits2)]] := SP.call hs6 hs10
 clear hs10
 refine In.run' 1 (k' := 3) rfl [(5, (.bool (!z7)))] K ?_
 refine In.fin K ?_
 refine At.cd K (o := (.tmp 5)) K (b := (!z7)) K (fun hb13 => ?_) (fun hb13 => ?_)
 ·have H := ct H hb13
  refine At.sq K ?_
  refine At.region K K ?_
  refine In.run' 1 (k' := 1) rfl [(2, (.string ⟨List.toArray ([] : List UInt8)⟩))] K ?_
  refine In.fin K ?_
  refine At.ret K ?_
  refine ⟨(.string ⟨List.toArray ([] : List UInt8)⟩), K, ?_⟩
  obtain rfl := some_elim H
  exact ⟨rfl, SP.sel hs12 [] rfl rfl⟩
 ·have H := cf H hb13
  refine At.skip K ?_
  refine At.sq K ?_
  obtain ⟨z14, hz15, H⟩ := bind_elim H
  obtain ⟨hl21, H⟩ := app_elim H
  obtain ⟨l20, hyl20⟩ : ∃ y, z14 ++ ([47] : List UInt8) = y := ⟨_, rfl⟩
  rw [hyl20] at H
  obtain ⟨z22, hz23, H⟩ := bind_elim H
  obtain ⟨hl29, H⟩ := app_elim H
  obtain ⟨l28, hyl28⟩ : ∃ y, l20 ++ z22 = y := ⟨_, rfl⟩
  rw [hyl28] at H
  refine At.stages K K K K K [GEq (pt g3 0), GEq (.int .u32 pAddr1), GEq (.string ⟨List.toArray z14⟩), GEq (.string ⟨List.toArray l20⟩), GEq (pt g3 1), GEq (.int .i64 pBits2), GEq (.string ⟨List.toArray z22⟩), GEq (.string ⟨List.toArray l28⟩), GEq (.string ⟨List.toArray l28⟩)] [2, 6] [([], fun vs w => VL vs [] ∧ SP [] w0 w [boxE g3 51 #[(.int .u32 pAddr1), (.int .i64 pBits2)]]), ([2], fun vs w => VL vs [(.string ⟨List.toArray z14⟩)] ∧ SP [] w0 w [boxE g3 51 #[(.int .u32 pAddr1), (.int .i64 pBits2)]]), ([2, 6], fun vs w => VL vs [(.string ⟨List.toArray z14⟩), (.string ⟨List.toArray z22⟩)] ∧ SP [] w0 w [boxE g3 51 #[(.int .u32 pAddr1), (.int .i64 pBits2)]])] (N := 9) K ⟨K, Nat.zero_lt_succ _⟩ (show VL [] [] ∧ SP [] w0 w9.drew [boxE g3 51 #[(.int .u32 pAddr1), (.int .i64 pBits2)]] from ⟨trivial, SP.drew hs12⟩) ⟨⟨⟨⟨⟨⟨⟨⟨⟨trivial, ?_⟩, ?_⟩, ?_⟩, ?_⟩, ?_⟩, ?_⟩, ?_⟩, ?_⟩, ?_⟩ (last := 2) K ?_
  ·exact Owe.run K [(1, (pt g3 0))] ⟨gS K K, trivial⟩ (pt g3 0) (fun _ _ => K) rfl
  ·refine Owe.light K [0] K (all_cons ?_ all_nil)
   ·rintro ρ' w' hs hah ⟨hvl43, hs42⟩
    have hkn : Known ρ' [(6, (pt g3 0))] := ⟨hah 0 6 K, trivial⟩
    refine Step.known _ hkn ?_
    refine Step.load (t := 33) (x := (.tmp 6)) (g := g3) (off := 0) (i := 0) (v := (.int .u32 pAddr1)) (d := (some 7)) (k := 1) K rfl K hs42 rfl K ?_
    exact ⟨rfl, _, updO_known hkn, rfl⟩
  ·refine Owe.heavy K [(0, 1)] K (all_cons ⟨K, K, ?_⟩ all_nil)
   ·rintro ρ' w' hs hah ⟨hvl45, hs44⟩
    have hkn : Known ρ' [(7, (.int .u32 pAddr1))] := ⟨hah 1 7 K, trivial⟩
    refine Step.known _ hkn ?_
    refine Step.callF (f := 55) (fo := (.func 55)) (xs := #[(.tmp 7)]) (tys := #[33]) (first := #[]) (captured := #[]) (d := (some 8)) (k := 2) K rfl K K Tryd.call55 (L_syntax_Dots_walk  pAddr1 w' (laid_below hL (SP.keeps hs44)) z14 hz15) ?_
    rintro e w46 ⟨rfl, hs47⟩
    refine ⟨_, rfl, ?_⟩
    have hs49 : SP [] w0 w46 [boxE g3 51 #[(.int .u32 pAddr1), (.int .i64 pBits2)]] := SP.call hs44 hs47
    clear hs47
    refine ⟨_, updO_known hkn, rfl, ?_⟩
    exact (And.intro (And.intro rfl (trivial)) (hs49))
  ·refine Owe.light K [1, 2] K (all_cons ?_ (all_cons ?_ all_nil))
   ·rintro ρ' w' hs hah ⟨⟨q51, -⟩, hs50⟩
    have hkn : Known ρ' [(8, (.string ⟨List.toArray z14⟩))] := ⟨(valF_eq (h := 2) K).symm.trans q51, trivial⟩
    refine Step.known _ hkn ?_
    refine Step.strCat (T := 9) (T' := 9) (x := (.tmp 8)) (y := (.const (.string ⟨List.toArray ([47] : List UInt8)⟩))) (a := z14) (b := ([47] : List UInt8)) (d := (some 9)) (k := 3) K rfl K K hl21 ?_
    rw [hyl20]
    exact ⟨rfl, _, updO_known hkn, rfl⟩
   ·rintro ρ' w' hs hah ⟨⟨q54, q55, -⟩, hs53⟩
    have hkn : Known ρ' [(8, (.string ⟨List.toArray z14⟩))] := ⟨(valF_eq (h := 2) K).symm.trans q54, trivial⟩
    refine Step.known _ hkn ?_
    refine Step.strCat (T := 9) (T' := 9) (x := (.tmp 8)) (y := (.const (.string ⟨List.toArray ([47] : List UInt8)⟩))) (a := z14) (b := ([47] : List UInt8)) (d := (some 9)) (k := 3) K rfl K K hl21 ?_
    rw [hyl20]
    exact ⟨rfl, _, updO_known hkn, rfl⟩
  ·exact Owe.run K [(1, (pt g3 0))] ⟨gS K K, trivial⟩ (pt g3 1) (fun _ _ => K) rfl
  ·refine Owe.light K [0, 1] K (all_cons ?_ (all_cons ?_ all_nil))
   ·rintro ρ' w' hs hah ⟨hvl58, hs57⟩
    have hkn : Known ρ' [(10, (pt g3 1))] := ⟨hah 4 10 K, trivial⟩
    refine Step.known _ hkn ?_
    refine Step.load (t := 3) (x := (.tmp 10)) (g := g3) (off := 1) (i := 0) (v := (.int .i64 pBits2)) (d := (some 11)) (k := 5) K rfl K hs57 rfl K ?_
    exact ⟨rfl, _, updO_known hkn, rfl⟩
   ·rintro ρ' w' hs hah ⟨⟨q60, -⟩, hs59⟩
    have hkn : Known ρ' [(10, (pt g3 1))] := ⟨hah 4 10 K, trivial⟩
    refine Step.known _ hkn ?_
    refine Step.load (t := 3) (x := (.tmp 10)) (g := g3) (off := 1) (i := 0) (v := (.int .i64 pBits2)) (d := (some 11)) (k := 5) K rfl K hs59 rfl K ?_
    exact ⟨rfl, _, updO_known hkn, rfl⟩
  ·refine Owe.heavy K [(1, 2)] K (all_cons ⟨K, K, ?_⟩ all_nil)
   ·rintro ρ' w' hs hah ⟨⟨q63, -⟩, hs62⟩
    have hkn : Known ρ' [(11, (.int .i64 pBits2))] := ⟨hah 5 11 K, trivial⟩
    refine Step.known _ hkn ?_
    refine Step.callF (f := 56) (fo := (.func 56)) (xs := #[(.tmp 11)]) (tys := #[2]) (first := #[]) (captured := #[]) (d := (some 12)) (k := 6) K rfl K K Tryd.call56 (L_num_Decimal_walk  pBits2 w' (laid_below hL (SP.keeps hs62)) z22 hz23) ?_
    rintro e w65 ⟨rfl, hs66⟩
    refine ⟨_, rfl, ?_⟩
    have hs68 : SP [] w0 w65 [boxE g3 51 #[(.int .u32 pAddr1), (.int .i64 pBits2)]] := SP.call hs62 hs66
    clear hs66
    refine ⟨_, updO_known hkn, rfl, ?_⟩
    exact (And.intro (And.intro q63 (And.intro rfl (trivial))) (hs68))
  ·refine Owe.light K [2] K (all_cons ?_ all_nil)
   ·rintro ρ' w' hs hah ⟨⟨q70, q71, -⟩, hs69⟩
    have hkn : Known ρ' [(9, (.string ⟨List.toArray l20⟩)), (12, (.string ⟨List.toArray z22⟩))] := ⟨hah 3 9 K, (valF_eq (h := 6) K).symm.trans q71, trivial⟩
    refine Step.known _ hkn ?_
    refine Step.strCat (T := 9) (T' := 9) (x := (.tmp 9)) (y := (.tmp 12)) (a := l20) (b := z22) (d := (some 13)) (k := 7) K rfl K K hl29 ?_
    rw [hyl28]
    exact ⟨rfl, _, updO_known hkn, rfl⟩
  ·exact Owe.run K [(13, (.string ⟨List.toArray l28⟩))] ⟨gA 7 K K, trivial⟩ (.string ⟨List.toArray l28⟩) (fun _ _ => K) rfl
  ·rintro ρ' w' hs hf ⟨⟨q74, q75, -⟩, hs73⟩
   refine postKnown [(2, (.string ⟨List.toArray l28⟩))] ⟨hf 8 2 K, trivial⟩ ?_
   obtain ⟨w77, hww77⟩ : ∃ x, w' = x := ⟨_, rfl⟩
   rw [hww77] at hs73 ⊢
   refine At.ret K ?_
   refine ⟨(.string ⟨List.toArray l28⟩), K, ?_⟩
   obtain rfl := some_elim H
   exact ⟨rfl, SP.sel hs73 [] rfl rfl⟩
/-! L_syntax_In -/
def L_syntax_In_k1 (v79 : Bool) : Option (Bool) :=
  (some (v79))
def L_syntax_In (pAddr1 : Int) (pBits2 : Int) (p3 : Int) : Option (Bool) :=
  ((L_syntax_right pAddr1 pBits2).bind fun z82 => (cond z82 ((L_syntax_mask pBits2).bind fun z89 => (L_syntax_In_k1 ((bAnd .u32 p3 z89) == pAddr1))) (L_syntax_In_k1 false)))
set_option maxRecDepth 100000 in
set_option maxHeartbeats 4000000 in
theorem L_syntax_In_walk  (pAddr1 : Int) (pBits2 : Int) (p3 : Int) (w0 : World)  (r : (Bool)) (H : L_syntax_In pAddr1 pBits2 p3 = some r) :
  Calls Tryd.prog 28 #[(.agg #[(.int .u32 pAddr1), (.int .i64 pBits2)]), (.int .u32 p3)] w0 (fun e w' => e = .returned (.bool r) ∧ SP [] w0 w' []) := by
 unfold L_syntax_In at H
 refine calls_go (n := 17) Tryd.func28 K K K ?_
 have hs0 := SP.start [] w0
 refine At.sq K ?_
 refine At.region K K ?_
 refine In.step (k' := 1) rfl K ?_
 refine Step.box (t := 51) (x := (.tmp 0)) (v := (.agg #[(.int .u32 pAddr1), (.int .i64 pBits2)])) (d := (some 2)) (k := 0) K rfl K hs0 ?_
 intro g4 w5 (hs7 : SP [] w0 w5 [boxE g4 51 #[(.int .u32 pAddr1), (.int .i64 pBits2)]])
 refine In.run' 1 (k' := 2) rfl [(4, (.bool false))] K ?_
 refine In.fin K ?_
 refine At.sq K ?_
 refine At.join (fun ρ w => ∃ (v79 : Bool), Known ρ [(4, (.bool v79))] ∧ SP [] w0 w [] ∧ L_syntax_In_k1 v79 = some r) ?_ ?_
 ·obtain ⟨z82, hz83, H⟩ := bind_elim H
  rcases Bool.eq_false_or_eq_true z82 with hb88 | hb88
  ·have H := ct H hb88
   obtain ⟨z89, hz90, H⟩ := bind_elim H
   refine At.stages K K K K K [GEq (.agg #[(.int .u32 pAddr1), (.int .i64 pBits2)]), GEq (.bool z82), GEq (.bool z82), GEq (.int .u32 p3), GEq (pt g4 1), GEq (.int .i64 pBits2), GEq (.int .u32 z89), GEq (.int .u32 (bAnd .u32 p3 z89)), GEq (pt g4 0), GEq (.int .u32 pAddr1), GEq (.bool ((bAnd .u32 p3 z89) == pAddr1)), GEq (.bool ((bAnd .u32 p3 z89) == pAddr1)), GEq (.bool ((bAnd .u32 p3 z89) == pAddr1))] [1, 6] [([], fun vs w => VL vs [] ∧ SP [] w0 w [boxE g4 51 #[(.int .u32 pAddr1), (.int .i64 pBits2)]]), ([1], fun vs w => VL vs [(.bool z82)] ∧ SP [] w0 w [boxE g4 51 #[(.int .u32 pAddr1), (.int .i64 pBits2)]]), ([1, 6], fun vs w => VL vs [(.bool z82), (.int .u32 z89)] ∧ SP [] w0 w [boxE g4 51 #[(.int .u32 pAddr1), (.int .i64 pBits2)]])] (N := 13) K ⟨K, Nat.zero_lt_succ _⟩ (show VL [] [] ∧ SP [] w0 w5.drew [boxE g4 51 #[(.int .u32 pAddr1), (.int .i64 pBits2)]] from ⟨trivial, SP.drew hs7⟩) ⟨⟨⟨⟨⟨⟨⟨⟨⟨⟨⟨⟨⟨trivial, ?_⟩, ?_⟩, ?_⟩, ?_⟩, ?_⟩, ?_⟩, ?_⟩, ?_⟩, ?_⟩, ?_⟩, ?_⟩, ?_⟩, ?_⟩ (last := 2) K ?_
   ·refine Owe.light K [0] K (all_cons ?_ all_nil)
    ·rintro ρ' w' hs hah ⟨hvl108, hs107⟩
     have hkn : Known ρ' [(2, (pt g4 0))] := ⟨(hs 2 K).trans K, trivial⟩
     refine Step.known _ hkn ?_
     refine Step.load (t := 51) (x := (.tmp 2)) (g := g4) (off := 0) (i := 0) (v := (.agg #[(.int .u32 pAddr1), (.int .i64 pBits2)])) (d := (some 5)) (k := 0) K rfl K hs107 rfl K ?_
     exact ⟨rfl, _, updO_known hkn, rfl⟩
   ·refine Owe.heavy K [(0, 1)] K (all_cons ⟨K, K, ?_⟩ all_nil)
    ·rintro ρ' w' hs hah ⟨hvl110, hs109⟩
     have hkn : Known ρ' [(5, (.agg #[(.int .u32 pAddr1), (.int .i64 pBits2)]))] := ⟨hah 0 5 K, trivial⟩
     refine Step.known _ hkn ?_
     refine Step.callF (f := 41) (fo := (.func 41)) (xs := #[(.tmp 5)]) (tys := #[51]) (first := #[]) (captured := #[]) (d := (some 6)) (k := 1) K rfl K K Tryd.call41 (L_syntax_right_walk  pAddr1 pBits2 w'  z82 hz83) ?_
     rintro e w111 ⟨rfl, hs112⟩
     refine ⟨_, rfl, ?_⟩
     have hs114 : SP [] w0 w111 [boxE g4 51 #[(.int .u32 pAddr1), (.int .i64 pBits2)]] := SP.call hs109 hs112
     clear hs112
     refine ⟨_, updO_known hkn, rfl, ?_⟩
     exact (And.intro (And.intro rfl (trivial)) (hs114))
   ·exact Owe.run K [(6, (.bool z82))] ⟨gA 1 K K, trivial⟩ (.bool z82) (fun _ _ => K) rfl
   ·exact Owe.run K [(1, (.int .u32 p3)), (7, (.bool true))] ⟨gS K K, gB 2 K z82 K hb88, trivial⟩ (.int .u32 p3) (fun _ _ => K) rfl
   ·exact Owe.run K [(2, (pt g4 0)), (7, (.bool true))] ⟨gS K K, gB 2 K z82 K hb88, trivial⟩ (pt g4 1) (fun _ _ => K) rfl
   ·refine Owe.light K [1] K (all_cons ?_ all_nil)
    ·rintro ρ' w' hs hah ⟨⟨q116, -⟩, hs115⟩
     have e9 := hah 4 9 K
     have e7 := hah 2 7 K
     have hkn : Known ρ' [(9, (pt g4 1)), (7, (.bool true))] := ⟨e9, (Eq.trans e7 (congrArg Value.bool hb88)), trivial⟩
     refine Step.known _ hkn ?_
     refine Step.load (t := 3) (x := (.tmp 9)) (g := g4) (off := 1) (i := 0) (v := (.int .i64 pBits2)) (d := (some 10)) (k := 5) K rfl K hs115 rfl K ?_
     exact ⟨rfl, _, updO_known hkn, rfl⟩
   ·refine Owe.heavy K [(1, 2)] K (all_cons ⟨K, K, ?_⟩ all_nil)
    ·rintro ρ' w' hs hah ⟨⟨q119, -⟩, hs118⟩
     have e10 := hah 5 10 K
     have e7 := hah 2 7 K
     have hkn : Known ρ' [(10, (.int .i64 pBits2)), (7, (.bool true))] := ⟨e10, (Eq.trans e7 (congrArg Value.bool hb88)), trivial⟩
     refine Step.known _ hkn ?_
     refine Step.callF (f := 42) (fo := (.func 42)) (xs := #[(.tmp 10)]) (tys := #[3]) (first := #[]) (captured := #[]) (d := (some 11)) (k := 6) K rfl K K Tryd.call42 (L_syntax_mask_walk  pBits2 w'  z89 hz90) ?_
     rintro e w121 ⟨rfl, hs122⟩
     refine ⟨_, rfl, ?_⟩
     have hs124 : SP [] w0 w121 [boxE g4 51 #[(.int .u32 pAddr1), (.int .i64 pBits2)]] := SP.call hs118 hs122
     clear hs122
     refine ⟨_, updO_known hkn, rfl, ?_⟩
     exact (And.intro (And.intro q119 (And.intro rfl (trivial))) (hs124))
   ·exact Owe.run K [(8, (.int .u32 p3)), (11, (.int .u32 z89)), (7, (.bool true))] ⟨gA 3 K K, gA 6 K K, gB 2 K z82 K hb88, trivial⟩ (.int .u32 (bAnd .u32 p3 z89)) (fun _ _ => K) rfl
   ·exact Owe.run K [(2, (pt g4 0)), (7, (.bool true))] ⟨gS K K, gB 2 K z82 K hb88, trivial⟩ (pt g4 0) (fun _ _ => K) rfl
   ·refine Owe.light K [1, 2] K (all_cons ?_ (all_cons ?_ all_nil))
    ·rintro ρ' w' hs hah ⟨⟨q126, -⟩, hs125⟩
     have e13 := hah 8 13 K
     have e7 := hah 2 7 K
     have hkn : Known ρ' [(13, (pt g4 0)), (7, (.bool true))] := ⟨e13, (Eq.trans e7 (congrArg Value.bool hb88)), trivial⟩
     refine Step.known _ hkn ?_
     refine Step.load (t := 33) (x := (.tmp 13)) (g := g4) (off := 0) (i := 0) (v := (.int .u32 pAddr1)) (d := (some 14)) (k := 9) K rfl K hs125 rfl K ?_
     exact ⟨rfl, _, updO_known hkn, rfl⟩
    ·rintro ρ' w' hs hah ⟨⟨q129, q130, -⟩, hs128⟩
     have e13 := hah 8 13 K
     have e7 := hah 2 7 K
     have hkn : Known ρ' [(13, (pt g4 0)), (7, (.bool true))] := ⟨e13, (Eq.trans e7 (congrArg Value.bool hb88)), trivial⟩
     refine Step.known _ hkn ?_
     refine Step.load (t := 33) (x := (.tmp 13)) (g := g4) (off := 0) (i := 0) (v := (.int .u32 pAddr1)) (d := (some 14)) (k := 9) K rfl K hs128 rfl K ?_
     exact ⟨rfl, _, updO_known hkn, rfl⟩
   ·exact Owe.run K [(12, (.int .u32 (bAnd .u32 p3 z89))), (14, (.int .u32 pAddr1)), (7, (.bool true))] ⟨gA 7 K K, gA 9 K K, gB 2 K z82 K hb88, trivial⟩ (.bool ((bAnd .u32 p3 z89) == pAddr1)) (fun _ _ => K) rfl
   ·exact Owe.run K [(7, (.bool true)), (15, (.bool ((bAnd .u32 p3 z89) == pAddr1)))] ⟨gB 2 K z82 K hb88, gA 10 K K, trivial⟩ (.bool ((bAnd .u32 p3 z89) == pAddr1)) (fun _ _ => K) rfl
   ·exact Owe.run K [(16, (.bool ((bAnd .u32 p3 z89) == pAddr1)))] ⟨gA 11 K K, trivial⟩ (.bool ((bAnd .u32 p3 z89) == pAddr1)) (fun _ _ => K) rfl
   ·rintro ρ' w' hs hf ⟨⟨q133, q134, -⟩, hs132⟩
    refine postKnown [(4, (.bool ((bAnd .u32 p3 z89) == pAddr1)))] ⟨hf 12 4 K, trivial⟩ ?_
    obtain ⟨w136, hww136⟩ : ∃ x, w' = x := ⟨_, rfl⟩
    rw [hww136] at hs132 ⊢
    exact ⟨((bAnd .u32 p3 z89) == pAddr1), ⟨K, trivial⟩, SP.sel hs132 [] rfl rfl, H⟩
  ·have H := cf H hb88
   refine At.stages K K K K K [GEq (.agg #[(.int .u32 pAddr1), (.int .i64 pBits2)]), GEq (.bool z82), GEq (.bool z82), GEq undef, GEq undef, GEq undef, GEq undef, GEq undef, GEq undef, GEq undef, GEq undef, GEq (.bool false), GEq (.bool false)] [1] [([], fun vs w => VL vs [] ∧ SP [] w0 w [boxE g4 51 #[(.int .u32 pAddr1), (.int .i64 pBits2)]]), ([1], fun vs w => VL vs [(.bool z82)] ∧ SP [] w0 w [boxE g4 51 #[(.int .u32 pAddr1), (.int .i64 pBits2)]])] (N := 13) K ⟨K, Nat.zero_lt_succ _⟩ (show VL [] [] ∧ SP [] w0 w5.drew [boxE g4 51 #[(.int .u32 pAddr1), (.int .i64 pBits2)]] from ⟨trivial, SP.drew hs7⟩) ⟨⟨⟨⟨⟨⟨⟨⟨⟨⟨⟨⟨⟨trivial, ?_⟩, ?_⟩, ?_⟩, ?_⟩, ?_⟩, ?_⟩, ?_⟩, ?_⟩, ?_⟩, ?_⟩, ?_⟩, ?_⟩, ?_⟩ (last := 1) K ?_
   ·refine Owe.light K [0] K (all_cons ?_ all_nil)
    ·rintro ρ' w' hs hah ⟨hvl142, hs141⟩
     have hkn : Known ρ' [(2, (pt g4 0))] := ⟨(hs 2 K).trans K, trivial⟩
     refine Step.known _ hkn ?_
     refine Step.load (t := 51) (x := (.tmp 2)) (g := g4) (off := 0) (i := 0) (v := (.agg #[(.int .u32 pAddr1), (.int .i64 pBits2)])) (d := (some 5)) (k := 0) K rfl K hs141 rfl K ?_
     exact ⟨rfl, _, updO_known hkn, rfl⟩
   ·refine Owe.heavy K [(0, 1)] K (all_cons ⟨K, K, ?_⟩ all_nil)
    ·rintro ρ' w' hs hah ⟨hvl144, hs143⟩
     have hkn : Known ρ' [(5, (.agg #[(.int .u32 pAddr1), (.int .i64 pBits2)]))] := ⟨hah 0 5 K, trivial⟩
     refine Step.known _ hkn ?_
     refine Step.callF (f := 41) (fo := (.func 41)) (xs := #[(.tmp 5)]) (tys := #[51]) (first := #[]) (captured := #[]) (d := (some 6)) (k := 1) K rfl K K Tryd.call41 (L_syntax_right_walk  pAddr1 pBits2 w'  z82 hz83) ?_
     rintro e w145 ⟨rfl, hs146⟩
     refine ⟨_, rfl, ?_⟩
     have hs148 : SP [] w0 w145 [boxE g4 51 #[(.int .u32 pAddr1), (.int .i64 pBits2)]] := SP.call hs143 hs146
     clear hs146
     refine ⟨_, updO_known hkn, rfl, ?_⟩
     exact (And.intro (And.intro rfl (trivial)) (hs148))
   ·exact Owe.run K [(6, (.bool z82))] ⟨gA 1 K K, trivial⟩ (.bool z82) (fun _ _ => K) rfl
   ·exact Owe.skip K [(7, (.bool false))] ⟨gB 2 K z82 K hb88, trivial⟩ (some 8) (fun _ => K) K rfl
   ·exact Owe.skip K [(7, (.bool false))] ⟨gB 2 K z82 K hb88, trivial⟩ (some 9) (fun _ => K) K rfl
   ·exact Owe.skip K [(7, (.bool false))] ⟨gB 2 K z82 K hb88, trivial⟩ (some 10) (fun _ => K) K rfl
   ·exact Owe.skip K [(7, (.bool false))] ⟨gB 2 K z82 K hb88, trivial⟩ (some 11) (fun _ => K) K rfl
   ·exact Owe.skip K [(7, (.bool false))] ⟨gB 2 K z82 K hb88, trivial⟩ (some 12) (fun _ => K) K rfl
   ·exact Owe.skip K [(7, (.bool false))] ⟨gB 2 K z82 K hb88, trivial⟩ (some 13) (fun _ => K) K rfl
   ·exact Owe.skip K [(7, (.bool false))] ⟨gB 2 K z82 K hb88, trivial⟩ (some 14) (fun _ => K) K rfl
   ·exact Owe.skip K [(7, (.bool false))] ⟨gB 2 K z82 K hb88, trivial⟩ (some 15) (fun _ => K) K rfl
   ·exact Owe.run K [(7, (.bool false)), (15, undef)] ⟨gB 2 K z82 K hb88, gA 10 K K, trivial⟩ (.bool false) (fun _ _ => K) rfl
   ·exact Owe.run K [(16, (.bool false))] ⟨gA 11 K K, trivial⟩ (.bool false) (fun _ _ => K) rfl
   ·rintro ρ' w' hs hf ⟨⟨q150, -⟩, hs149⟩
    refine postKnown [(4, (.bool false))] ⟨hf 12 4 K, trivial⟩ ?_
    obtain ⟨w152, hww152⟩ : ∃ x, w' = x := ⟨_, rfl⟩
    rw [hww152] at hs149 ⊢
    exact ⟨false, ⟨K, trivial⟩, SP.sel hs149 [] rfl rfl, H⟩
 ·rintro ρ w80 ⟨v79, hk, hs81, H⟩
  unfold L_syntax_In_k1 at H
  first | refine At.known [(4, (.bool v79))] hk ?_ | rw [← known_updL (l := [(4, (.bool v79))]) hk]
  refine At.ret K ?_
  refine ⟨(.bool v79), K, ?_⟩
  obtain rfl := some_elim H
  exact ⟨rfl, SP.sel hs81 [] rfl rfl⟩
end Go.Proofs.YtfffjaijflbeaaaDoor
