/- LIFTED BY PROGRAM (tools/lift.py): what functions compute, and that they do. -/
import Derived.Test.YtfffjaijflbeaaaDoorLR1d
namespace Go.Proofs.YtfffjaijflbeaaaDoor
set_option linter.unusedSimpArgs false
set_option linter.unusedVariables false
open Go.RowKit

/-! L_subwayref04_Name -/
def L_subwayref04_Name_k9 (rec7 : Int → Option (Bool)) (v36 : Int) (v83 : Bool) : Option (Bool) :=
  (cond v83 (some (false)) (rec7 (IntKind.wrap .i64 (v36 + 1))))
def L_subwayref04_Name_k8 (rec7 : Int → Option (Bool)) (v36 : Int) (x69 : UInt8) (v75 : Bool) : Option (Bool) :=
  (cond (!v75) (cond (decide (((x69).toNat : Int) < 97)) (cond (decide (((x69).toNat : Int) < 48)) (L_subwayref04_Name_k9 rec7 v36 true) (L_subwayref04_Name_k9 rec7 v36 (decide (((x69).toNat : Int) > 57)))) (cond (decide (((x69).toNat : Int) > 122)) (cond (decide (((x69).toNat : Int) < 48)) (L_subwayref04_Name_k9 rec7 v36 true) (L_subwayref04_Name_k9 rec7 v36 (decide (((x69).toNat : Int) > 57)))) (L_subwayref04_Name_k9 rec7 v36 false))) (L_subwayref04_Name_k9 rec7 v36 false))
def L_subwayref04_Name_k10 (rec7 : Int → Option (Bool)) (v95 : Bool) : Option (Bool) :=
  (some (v95))
def L_subwayref04_Name_b4 (rec7 : Int → Option (Bool)) (p1 : (List UInt8)) (v36 : Int) : Option (Bool) :=
  (cond (decide (v36 < ((List.length p1 : Nat) : Int))) ((idx p1 v36).bind fun x69 => (cond (((x69).toNat : Int) == 45) (cond (decide (v36 > 0)) (L_subwayref04_Name_k8 rec7 v36 x69 (decide (v36 < (IntKind.wrap .i64 (((List.length p1 : Nat) : Int) - 1))))) (L_subwayref04_Name_k8 rec7 v36 x69 false)) (L_subwayref04_Name_k8 rec7 v36 x69 false))) (cond (decide (((List.length p1 : Nat) : Int) ≥ 1)) (L_subwayref04_Name_k10 rec7 (decide (((List.length p1 : Nat) : Int) ≤ 20))) (L_subwayref04_Name_k10 rec7 false)))
def L_subwayref04_Name_l4 (p1 : (List UInt8)) : Nat → Int → Option (Bool)
  | 0, _ => none
  | f + 1, v36 => L_subwayref04_Name_b4  (L_subwayref04_Name_l4 p1 f) p1 v36
def L_subwayref04_Name (p1 : (List UInt8)) : Option (Bool) :=
  (L_subwayref04_Name_l4 p1 fuel 0)
set_option maxRecDepth 100000 in
set_option maxHeartbeats 4000000 in
theorem L_subwayref04_Name_walk  (p1 : (List UInt8)) (w0 : World)  (r : (Bool)) (H : L_subwayref04_Name p1 = some r) :
  Calls Tryd.prog 54 #[(.string ⟨List.toArray p1⟩)] w0 (fun e w' => e = .returned (.bool r) ∧ SP [] w0 w' []) := by
 unfold L_subwayref04_Name at H
 refine calls_go (n := 54) Tryd.func54 K K K ?_
 have hs0 := SP.start [] w0
 refine At.sq K ?_
 refine At.region K K ?_
 refine In.run' 1 (k' := 1) rfl [(2, (.bool false))] K ?_
 refine In.fin K ?_
 refine At.sq K ?_
 refine At.sq K ?_
 refine At.region K K ?_
 refine In.run' 1 (k' := 1) rfl [(3, (.int .i64 0))] K ?_
 refine In.fin K ?_
 refine At.bk K (id := 0) K ?_
 refine At.lp K (fun f7 ρ w => ∃ (v36 : Int), Known ρ [(0, (.string ⟨List.toArray p1⟩)), (3, (.int .i64 v36))] ∧ SP [] w0 w [] ∧ L_subwayref04_Name_l4 p1 f7 v36 = some r) (by rintro ρ w ⟨v36, hk, hs, H⟩; cases H) ?_ fuel ?_
 ·rintro f7 ρ w34 ⟨v36, hk, hs35, H⟩
  refine At.known [(0, (.string ⟨List.toArray p1⟩)), (3, (.int .i64 v36))] hk ?_
  replace H := (show L_subwayref04_Name_b4 (L_subwayref04_Name_l4 p1 f7) p1 v36 = some r from H)
  unfold L_subwayref04_Name_b4 at H
  refine At.sq K ?_
  refine At.sq K ?_
  refine At.region K K ?_
  refine In.run' 4 (k' := 4) rfl [(6, (.int .i64 v36)), (7, (.string ⟨List.toArray p1⟩)), (8, (.int .i64 ((List.length p1 : Nat) : Int))), (9, (.bool (decide (v36 < ((List.length p1 : Nat) : Int)))))] K ?_
  refine In.fin K ?_
  refine At.cd K (o := (.tmp 9)) K (b := (decide (v36 < ((List.length p1 : Nat) : Int)))) K (fun hb68 => ?_) (fun hb68 => ?_)
  ·have H := ct H hb68
   refine At.skip K ?_
   refine At.sq K ?_
   refine At.bk K (id := 1) K ?_
   refine At.sq K ?_
   refine At.region K K ?_
   refine In.run' 2 (k' := 2) rfl [(12, (.string ⟨List.toArray p1⟩)), (13, (.int .i64 v36))] K ?_
   obtain ⟨x69, hp70, hq71, hx72, H⟩ := idx_elim H
   refine In.step (k' := 3) rfl K ?_
   refine Step.strIdx (a := p1) (u := x69) (T := 9) (x := (.tmp 12)) (ix := (.tmp 13)) (ki := .i64) (iz := v36) (d := (some 14)) (k := 2) K rfl K K K hp70 hx72 ?_
   refine In.run' 1 (k' := 4) rfl [(4, (.int .u8 ((x69).toNat : Int)))] K ?_
   refine In.fin K ?_
   refine At.sq K ?_
   refine At.join (fun ρ w => ∃ (v75 : Bool), Known ρ [(0, (.string ⟨List.toArray p1⟩)), (3, (.int .i64 v36)), (4, (.int .u8 ((x69).toNat : Int))), (5, (.bool v75))] ∧ SP [] w0 w [] ∧ L_subwayref04_Name_k8 (L_subwayref04_Name_l4 p1 f7) v36 x69 v75 = some r) ?_ ?_
   ·refine At.region K K ?_
    refine In.run' 3 (k' := 3) rfl [(15, (.int .u8 ((x69).toNat : Int))), (16, (.bool (((x69).toNat : Int) == 45))), (17, (.bool (((x69).toNat : Int) == 45)))] K ?_
    refine In.guard (t := 17) (b := (((x69).toNat : Int) == 45)) K (fun hb92 => ?_) (fun hb92 => ?_)
    ·have H := ct H hb92
     refine In.run' 4 (k' := 7) rfl [(18, (.int .i64 v36)), (19, (.bool (decide (v36 > 0)))), (20, (.bool (decide (v36 > 0)))), (21, (.bool (decide (v36 > 0))))] K ?_
     refine In.guard (t := 21) (b := (decide (v36 > 0))) K (fun hb93 => ?_) (fun hb93 => ?_)
     ·have H := ct H hb93
      refine In.run' 7 (k' := 14) rfl [(22, (.int .i64 v36)), (23, (.string ⟨List.toArray p1⟩)), (24, (.int .i64 ((List.length p1 : Nat) : Int))), (25, (.int .i64 (IntKind.wrap .i64 (((List.length p1 : Nat) : Int) - 1)))), (26, (.bool (decide (v36 < (IntKind.wrap .i64 (((List.length p1 : Nat) : Int) - 1)))))), (27, (.bool (decide (v36 < (IntKind.wrap .i64 (((List.length p1 : Nat) : Int) - 1)))))), (5, (.bool (decide (v36 < (IntKind.wrap .i64 (((List.length p1 : Nat) : Int) - 1))))))] K ?_
      refine In.fin K ?_
      exact ⟨(decide (v36 < (IntKind.wrap .i64 (((List.length p1 : Nat) : Int) - 1)))), ⟨K, K, K, K, trivial⟩, SP.sel hs35 [] rfl rfl, H⟩
     ·have H := cf H hb93
      refine In.run' 7 (k' := 14) rfl [(22, undef), (23, undef), (24, undef), (25, undef), (26, undef), (27, (.bool false)), (5, (.bool false))] K ?_
      refine In.fin K ?_
      exact ⟨false, ⟨K, K, K, K, trivial⟩, SP.sel hs35 [] rfl rfl, H⟩
    ·have H := cf H hb92
     refine In.run' 11 (k' := 14) rfl [(18, undef), (19, undef), (20, (.bool false)), (21, (.bool false)), (22, undef), (23, undef), (24, undef), (25, undef), (26, undef), (27, (.bool false)), (5, (.bool false))] K ?_
     refine In.fin K ?_
     exact ⟨false, ⟨K, K, K, K, trivial⟩, SP.sel hs35 [] rfl rfl, H⟩
   ·rintro ρ w76 ⟨v75, hk, hs77, H⟩
    unfold L_subwayref04_Name_k8 at H
    first | refine At.known [(0, (.string ⟨List.toArray p1⟩)), (3, (.int .i64 v36)), (4, (.int .u8 ((x69).toNat : Int))), (5, (.bool v75))] hk ?_ | rw [← known_updL (l := [(0, (.string ⟨List.toArray p1⟩)), (3, (.int .i64 v36)), (4, (.int .u8 ((x69).toNat : Int))), (5, (.bool v75))]) hk]
    refine At.sq K ?_
    refine At.join (fun ρ w => ∃ (v83 : Bool), Known ρ [(0, (.string ⟨List.toArray p1⟩)), (3, (.int .i64 v36)), (45, (.bool v83))] ∧ SP [] w0 w [] ∧ L_subwayref04_Name_k9 (L_subwayref04_Name_l4 p1 f7) v36 v83 = some r) ?_ ?_
    ·refine At.region K K ?_
     refine In.run' 3 (k' := 3) rfl [(28, (.bool v75)), (29, (.bool (!v75))), (30, (.bool (!v75)))] K ?_
     refine In.guard (t := 30) (b := (!v75)) K (fun hb87 => ?_) (fun hb87 => ?_)
     ·have H := ct H hb87
      refine In.run' 3 (k' := 6) rfl [(31, (.int .u8 ((x69).toNat : Int))), (32, (.bool (decide (((x69).toNat : Int) < 97)))), (33, (.bool (decide (((x69).toNat : Int) < 97))))] K ?_
      refine In.guard (t := 33) (b := (decide (((x69).toNat : Int) < 97))) K (fun hb88 => ?_) (fun hb88 => ?_)
      ·have H := ct H hb88
       refine In.run' 8 (k' := 14) rfl [(34, undef), (35, undef), (36, (.bool true)), (37, (.bool true)), (38, (.bool true)), (39, (.int .u8 ((x69).toNat : Int))), (40, (.bool (decide (((x69).toNat : Int) < 48)))), (41, (.bool (decide (((x69).toNat : Int) < 48))))] K ?_
       refine In.guard (t := 41) (b := (decide (((x69).toNat : Int) < 48))) K (fun hb89 => ?_) (fun hb89 => ?_)
       ·have H := ct H hb89
        refine In.run' 4 (k' := 18) rfl [(42, undef), (43, undef), (44, (.bool true)), (45, (.bool true))] K ?_
        refine In.fin K ?_
        exact ⟨true, ⟨K, K, K, trivial⟩, SP.sel hs77 [] rfl rfl, H⟩
       ·have H := cf H hb89
        refine In.run' 4 (k' := 18) rfl [(42, (.int .u8 ((x69).toNat : Int))), (43, (.bool (decide (((x69).toNat : Int) > 57)))), (44, (.bool (decide (((x69).toNat : Int) > 57)))), (45, (.bool (decide (((x69).toNat : Int) > 57))))] K ?_
        refine In.fin K ?_
        exact ⟨(decide (((x69).toNat : Int) > 57)), ⟨K, K, K, trivial⟩, SP.sel hs77 [] rfl rfl, H⟩
      ·have H := cf H hb88
       refine In.run' 5 (k' := 11) rfl [(34, (.int .u8 ((x69).toNat : Int))), (35, (.bool (decide (((x69).toNat : Int) > 122)))), (36, (.bool (decide (((x69).toNat : Int) > 122)))), (37, (.bool (decide (((x69).toNat : Int) > 122)))), (38, (.bool (decide (((x69).toNat : Int) > 122))))] K ?_
       refine In.guard (t := 38) (b := (decide (((x69).toNat : Int) > 122))) K (fun hb90 => ?_) (fun hb90 => ?_)
       ·have H := ct H hb90
        refine In.run' 3 (k' := 14) rfl [(39, (.int .u8 ((x69).toNat : Int))), (40, (.bool (decide (((x69).toNat : Int) < 48)))), (41, (.bool (decide (((x69).toNat : Int) < 48))))] K ?_
        refine In.guard (t := 41) (b := (decide (((x69).toNat : Int) < 48))) K (fun hb91 => ?_) (fun hb91 => ?_)
        ·have H := ct H hb91
         refine In.run' 4 (k' := 18) rfl [(42, undef), (43, undef), (44, (.bool true)), (45, (.bool true))] K ?_
         refine In.fin K ?_
         exact ⟨true, ⟨K, K, K, trivial⟩, SP.sel hs77 [] rfl rfl, H⟩
        ·have H := cf H hb91
         refine In.run' 4 (k' := 18) rfl [(42, (.int .u8 ((x69).toNat : Int))), (43, (.bool (decide (((x69).toNat : Int) > 57)))), (44, (.bool (decide (((x69).toNat : Int) > 57)))), (45, (.bool (decide (((x69).toNat : Int) > 57))))] K ?_
         refine In.fin K ?_
         exact ⟨(decide (((x69).toNat : Int) > 57)), ⟨K, K, K, trivial⟩, SP.sel hs77 [] rfl rfl, H⟩
       ·have H := cf H hb90
        refine In.run' 7 (k' := 18) rfl [(39, undef), (40, undef), (41, undef), (42, undef), (43, undef), (44, undef), (45, (.bool false))] K ?_
        refine In.fin K ?_
        exact ⟨false, ⟨K, K, K, trivial⟩, SP.sel hs77 [] rfl rfl, H⟩
     ·have H := cf H hb87
      refine In.run' 15 (k' := 18) rfl [(31, undef), (32, undef), (33, undef), (34, undef), (35, undef), (36, undef), (37, (.bool false)), (38, (.bool false)), (39, undef), (40, undef), (41, undef), (42, undef), (43, undef), (44, undef), (45, (.bool false))] K ?_
      refine In.fin K ?_
      exact ⟨false, ⟨K, K, K, trivial⟩, SP.sel hs77 [] rfl rfl, H⟩
    ·rintro ρ w84 ⟨v83, hk, hs85, H⟩
     unfold L_subwayref04_Name_k9 at H
     first | refine At.known [(0, (.string ⟨List.toArray p1⟩)), (3, (.int .i64 v36)), (45, (.bool v83))] hk ?_ | rw [← known_updL (l := [(0, (.string ⟨List.toArray p1⟩)), (3, (.int .i64 v36)), (45, (.bool v83))]) hk]
     refine At.cd K (o := (.tmp 45)) K (b := v83) K (fun hb86 => ?_) (fun hb86 => ?_)
     ·have H := ct H hb86
      refine At.sq K ?_
      refine At.region K K ?_
      refine In.run' 1 (k' := 1) rfl [(2, (.bool false))] K ?_
      refine In.fin K ?_
      refine At.ret K ?_
      refine ⟨(.bool false), K, ?_⟩
      obtain rfl := some_elim H
      exact ⟨rfl, SP.sel hs85 [] rfl rfl⟩
     ·have H := cf H hb86
      refine At.skip K ?_
      refine At.region K K ?_
      refine In.run' 3 (k' := 3) rfl [(10, (.int .i64 v36)), (11, (.int .i64 (IntKind.wrap .i64 (v36 + 1)))), (3, (.int .i64 (IntKind.wrap .i64 (v36 + 1))))] K ?_
      refine In.fin K ?_
      exact ⟨(IntKind.wrap .i64 (v36 + 1)), ⟨K, K, trivial⟩, SP.sel hs85 [] rfl rfl, H⟩
  ·have H := cf H hb68
   refine At.exit K (id := 0) K ?_
   refine At.sq K ?_
   refine At.join (fun ρ w => ∃ (v95 : Bool), Known ρ [(2, (.bool v95))] ∧ SP [] w0 w [] ∧ L_subwayref04_Name_k10 (L_subwayref04_Name_l4 p1 f7) v95 = some r) ?_ ?_
   ·refine At.region K K ?_
    refine In.run' 4 (k' := 4) rfl [(46, (.string ⟨List.toArray p1⟩)), (47, (.int .i64 ((List.length p1 : Nat) : Int))), (48, (.bool (decide (((List.length p1 : Nat) : Int) ≥ 1)))), (49, (.bool (decide (((List.length p1 : Nat) : Int) ≥ 1))))] K ?_
    refine In.guard (t := 49) (b := (decide (((List.length p1 : Nat) : Int) ≥ 1))) K (fun hb98 => ?_) (fun hb98 => ?_)
    ·have H := ct H hb98
     refine In.run' 5 (k' := 9) rfl [(50, (.string ⟨List.toArray p1⟩)), (51, (.int .i64 ((List.length p1 : Nat) : Int))), (52, (.bool (decide (((List.length p1 : Nat) : Int) ≤ 20)))), (53, (.bool (decide (((List.length p1 : Nat) : Int) ≤ 20)))), (2, (.bool (decide (((List.length p1 : Nat) : Int) ≤ 20))))] K ?_
     refine In.fin K ?_
     exact ⟨(decide (((List.length p1 : Nat) : Int) ≤ 20)), ⟨K, trivial⟩, SP.sel hs35 [] rfl rfl, H⟩
    ·have H := cf H hb98
     refine In.run' 5 (k' := 9) rfl [(50, undef), (51, undef), (52, undef), (53, (.bool false)), (2, (.bool false))] K ?_
     refine In.fin K ?_
     exact ⟨false, ⟨K, trivial⟩, SP.sel hs35 [] rfl rfl, H⟩
   ·rintro ρ w96 ⟨v95, hk, hs97, H⟩
    unfold L_subwayref04_Name_k10 at H
    first | refine At.known [(2, (.bool v95))] hk ?_ | rw [← known_updL (l := [(2, (.bool v95))]) hk]
    refine At.ret K ?_
    refine ⟨(.bool v95), K, ?_⟩
    obtain rfl := some_elim H
    exact ⟨rfl, SP.sel hs97 [] rfl rfl⟩
 ·exact ⟨0, ⟨K, K, trivial⟩, SP.sel hs0 [] rfl rfl, H⟩
/-! L_subwayref04_head -/
def L_subwayref04_head (p1 : Int) (p2 : Int) : Option (Int) :=
  (cond (p2 == 0) (some (0)) ((chk (decide (0 ≤ (IntKind.wrap .i64 (32 - p2))))).bind fun _ => ((chk (decide (0 ≤ (IntKind.wrap .i64 (32 - p2))))).bind fun _ => (some ((bShl .u32 (bShr .u32 p1 (IntKind.wrap .i64 (32 - p2))) (IntKind.wrap .i64 (32 - p2))))))))
set_option maxRecDepth 100000 in
set_option maxHeartbeats 4000000 in
theorem L_subwayref04_head_walk  (p1 : Int) (p2 : Int) (w0 : World)  (r : (Int)) (H : L_subwayref04_head p1 p2 = some r) :
  Calls Tryd.prog 44 #[(.int .u32 p1), (.int .i64 p2)] w0 (fun e w' => e = .returned (.int .u32 r) ∧ SP [] w0 w' []) := by
 unfold L_subwayref04_head at H
 refine calls_go (n := 14) Tryd.func44 K K K ?_
 have hs0 := SP.start [] w0
 refine At.sq K ?_
 refine At.region K K ?_
 refine In.run' 1 (k' := 1) rfl [(4, (.int .u32 0))] K ?_
 refine In.fin K ?_
 refine At.sq K ?_
 refine At.sq K ?_
 refine At.region K K ?_
 refine In.run' 2 (k' := 2) rfl [(5, (.int .i64 p2)), (6, (.bool (p2 == 0)))] K ?_
 refine In.fin K ?_
 refine At.cd K (o := (.tmp 6)) K (b := (p2 == 0)) K (fun hb3 => ?_) (fun hb3 => ?_)
 ·have H := ct H hb3
  refine At.sq K ?_
  refine At.region K K ?_
  refine In.run' 1 (k' := 1) rfl [(4, (.int .u32 0))] K ?_
  refine In.fin K ?_
  refine At.ret K ?_
  refine ⟨(.int .u32 0), K, ?_⟩
  obtain rfl := some_elim H
  exact ⟨rfl, SP.sel hs0 [] rfl rfl⟩
 ·have H := cf H hb3
  refine At.skip K ?_
  refine At.sq K ?_
  refine At.region K K ?_
  refine In.run' 3 (k' := 3) rfl [(7, (.int .u32 p1)), (8, (.int .i64 p2)), (9, (.int .i64 (IntKind.wrap .i64 (32 - p2))))] K ?_
  obtain ⟨hl4, H⟩ := chk_elim H
  refine In.step (k' := 4) rfl K ?_
  refine Step.shift (op := .shr) (T := 33) (T' := 3) (x := (.tmp 7)) (y := (.tmp 9)) (kx := .u32) (ky := .i64) (a := p1) (b := (IntKind.wrap .i64 (32 - p2))) (v := (.int .u32 (bShr .u32 p1 (IntKind.wrap .i64 (32 - p2))))) (d := (some 10)) (k := 3) K rfl K K (of_decide_eq_true hl4) rfl ?_
  refine In.run' 2 (k' := 6) rfl [(11, (.int .i64 p2)), (12, (.int .i64 (IntKind.wrap .i64 (32 - p2))))] K ?_
  obtain ⟨hl5, H⟩ := chk_elim H
  refine In.step (k' := 7) rfl K ?_
  refine Step.shift (op := .shl) (T := 33) (T' := 3) (x := (.tmp 10)) (y := (.tmp 12)) (kx := .u32) (ky := .i64) (a := (bShr .u32 p1 (IntKind.wrap .i64 (32 - p2)))) (b := (IntKind.wrap .i64 (32 - p2))) (v := (.int .u32 (bShl .u32 (bShr .u32 p1 (IntKind.wrap .i64 (32 - p2))) (IntKind.wrap .i64 (32 - p2))))) (d := (some 13)) (k := 6) K rfl K K (of_decide_eq_true hl5) rfl ?_
  refine In.run' 1 (k' := 8) rfl [(4, (.int .u32 (bShl .u32 (bShr .u32 p1 (IntKind.wrap .i64 (32 - p2))) (IntKind.wrap .i64 (32 - p2)))))] K ?_
  refine In.fin K ?_
  refine At.ret K ?_
  refine ⟨(.int .u32 (bShl .u32 (bShr .u32 p1 (IntKind.wrap .i64 (32 - p2))) (IntKind.wrap .i64 (32 - p2)))), K, ?_⟩
  obtain rfl := some_elim H
  exact ⟨rfl, SP.sel hs0 [] rfl rfl⟩
/-! L_subwayref04_Right -/
def L_subwayref04_Right_k1 (v54 : Bool) : Option (Bool) :=
  (some (v54))
def L_subwayref04_Right (pAddr1 : Int) (pBits2 : Int) : Option (Bool) :=
  (cond (decide (pBits2 ≥ 0)) (cond (decide (pBits2 ≤ 32)) ((L_subwayref04_head pAddr1 pBits2).bind fun z59 => (L_subwayref04_Right_k1 (z59 == pAddr1))) (L_subwayref04_Right_k1 false)) (L_subwayref04_Right_k1 false))
set_option maxRecDepth 100000 in
set_option maxHeartbeats 4000000 in
theorem L_subwayref04_Right_walk  (pAddr1 : Int) (pBits2 : Int) (w0 : World)  (r : (Bool)) (H : L_subwayref04_Right pAddr1 pBits2 = some r) :
  Calls Tryd.prog 43 #[(.agg #[(.int .u32 pAddr1), (.int .i64 pBits2)])] w0 (fun e w' => e = .returned (.bool r) ∧ SP [] w0 w' []) := by
 unfold L_subwayref04_Right at H
 refine calls_go (n := 21) Tryd.func43 K K K ?_
 have hs0 := SP.start [] w0
 refine At.sq K ?_
 refine At.region K K ?_
 refine In.step (k' := 1) rfl K ?_
 refine Step.box (t := 51) (x := (.tmp 0)) (v := (.agg #[(.int .u32 pAddr1), (.int .i64 pBits2)])) (d := (some 1)) (k := 0) K rfl K hs0 ?_
 intro g3 w4 (hs6 : SP [] w0 w4 [boxE g3 51 #[(.int .u32 pAddr1), (.int .i64 pBits2)]])
 refine In.run' 1 (k' := 2) rfl [(2, (.bool false))] K ?_
 refine In.fin K ?_
 refine At.sq K ?_
 refine At.join (fun ρ w => ∃ (v54 : Bool), Known ρ [(2, (.bool v54))] ∧ SP [] w0 w [] ∧ L_subwayref04_Right_k1 v54 = some r) ?_ ?_
 ·rcases Bool.eq_false_or_eq_true (decide (pBits2 ≥ 0)) with hb57 | hb57
  ·have H := ct H hb57
   rcases Bool.eq_false_or_eq_true (decide (pBits2 ≤ 32)) with hb58 | hb58
   ·have H := ct H hb58
    obtain ⟨z59, hz60, H⟩ := bind_elim H
    refine At.stages K K K K K [GEq (pt g3 1), GEq (.int .i64 pBits2), GEq (.bool (decide (pBits2 ≥ 0))), GEq (.bool (decide (pBits2 ≥ 0))), GEq (pt g3 1), GEq (.int .i64 pBits2), GEq (.bool (decide (pBits2 ≤ 32))), GEq (.bool (decide (pBits2 ≤ 32))), GEq (.bool (decide (pBits2 ≤ 32))), GEq (pt g3 0), GEq (.int .u32 pAddr1), GEq (pt g3 1), GEq (.int .i64 pBits2), GEq (.int .u32 z59), GEq (pt g3 0), GEq (.int .u32 pAddr1), GEq (.bool (z59 == pAddr1)), GEq (.bool (z59 == pAddr1)), GEq (.bool (z59 == pAddr1))] [13] [([], fun vs w => VL vs [] ∧ SP [] w0 w [boxE g3 51 #[(.int .u32 pAddr1), (.int .i64 pBits2)]]), ([13], fun vs w => VL vs [(.int .u32 z59)] ∧ SP [] w0 w [boxE g3 51 #[(.int .u32 pAddr1), (.int .i64 pBits2)]])] (N := 19) K ⟨K, Nat.zero_lt_succ _⟩ (show VL [] [] ∧ SP [] w0 w4.drew [boxE g3 51 #[(.int .u32 pAddr1), (.int .i64 pBits2)]] from ⟨trivial, SP.drew hs6⟩) ⟨⟨⟨⟨⟨⟨⟨⟨⟨⟨⟨⟨⟨⟨⟨⟨⟨⟨⟨trivial, ?_⟩, ?_⟩, ?_⟩, ?_⟩, ?_⟩, ?_⟩, ?_⟩, ?_⟩, ?_⟩, ?_⟩, ?_⟩, ?_⟩, ?_⟩, ?_⟩, ?_⟩, ?_⟩, ?_⟩, ?_⟩, ?_⟩ (last := 1) K ?_
    ·exact Owe.run K [(1, (pt g3 0))] ⟨gS K K, trivial⟩ (pt g3 1) (fun _ _ => K) rfl
    ·refine Owe.light K [0] K (all_cons ?_ all_nil)
     ·rintro ρ' w' hs hah ⟨hvl70, hs69⟩
      have hkn : Known ρ' [(3, (pt g3 1))] := ⟨hah 0 3 K, trivial⟩
      refine Step.known _ hkn ?_
      refine Step.load (t := 3) (x := (.tmp 3)) (g := g3) (off := 1) (i := 0) (v := (.int .i64 pBits2)) (d := (some 4)) (k := 1) K rfl K hs69 rfl K ?_
      exact ⟨rfl, _, updO_known hkn, rfl⟩
    ·exact Owe.run K [(4, (.int .i64 pBits2))] ⟨gA 1 K K, trivial⟩ (.bool (decide (pBits2 ≥ 0))) (fun _ _ => K) rfl
    ·exact Owe.run K [(5, (.bool (decide (pBits2 ≥ 0))))] ⟨gA 2 K K, trivial⟩ (.bool (decide (pBits2 ≥ 0))) (fun _ _ => K) rfl
    ·exact Owe.run K [(1, (pt g3 0)), (6, (.bool true))] ⟨gS K K, gB 3 K (decide (pBits2 ≥ 0)) K hb57, trivial⟩ (pt g3 1) (fun _ _ => K) rfl
    ·refine Owe.light K [0] K (all_cons ?_ all_nil)
     ·rintro ρ' w' hs hah ⟨hvl72, hs71⟩
      have e7 := hah 4 7 K
      have e6 := hah 3 6 K
      have hkn : Known ρ' [(7, (pt g3 1)), (6, (.bool true))] := ⟨e7, (Eq.trans e6 (congrArg Value.bool hb57)), trivial⟩
      refine Step.known _ hkn ?_
      refine Step.load (t := 3) (x := (.tmp 7)) (g := g3) (off := 1) (i := 0) (v := (.int .i64 pBits2)) (d := (some 8)) (k := 5) K rfl K hs71 rfl K ?_
      exact ⟨rfl, _, updO_known hkn, rfl⟩
    ·exact Owe.run K [(8, (.int .i64 pBits2)), (6, (.bool true))] ⟨gA 5 K K, gB 3 K (decide (pBits2 ≥ 0)) K hb57, trivial⟩ (.bool (decide (pBits2 ≤ 32))) (fun _ _ => K) rfl
    ·exact Owe.run K [(6, (.bool true)), (9, (.bool (decide (pBits2 ≤ 32))))] ⟨gB 3 K (decide (pBits2 ≥ 0)) K hb57, gA 6 K K, trivial⟩ (.bool (decide (pBits2 ≤ 32))) (fun _ _ => K) rfl
    ·exact Owe.run K [(10, (.bool (decide (pBits2 ≤ 32))))] ⟨gA 7 K K, trivial⟩ (.bool (decide (pBits2 ≤ 32))) (fun _ _ => K) rfl
    ·exact Owe.run K [(1, (pt g3 0)), (11, (.bool true))] ⟨gS K K, gB 8 K (decide (pBits2 ≤ 32)) K hb58, trivial⟩ (pt g3 0) (fun _ _ => K) rfl
    ·refine Owe.light K [0] K (all_cons ?_ all_nil)
     ·rintro ρ' w' hs hah ⟨hvl74, hs73⟩
      have e12 := hah 9 12 K
      have e11 := hah 8 11 K
      have hkn : Known ρ' [(12, (pt g3 0)), (11, (.bool true))] := ⟨e12, (Eq.trans e11 (congrArg Value.bool hb58)), trivial⟩
      refine Step.known _ hkn ?_
      refine Step.load (t := 33) (x := (.tmp 12)) (g := g3) (off := 0) (i := 0) (v := (.int .u32 pAddr1)) (d := (some 13)) (k := 10) K rfl K hs73 rfl K ?_
      exact ⟨rfl, _, updO_known hkn, rfl⟩
    ·exact Owe.run K [(1, (pt g3 0)), (11, (.bool true))] ⟨gS K K, gB 8 K (decide (pBits2 ≤ 32)) K hb58, trivial⟩ (pt g3 1) (fun _ _ => K) rfl
    ·refine Owe.light K [0] K (all_cons ?_ all_nil)
     ·rintro ρ' w' hs hah ⟨hvl76, hs75⟩
      have e14 := hah 11 14 K
      have e11 := hah 8 11 K
      have hkn : Known ρ' [(14, (pt g3 1)), (11, (.bool true))] := ⟨e14, (Eq.trans e11 (congrArg Value.bool hb58)), trivial⟩
      refine Step.known _ hkn ?_
      refine Step.load (t := 3) (x := (.tmp 14)) (g := g3) (off := 1) (i := 0) (v := (.int .i64 pBits2)) (d := (some 15)) (k := 12) K rfl K hs75 rfl K ?_
      exact ⟨rfl, _, updO_known hkn, rfl⟩
    ·refine Owe.heavy K [(0, 1)] K (all_cons ⟨K, K, ?_⟩ all_nil)
     ·rintro ρ' w' hs hah ⟨hvl78, hs77⟩
      have e13 := hah 10 13 K
      have e15 := hah 12 15 K
      have e11 := hah 8 11 K
      have hkn : Known ρ' [(13, (.int .u32 pAddr1)), (15, (.int .i64 pBits2)), (11, (.bool true))] := ⟨e13, e15, (Eq.trans e11 (congrArg Value.bool hb58)), trivial⟩
      refine Step.known _ hkn ?_
      refine Step.callF (f := 44) (fo := (.func 44)) (xs := #[(.tmp 13), (.tmp 15)]) (tys := #[33, 3]) (first := #[]) (captured := #[]) (d := (some 16)) (k := 13) K rfl K K Tryd.call44 (L_subwayref04_head_walk  pAddr1 pBits2 w'  z59 hz60) ?_
      rintro e w79 ⟨rfl, hs80⟩
      refine ⟨_, rfl, ?_⟩
      have hs82 : SP [] w0 w79 [boxE g3 51 #[(.int .u32 pAddr1), (.int .i64 pBits2)]] := SP.call hs77 hs80
      clear hs80
      refine ⟨_, updO_known hkn, rfl, ?_⟩
      exact (And.intro (And.intro rfl (trivial)) (hs82))
    ·exact Owe.run K [(1, (pt g3 0)), (11, (.bool true))] ⟨gS K K, gB 8 K (decide (pBits2 ≤ 32)) K hb58, trivial⟩ (pt g3 0) (fun _ _ => K) rfl
    ·refine Owe.light K [0, 1] K (all_cons ?_ (all_cons ?_ all_nil))
     ·rintro ρ' w' hs hah ⟨hvl84, hs83⟩
      have e17 := hah 14 17 K
      have e11 := hah 8 11 K
      have hkn : Known ρ' [(17, (pt g3 0)), (11, (.bool true))] := ⟨e17, (Eq.trans e11 (congrArg Value.bool hb58)), trivial⟩
      refine Step.known _ hkn ?_
      refine Step.load (t := 33) (x := (.tmp 17)) (g := g3) (off := 0) (i := 0) (v := (.int .u32 pAddr1)) (d := (some 18)) (k := 15) K rfl K hs83 rfl K ?_
      exact ⟨rfl, _, updO_known hkn, rfl⟩
     ·rintro ρ' w' hs hah ⟨⟨q86, -⟩, hs85⟩
      have e17 := hah 14 17 K
      have e11 := hah 8 11 K
      have hkn : Known ρ' [(17, (pt g3 0)), (11, (.bool true))] := ⟨e17, (Eq.trans e11 (congrArg Value.bool hb58)), trivial⟩
      refine Step.known _ hkn ?_
      refine Step.load (t := 33) (x := (.tmp 17)) (g := g3) (off := 0) (i := 0) (v := (.int .u32 pAddr1)) (d := (some 18)) (k := 15) K rfl K hs85 rfl K ?_
      exact ⟨rfl, _, updO_known hkn, rfl⟩
    ·exact Owe.run K [(16, (.int .u32 z59)), (18, (.int .u32 pAddr1)), (11, (.bool true))] ⟨gA 13 K K, gA 15 K K, gB 8 K (decide (pBits2 ≤ 32)) K hb58, trivial⟩ (.bool (z59 == pAddr1)) (fun _ _ => K) rfl
    ·exact Owe.run K [(11, (.bool true)), (19, (.bool (z59 == pAddr1)))] ⟨gB 8 K (decide (pBits2 ≤ 32)) K hb58, gA 16 K K, trivial⟩ (.bool (z59 == pAddr1)) (fun _ _ => K) rfl
    ·exact Owe.run K [(20, (.bool (z59 == pAddr1)))] ⟨gA 17 K K, trivial⟩ (.bool (z59 == pAddr1)) (fun _ _ => K) rfl
    ·rintro ρ' w' hs hf ⟨⟨q89, -⟩, hs88⟩
     refine postKnown [(2, (.bool (z59 == pAddr1)))] ⟨hf 18 2 K, trivial⟩ ?_
     obtain ⟨w91, hww91⟩ : ∃ x, w' = x := ⟨_, rfl⟩
     rw [hww91] at hs88 ⊢
     exact ⟨(z59 == pAddr1), ⟨K, trivial⟩, SP.sel hs88 [] rfl rfl, H⟩
   ·have H := cf H hb58
    refine At.stages K K K K K [GEq (pt g3 1), GEq (.int .i64 pBits2), GEq (.bool (decide (pBits2 ≥ 0))), GEq (.bool (decide (pBits2 ≥ 0))), GEq (pt g3 1), GEq (.int .i64 pBits2), GEq (.bool (decide (pBits2 ≤ 32))), GEq (.bool (decide (pBits2 ≤ 32))), GEq (.bool (decide (pBits2 ≤ 32))), GEq undef, GEq undef, GEq undef, GEq undef, GEq undef, GEq undef, GEq undef, GEq undef, GEq (.bool false), GEq (.bool false)] [] [([], fun vs w => VL vs [] ∧ SP [] w0 w [boxE g3 51 #[(.int .u32 pAddr1), (.int .i64 pBits2)]])] (N := 19) K ⟨K, Nat.zero_lt_succ _⟩ (show VL [] [] ∧ SP [] w0 w4.drew [boxE g3 51 #[(.int .u32 pAddr1), (.int .i64 pBits2)]] from ⟨trivial, SP.drew hs6⟩) ⟨⟨⟨⟨⟨⟨⟨⟨⟨⟨⟨⟨⟨⟨⟨⟨⟨⟨⟨trivial, ?_⟩, ?_⟩, ?_⟩, ?_⟩, ?_⟩, ?_⟩, ?_⟩, ?_⟩, ?_⟩, ?_⟩, ?_⟩, ?_⟩, ?_⟩, ?_⟩, ?_⟩, ?_⟩, ?_⟩, ?_⟩, ?_⟩ (last := 0) K ?_
    ·exact Owe.run K [(1, (pt g3 0))] ⟨gS K K, trivial⟩ (pt g3 1) (fun _ _ => K) rfl
    ·refine Owe.light K [0] K (all_cons ?_ all_nil)
     ·rintro ρ' w' hs hah ⟨hvl93, hs92⟩
      have hkn : Known ρ' [(3, (pt g3 1))] := ⟨hah 0 3 K, trivial⟩
      refine Step.known _ hkn ?_
      refine Step.load (t := 3) (x := (.tmp 3)) (g := g3) (off := 1) (i := 0) (v := (.int .i64 pBits2)) (d := (some 4)) (k := 1) K rfl K hs92 rfl K ?_
      exact ⟨rfl, _, updO_known hkn, rfl⟩
    ·exact Owe.run K [(4, (.int .i64 pBits2))] ⟨gA 1 K K, trivial⟩ (.bool (decide (pBits2 ≥ 0))) (fun _ _ => K) rfl
    ·exact Owe.run K [(5, (.bool (decide (pBits2 ≥ 0))))] ⟨gA 2 K K, trivial⟩ (.bool (decide (pBits2 ≥ 0))) (fun _ _ => K) rfl
    ·exact Owe.run K [(1, (pt g3 0)), (6, (.bool true))] ⟨gS K K, gB 3 K (decide (pBits2 ≥ 0)) K hb57, trivial⟩ (pt g3 1) (fun _ _ => K) rfl
    ·refine Owe.light K [0] K (all_cons ?_ all_nil)
     ·rintro ρ' w' hs hah ⟨hvl95, hs94⟩
      have e7 := hah 4 7 K
      have e6 := hah 3 6 K
      have hkn : Known ρ' [(7, (pt g3 1)), (6, (.bool true))] := ⟨e7, (Eq.trans e6 (congrArg Value.bool hb57)), trivial⟩
      refine Step.known _ hkn ?_
      refine Step.load (t := 3) (x := (.tmp 7)) (g := g3) (off := 1) (i := 0) (v := (.int .i64 pBits2)) (d := (some 8)) (k := 5) K rfl K hs94 rfl K ?_
      exact ⟨rfl, _, updO_known hkn, rfl⟩
    ·exact Owe.run K [(8, (.int .i64 pBits2)), (6, (.bool true))] ⟨gA 5 K K, gB 3 K (decide (pBits2 ≥ 0)) K hb57, trivial⟩ (.bool (decide (pBits2 ≤ 32))) (fun _ _ => K) rfl
    ·exact Owe.run K [(6, (.bool true)), (9, (.bool (decide (pBits2 ≤ 32))))] ⟨gB 3 K (decide (pBits2 ≥ 0)) K hb57, gA 6 K K, trivial⟩ (.bool (decide (pBits2 ≤ 32))) (fun _ _ => K) rfl
    ·exact Owe.run K [(10, (.bool (decide (pBits2 ≤ 32))))] ⟨gA 7 K K, trivial⟩ (.bool (decide (pBits2 ≤ 32))) (fun _ _ => K) rfl
    ·exact Owe.skip K [(11, (.bool false))] ⟨gB 8 K (decide (pBits2 ≤ 32)) K hb58, trivial⟩ (some 12) (fun _ => K) K rfl
    ·exact Owe.skip K [(11, (.bool false))] ⟨gB 8 K (decide (pBits2 ≤ 32)) K hb58, trivial⟩ (some 13) (fun _ => K) K rfl
    ·exact Owe.skip K [(11, (.bool false))] ⟨gB 8 K (decide (pBits2 ≤ 32)) K hb58, trivial⟩ (some 14) (fun _ => K) K rfl
    ·exact Owe.skip K [(11, (.bool false))] ⟨gB 8 K (decide (pBits2 ≤ 32)) K hb58, trivial⟩ (some 15) (fun _ => K) K rfl
    ·exact Owe.skip K [(11, (.bool false))] ⟨gB 8 K (decide (pBits2 ≤ 32)) K hb58, trivial⟩ (some 16) (fun _ => K) K rfl
    ·exact Owe.skip K [(11, (.bool false))] ⟨gB 8 K (decide (pBits2 ≤ 32)) K hb58, trivial⟩ (some 17) (fun _ => K) K rfl
    ·exact Owe.skip K [(11, (.bool false))] ⟨gB 8 K (decide (pBits2 ≤ 32)) K hb58, trivial⟩ (some 18) (fun _ => K) K rfl
    ·exact Owe.skip K [(11, (.bool false))] ⟨gB 8 K (decide (pBits2 ≤ 32)) K hb58, trivial⟩ (some 19) (fun _ => K) K rfl
    ·exact Owe.run K [(11, (.bool false)), (19, undef)] ⟨gB 8 K (decide (pBits2 ≤ 32)) K hb58, gA 16 K K, trivial⟩ (.bool false) (fun _ _ => K) rfl
    ·exact Owe.run K [(20, (.bool false))] ⟨gA 17 K K, trivial⟩ (.bool false) (fun _ _ => K) rfl
    ·rintro ρ' w' hs hf ⟨hvl97, hs96⟩
     refine postKnown [(2, (.bool false))] ⟨hf 18 2 K, trivial⟩ ?_
     obtain ⟨w98, hww98⟩ : ∃ x, w' = x := ⟨_, rfl⟩
     rw [hww98] at hs96 ⊢
     exact ⟨false, ⟨K, trivial⟩, SP.sel hs96 [] rfl rfl, H⟩
  ·have H := cf H hb57
   refine At.stages K K K K K [GEq (pt g3 1), GEq (.int .i64 pBits2), GEq (.bool (decide (pBits2 ≥ 0))), GEq (.bool (decide (pBits2 ≥ 0))), GEq undef, GEq undef, GEq undef, GEq (.bool false), GEq (.bool false), GEq undef, GEq undef, GEq undef, GEq undef, GEq undef, GEq undef, GEq undef, GEq undef, GEq (.bool false), GEq (.bool false)] [] [([], fun vs w => VL vs [] ∧ SP [] w0 w [boxE g3 51 #[(.int .u32 pAddr1), (.int .i64 pBits2)]])] (N := 19) K ⟨K, Nat.zero_lt_succ _⟩ (show VL [] [] ∧ SP [] w0 w4.drew [boxE g3 51 #[(.int .u32 pAddr1), (.int .i64 pBits2)]] from ⟨trivial, SP.drew hs6⟩) ⟨⟨⟨⟨⟨⟨⟨⟨⟨⟨⟨⟨⟨⟨⟨⟨⟨⟨⟨trivial, ?_⟩, ?_⟩, ?_⟩, ?_⟩, ?_⟩, ?_⟩, ?_⟩, ?_⟩, ?_⟩, ?_⟩, ?_⟩, ?_⟩, ?_⟩, ?_⟩, ?_⟩, ?_⟩, ?_⟩, ?_⟩, ?_⟩ (last := 0) K ?_
   ·exact Owe.run K [(1, (pt g3 0))] ⟨gS K K, trivial⟩ (pt g3 1) (fun _ _ => K) rfl
   ·refine Owe.light K [0] K (all_cons ?_ all_nil)
    ·rintro ρ' w' hs hah ⟨hvl100, hs99⟩
     have hkn : Known ρ' [(3, (pt g3 1))] := ⟨hah 0 3 K, trivial⟩
     refine Step.known _ hkn ?_
     refine Step.load (t := 3) (x := (.tmp 3)) (g := g3) (off := 1) (i := 0) (v := (.int .i64 pBits2)) (d := (some 4)) (k := 1) K rfl K hs99 rfl K ?_
     exact ⟨rfl, _, updO_known hkn, rfl⟩
   ·exact Owe.run K [(4, (.int .i64 pBits2))] ⟨gA 1 K K, trivial⟩ (.bool (decide (pBits2 ≥ 0))) (fun _ _ => K) rfl
   ·exact Owe.run K [(5, (.bool (decide (pBits2 ≥ 0))))] ⟨gA 2 K K, trivial⟩ (.bool (decide (pBits2 ≥ 0))) (fun _ _ => K) rfl
   ·exact Owe.skip K [(6, (.bool false))] ⟨gB 3 K (decide (pBits2 ≥ 0)) K hb57, trivial⟩ (some 7) (fun _ => K) K rfl
   ·exact Owe.skip K [(6, (.bool false))] ⟨gB 3 K (decide (pBits2 ≥ 0)) K hb57, trivial⟩ (some 8) (fun _ => K) K rfl
   ·exact Owe.skip K [(6, (.bool false))] ⟨gB 3 K (decide (pBits2 ≥ 0)) K hb57, trivial⟩ (some 9) (fun _ => K) K rfl
   ·exact Owe.run K [(6, (.bool false)), (9, undef)] ⟨gB 3 K (decide (pBits2 ≥ 0)) K hb57, gA 6 K K, trivial⟩ (.bool false) (fun _ _ => K) rfl
   ·exact Owe.run K [(10, (.bool false))] ⟨gA 7 K K, trivial⟩ (.bool false) (fun _ _ => K) rfl
   ·exact Owe.skip K [(11, (.bool false))] ⟨gA 8 K K, trivial⟩ (some 12) (fun _ => K) K rfl
   ·exact Owe.skip K [(11, (.bool false))] ⟨gA 8 K K, trivial⟩ (some 13) (fun _ => K) K rfl
   ·exact Owe.skip K [(11, (.bool false))] ⟨gA 8 K K, trivial⟩ (some 14) (fun _ => K) K rfl
   ·exact Owe.skip K [(11, (.bool false))] ⟨gA 8 K K, trivial⟩ (some 15) (fun _ => K) K rfl
   ·exact Owe.skip K [(11, (.bool false))] ⟨gA 8 K K, trivial⟩ (some 16) (fun _ => K) K rfl
   ·exact Owe.skip K [(11, (.bool false))] ⟨gA 8 K K, trivial⟩ (some 17) (fun _ => K) K rfl
   ·exact Owe.skip K [(11, (.bool false))] ⟨gA 8 K K, trivial⟩ (some 18) (fun _ => K) K rfl
   ·exact Owe.skip K [(11, (.bool false))] ⟨gA 8 K K, trivial⟩ (some 19) (fun _ => K) K rfl
   ·exact Owe.run K [(11, (.bool false)), (19, undef)] ⟨gA 8 K K, gA 16 K K, trivial⟩ (.bool false) (fun _ _ => K) rfl
   ·exact Owe.run K [(20, (.bool false))] ⟨gA 17 K K, trivial⟩ (.bool false) (fun _ _ => K) rfl
   ·rintro ρ' w' hs hf ⟨hvl102, hs101⟩
    refine postKnown [(2, (.bool false))] ⟨hf 18 2 K, trivial⟩ ?_
    obtain ⟨w103, hww103⟩ : ∃ x, w' = x := ⟨_, rfl⟩
    rw [hww103] at hs101 ⊢
    exact ⟨false, ⟨K, trivial⟩, SP.sel hs101 [] rfl rfl, H⟩
 ·rintro ρ w55 ⟨v54, hk, hs56, H⟩
  unfold L_subwayref04_Right_k1 at H
  first | refine At.known [(2, (.bool v54))] hk ?_ | rw [← known_updL (l := [(2, (.bool v54))]) hk]
  refine At.ret K ?_
  refine ⟨(.bool v54), K, ?_⟩
  obtain rfl := some_elim H
  exact ⟨rfl, SP.sel hs56 [] rfl rfl⟩
/-! L_subwayref04_In -/
def L_subwayref04_In_k1 (v79 : Bool) : Option (Bool) :=
  (some (v79))
def L_subwayref04_In (pAddr1 : Int) (pBits2 : Int) (p3 : Int) : Option (Bool) :=
  ((L_subwayref04_Right pAddr1 pBits2).bind fun z82 => (cond z82 ((L_subwayref04_head p3 pBits2).bind fun z89 => (L_subwayref04_In_k1 (z89 == pAddr1))) (L_subwayref04_In_k1 false)))
set_option maxRecDepth 100000 in
set_option maxHeartbeats 4000000 in
theorem L_subwayref04_In_walk  (pAddr1 : Int) (pBits2 : Int) (p3 : Int) (w0 : World)  (r : (Bool)) (H : L_subwayref04_In pAddr1 pBits2 p3 = some r) :
  Calls Tryd.prog 29 #[(.agg #[(.int .u32 pAddr1), (.int .i64 pBits2)]), (.int .u32 p3)] w0 (fun e w' => e = .returned (.bool r) ∧ SP [] w0 w' []) := by
 unfold L_subwayref04_In at H
 refine calls_go (n := 16) Tryd.func29 K K K ?_
 have hs0 := SP.start [] w0
 refine At.sq K ?_
 refine At.region K K ?_
 refine In.step (k' := 1) rfl K ?_
 refine Step.box (t := 51) (x := (.tmp 0)) (v := (.agg #[(.int .u32 pAddr1), (.int .i64 pBits2)])) (d := (some 2)) (k := 0) K rfl K hs0 ?_
 intro g4 w5 (hs7 : SP [] w0 w5 [boxE g4 51 #[(.int .u32 pAddr1), (.int .i64 pBits2)]])
 refine In.run' 1 (k' := 2) rfl [(4, (.bool false))] K ?_
 refine In.fin K ?_
 refine At.sq K ?_
 refine At.join (fun ρ w => ∃ (v79 : Bool), Known ρ [(4, (.bool v79))] ∧ SP [] w0 w [] ∧ L_subwayref04_In_k1 v79 = some r) ?_ ?_
 ·obtain ⟨z82, hz83, H⟩ := bind_elim H
  rcases Bool.eq_false_or_eq_true z82 with hb88 | hb88
  ·have H := ct H hb88
   obtain ⟨z89, hz90, H⟩ := bind_elim H
   refine At.stages K K K K K [GEq (.agg #[(.int .u32 pAddr1), (.int .i64 pBits2)]), GEq (.bool z82), GEq (.bool z82), GEq (.int .u32 p3), GEq (pt g4 1), GEq (.int .i64 pBits2), GEq (.int .u32 z89), GEq (pt g4 0), GEq (.int .u32 pAddr1), GEq (.bool (z89 == pAddr1)), GEq (.bool (z89 == pAddr1)), GEq (.bool (z89 == pAddr1))] [1, 6] [([], fun vs w => VL vs [] ∧ SP [] w0 w [boxE g4 51 #[(.int .u32 pAddr1), (.int .i64 pBits2)]]), ([1], fun vs w => VL vs [(.bool z82)] ∧ SP [] w0 w [boxE g4 51 #[(.int .u32 pAddr1), (.int .i64 pBits2)]]), ([1, 6], fun vs w => VL vs [(.bool z82), (.int .u32 z89)] ∧ SP [] w0 w [boxE g4 51 #[(.int .u32 pAddr1), (.int .i64 pBits2)]])] (N := 12) K ⟨K, Nat.zero_lt_succ _⟩ (show VL [] [] ∧ SP [] w0 w5.drew [boxE g4 51 #[(.int .u32 pAddr1), (.int .i64 pBits2)]] from ⟨trivial, SP.drew hs7⟩) ⟨⟨⟨⟨⟨⟨⟨⟨⟨⟨⟨⟨trivial, ?_⟩, ?_⟩, ?_⟩, ?_⟩, ?_⟩, ?_⟩, ?_⟩, ?_⟩, ?_⟩, ?_⟩, ?_⟩, ?_⟩ (last := 2) K ?_
   ·refine Owe.light K [0] K (all_cons ?_ all_nil)
    ·rintro ρ' w' hs hah ⟨hvl108, hs107⟩
     have hkn : Known ρ' [(2, (pt g4 0))] := ⟨(hs 2 K).trans K, trivial⟩
     refine Step.known _ hkn ?_
     refine Step.load (t := 51) (x := (.tmp 2)) (g := g4) (off := 0) (i := 0) (v := (.agg #[(.int .u32 pAddr1), (.int .i64 pBits2)])) (d := (some 5)) (k := 0) K rfl K hs107 rfl K ?_
     exact ⟨rfl, _, updO_known hkn, rfl⟩
   ·refine Owe.heavy K [(0, 1)] K (all_cons ⟨K, K, ?_⟩ all_nil)
    ·rintro ρ' w' hs hah ⟨hvl110, hs109⟩
     have hkn : Known ρ' [(5, (.agg #[(.int .u32 pAddr1), (.int .i64 pBits2)]))] := ⟨hah 0 5 K, trivial⟩
     refine Step.known _ hkn ?_
     refine Step.callF (f := 43) (fo := (.func 43)) (xs := #[(.tmp 5)]) (tys := #[51]) (first := #[]) (captured := #[]) (d := (some 6)) (k := 1) K rfl K K Tryd.call43 (L_subwayref04_Right_walk  pAddr1 pBits2 w'  z82 hz83) ?_
     rintro e w111 ⟨rfl, hs112⟩
     refine ⟨_, rfl, ?_⟩
     have hs114 : SP [] w0 w111 [boxE g4 51 #[(.int .u32 pAddr1), (.int .i64 pBits2)]] := SP.call hs109 hs112
     clear hs112
     refine ⟨_, updO_known hkn, rfl, ?_⟩
     exact (And.intro (And.intro rfl (trivial)) (hs114))
   ·exact Owe.run K [(6, (.bool z82))] ⟨gA 1 K K, trivial⟩ (.bool z82) (fun _ _ => K) rfl
   ·exact Owe.run K [(1, (.int .u32 p3)), (7, (.bool true))] ⟨gS K K, gB 2 K z82 K hb88, trivial⟩ (.int .u32 p3) (fun _ _ => K) rfl
   ·exact Owe.run K [(2, (pt g4 0)), (7, (.bool true))] ⟨gS K K, gB 2 K z82 K hb88, trivial⟩ (pt g4 1) (fun _ _ => K) rfl
   ·refine Owe.light K [1] K (all_cons ?_ all_nil)
    ·rintro ρ' w' hs hah ⟨⟨q116, -⟩, hs115⟩
     have e9 := hah 4 9 K
     have e7 := hah 2 7 K
     have hkn : Known ρ' [(9, (pt g4 1)), (7, (.bool true))] := ⟨e9, (Eq.trans e7 (congrArg Value.bool hb88)), trivial⟩
     refine Step.known _ hkn ?_
     refine Step.load (t := 3) (x := (.tmp 9)) (g := g4) (off := 1) (i := 0) (v := (.int .i64 pBits2)) (d := (some 10)) (k := 5) K rfl K hs115 rfl K ?_
     exact ⟨rfl, _, updO_known hkn, rfl⟩
   ·refine Owe.heavy K [(1, 2)] K (all_cons ⟨K, K, ?_⟩ all_nil)
    ·rintro ρ' w' hs hah ⟨⟨q119, -⟩, hs118⟩
     have e8 := hah 3 8 K
     have e10 := hah 5 10 K
     have e7 := hah 2 7 K
     have hkn : Known ρ' [(8, (.int .u32 p3)), (10, (.int .i64 pBits2)), (7, (.bool true))] := ⟨e8, e10, (Eq.trans e7 (congrArg Value.bool hb88)), trivial⟩
     refine Step.known _ hkn ?_
     refine Step.callF (f := 44) (fo := (.func 44)) (xs := #[(.tmp 8), (.tmp 10)]) (tys := #[33, 3]) (first := #[]) (captured := #[]) (d := (some 11)) (k := 6) K rfl K K Tryd.call44 (L_subwayref04_head_walk  p3 pBits2 w'  z89 hz90) ?_
     rintro e w121 ⟨rfl, hs122⟩
     refine ⟨_, rfl, ?_⟩
     have hs124 : SP [] w0 w121 [boxE g4 51 #[(.int .u32 pAddr1), (.int .i64 pBits2)]] := SP.call hs118 hs122
     clear hs122
     refine ⟨_, updO_known hkn, rfl, ?_⟩
     exact (And.intro (And.intro q119 (And.intro rfl (trivial))) (hs124))
   ·exact Owe.run K [(2, (pt g4 0)), (7, (.bool true))] ⟨gS K K, gB 2 K z82 K hb88, trivial⟩ (pt g4 0) (fun _ _ => K) rfl
   ·refine Owe.light K [1, 2] K (all_cons ?_ (all_cons ?_ all_nil))
    ·rintro ρ' w' hs hah ⟨⟨q126, -⟩, hs125⟩
     have e12 := hah 7 12 K
     have e7 := hah 2 7 K
     have hkn : Known ρ' [(12, (pt g4 0)), (7, (.bool true))] := ⟨e12, (Eq.trans e7 (congrArg Value.bool hb88)), trivial⟩
     refine Step.known _ hkn ?_
     refine Step.load (t := 33) (x := (.tmp 12)) (g := g4) (off := 0) (i := 0) (v := (.int .u32 pAddr1)) (d := (some 13)) (k := 8) K rfl K hs125 rfl K ?_
     exact ⟨rfl, _, updO_known hkn, rfl⟩
    ·rintro ρ' w' hs hah ⟨⟨q129, q130, -⟩, hs128⟩
     have e12 := hah 7 12 K
     have e7 := hah 2 7 K
     have hkn : Known ρ' [(12, (pt g4 0)), (7, (.bool true))] := ⟨e12, (Eq.trans e7 (congrArg Value.bool hb88)), trivial⟩
     refine Step.known _ hkn ?_
     refine Step.load (t := 33) (x := (.tmp 12)) (g := g4) (off := 0) (i := 0) (v := (.int .u32 pAddr1)) (d := (some 13)) (k := 8) K rfl K hs128 rfl K ?_
     exact ⟨rfl, _, updO_known hkn, rfl⟩
   ·exact Owe.run K [(11, (.int .u32 z89)), (13, (.int .u32 pAddr1)), (7, (.bool true))] ⟨gA 6 K K, gA 8 K K, gB 2 K z82 K hb88, trivial⟩ (.bool (z89 == pAddr1)) (fun _ _ => K) rfl
   ·exact Owe.run K [(7, (.bool true)), (14, (.bool (z89 == pAddr1)))] ⟨gB 2 K z82 K hb88, gA 9 K K, trivial⟩ (.bool (z89 == pAddr1)) (fun _ _ => K) rfl
   ·exact Owe.run K [(15, (.bool (z89 == pAddr1)))] ⟨gA 10 K K, trivial⟩ (.bool (z89 == pAddr1)) (fun _ _ => K) rfl
   ·rintro ρ' w' hs hf ⟨⟨q133, q134, -⟩, hs132⟩
    refine postKnown [(4, (.bool (z89 == pAddr1)))] ⟨hf 11 4 K, trivial⟩ ?_
    obtain ⟨w136, hww136⟩ : ∃ x, w' = x := ⟨_, rfl⟩
    rw [hww136] at hs132 ⊢
    exact ⟨(z89 == pAddr1), ⟨K, trivial⟩, SP.sel hs132 [] rfl rfl, H⟩
  ·have H := cf H hb88
   refine At.stages K K K K K [GEq (.agg #[(.int .u32 pAddr1), (.int .i64 pBits2)]), GEq (.bool z82), GEq (.bool z82), GEq undef, GEq undef, GEq undef, GEq undef, GEq undef, GEq undef, GEq undef, GEq (.bool false), GEq (.bool false)] [1] [([], fun vs w => VL vs [] ∧ SP [] w0 w [boxE g4 51 #[(.int .u32 pAddr1), (.int .i64 pBits2)]]), ([1], fun vs w => VL vs [(.bool z82)] ∧ SP [] w0 w [boxE g4 51 #[(.int .u32 pAddr1), (.int .i64 pBits2)]])] (N := 12) K ⟨K, Nat.zero_lt_succ _⟩ (show VL [] [] ∧ SP [] w0 w5.drew [boxE g4 51 #[(.int .u32 pAddr1), (.int .i64 pBits2)]] from ⟨trivial, SP.drew hs7⟩) ⟨⟨⟨⟨⟨⟨⟨⟨⟨⟨⟨⟨trivial, ?_⟩, ?_⟩, ?_⟩, ?_⟩, ?_⟩, ?_⟩, ?_⟩, ?_⟩, ?_⟩, ?_⟩, ?_⟩, ?_⟩ (last := 1) K ?_
   ·refine Owe.light K [0] K (all_cons ?_ all_nil)
    ·rintro ρ' w' hs hah ⟨hvl142, hs141⟩
     have hkn : Known ρ' [(2, (pt g4 0))] := ⟨(hs 2 K).trans K, trivial⟩
     refine Step.known _ hkn ?_
     refine Step.load (t := 51) (x := (.tmp 2)) (g := g4) (off := 0) (i := 0) (v := (.agg #[(.int .u32 pAddr1), (.int .i64 pBits2)])) (d := (some 5)) (k := 0) K rfl K hs141 rfl K ?_
     exact ⟨rfl, _, updO_known hkn, rfl⟩
   ·refine Owe.heavy K [(0, 1)] K (all_cons ⟨K, K, ?_⟩ all_nil)
    ·rintro ρ' w' hs hah ⟨hvl144, hs143⟩
     have hkn : Known ρ' [(5, (.agg #[(.int .u32 pAddr1), (.int .i64 pBits2)]))] := ⟨hah 0 5 K, trivial⟩
     refine Step.known _ hkn ?_
     refine Step.callF (f := 43) (fo := (.func 43)) (xs := #[(.tmp 5)]) (tys := #[51]) (first := #[]) (captured := #[]) (d := (some 6)) (k := 1) K rfl K K Tryd.call43 (L_subwayref04_Right_walk  pAddr1 pBits2 w'  z82 hz83) ?_
     rintro e w145 ⟨rfl, hs146⟩
     refine ⟨_, rfl, ?_⟩
     have hs148 : SP [] w0 w145 [boxE g4 51 #[(.int .u32 pAddr1), (.int .i64 pBits2)]] := SP.call hs143 hs146
     clear hs146
     refine ⟨_, updO_known hkn, rfl, ?_⟩
     exact (And.intro (And.intro rfl (trivial)) (hs148))
   ·exact Owe.run K [(6, (.bool z82))] ⟨gA 1 K K, trivial⟩ (.bool z82) (fun _ _ => K) rfl
   ·exact Owe.skip K [(7, (.bool false))] ⟨gB 2 K z82 K hb88, trivial⟩ (some 8) (fun _ => K) K rfl
   ·exact Owe.skip K [(7, (.bool false))] ⟨gB 2 K z82 K hb88, trivial⟩ (some 9) (fun _ => K) K rfl
   ·exact Owe.skip K [(7, (.bool false))] ⟨gB 2 K z82 K hb88, trivial⟩ (some 10) (fun _ => K) K rfl
   ·exact Owe.skip K [(7, (.bool false))] ⟨gB 2 K z82 K hb88, trivial⟩ (some 11) (fun _ => K) K rfl
   ·exact Owe.skip K [(7, (.bool false))] ⟨gB 2 K z82 K hb88, trivial⟩ (some 12) (fun _ => K) K rfl
   ·exact Owe.skip K [(7, (.bool false))] ⟨gB 2 K z82 K hb88, trivial⟩ (some 13) (fun _ => K) K rfl
   ·exact Owe.skip K [(7, (.bool false))] ⟨gB 2 K z82 K hb88, trivial⟩ (some 14) (fun _ => K) K rfl
   ·exact Owe.run K [(7, (.bool false)), (14, undef)] ⟨gB 2 K z82 K hb88, gA 9 K K, trivial⟩ (.bool false) (fun _ _ => K) rfl
   ·exact Owe.run K [(15, (.bool false))] ⟨gA 10 K K, trivial⟩ (.bool false) (fun _ _ => K) rfl
   ·rintro ρ' w' hs hf ⟨⟨q150, -⟩, hs149⟩
    refine postKnown [(4, (.bool false))] ⟨hf 11 4 K, trivial⟩ ?_
    obtain ⟨w152, hww152⟩ : ∃ x, w' = x := ⟨_, rfl⟩
    rw [hww152] at hs149 ⊢
    exact ⟨false, ⟨K, trivial⟩, SP.sel hs149 [] rfl rfl, H⟩
 ·rintro ρ w80 ⟨v79, hk, hs81, H⟩
  unfold L_subwayref04_In_k1 at H
  first | refine At.known [(4, (.bool v79))] hk ?_ | rw [← known_updL (l := [(4, (.bool v79))]) hk]
  refine At.ret K ?_
  refine ⟨(.bool v79), K, ?_⟩
  obtain rfl := some_elim H
  exact ⟨rfl, SP.sel hs81 [] rfl rfl⟩
end Go.Proofs.YtfffjaijflbeaaaDoor
