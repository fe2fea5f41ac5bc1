/- LIFTED BY PROGRAM (tools/lift.py): what functions compute, and that they do. -/
import Derived.Test.YthnakiihenbcjaaDoorLR1d
namespace Go.Proofs.YthnakiihenbcjaaDoor
set_option linter.unusedSimpArgs false
set_option linter.unusedVariables false
open Go.RowKit

/-! L_subwayref04_Name -/
def L_subwayref04_Name_k9 (rec7 : Int → Option (Bool)) (v36 : Int) (v83 : Bool) : Option (Bool) :=
  (cond v83 (some (false)) (rec7 (IntKind.wrap .i64 (v36 + 1))))
def L_subwayref04_Name_k8 (rec7 : Int → Option (Bool)) (v36 : Int) (x69 : UInt8) (v75 : Bool) : Option (Bool) :=
  (cond (!v75) (cond (decide (((x69).toNat : Int) < 97)) (cond (decide (((x69).toNat : Int) < 48)) (L_subwayref04_Name_k9 rec7 v36 true) (L_subwayref04_Name_k9 rec7 v36 (decide (((x69).toNat : Int) > 57)))) (cond (decide (((x69).toNat : Int) > 122)) (cond (decide (((x69).toNat : Int) < 48)) (L_subwayref04_Name_k9 rec7 v36 true) (L_subwayref04_Name_k9 rec7 v36 (decide (((x69).toNat : Int) > 57)))) (L_subwayref04_Name_k9 rec7 v36 false))) (L_subwayref04_Name_k9 rec7 v36 false))
def L_subwayref04_Name_k10 (rec7 : Int → Option (Bool)) (v95 : Bool) : Option (Bool) :=
  (some (v95))
def L_subwayref04_Name_b4 (rec7 : Int → Option (Bool)) (p1 : (List UInt8)) (v36 : Int) : Option (Bool) :=
  (cond (decide (v36 < ((List.length p1 : Nat) : Int))) ((idx p1 v36).bind fun x69 => (cond (((x69).toNat : Int) == 45) (cond (decide (v36 > 0)) (L_subwayref04_Name_k8 rec7 v36 x69 (decide (v36 < (IntKind.wrap .i64 (((List.length p1 : Nat) : Int) - 1))))) (L_subwayref04_Name_k8 rec7 v36 x69 false)) (L_subwayref04_Name_k8 rec7 v36 x69 false))) (cond (decide (((List.length p1 : Nat) : Int) ≥ 1)) (L_subwayref04_Name_k10 rec7 (decide (((List.length p1 : Nat) : Int) ≤ 20))) (L_subwayref04_Name_k10 rec7 false)))
def L_subwayref04_Name_l4 (p1 : (List UInt8)) : Nat → Int → Option (Bool)
  | 0, _ => none
  | f + 1, v36 => L_subwayref04_Name_b4  (L_subwayref04_Name_l4 p1 f) p1 v36
def L_subwayref04_Name (p1 : (List UInt8)) : Option (Bool) :=
  (L_subwayref04_Name_l4 p1 fuel 0)
set_option maxRecDepth 100000 in
set_option maxHeartbeats 4000000 in
theorem L_subwayref04_Name_walk  (p1 : (List UInt8)) (w0 : World)  (r : (Bool)) (H : L_subwayref04_Name p1 = some r) :
  Calls Tryd.prog 16 #[(.string ⟨List.toArray p1⟩)] w0 (fun e w' => e = .returned (.bool r) ∧ SP [] w0 w' []) := by
 unfold L_subwayref04_Name at H
 refine calls_start (n := 54) Tryd.func16 (by kernel_rfl) (by kernel_rfl) (by kernel_rfl) ?_
 have hs0 := SP.start [] w0
 refine At.seq (by kernel_rfl) (p0 := [false]) (p1 := [true]) rfl rfl ?_
 refine At.region (by kernel_rfl) (by kernel_rfl) ?_
 refine In.run' 1 (k' := 1) rfl [(2, (.bool false))] (by kernel_rfl) ?_
 refine In.fin (by kernel_rfl) ?_
 refine At.seq (by kernel_rfl) (p0 := [true, false]) (p1 := [true, true]) rfl rfl ?_
 refine At.seq (by kernel_rfl) (p0 := [true, false, false]) (p1 := [true, false, true]) rfl rfl ?_
 refine At.region (by kernel_rfl) (by kernel_rfl) ?_
 refine In.run' 1 (k' := 1) rfl [(3, (.int .i64 0))] (by kernel_rfl) ?_
 refine In.fin (by kernel_rfl) ?_
 refine At.block (by kernel_rfl) (id := 0) (by kernel_rfl) (p0 := [true, false, true, false]) rfl ?_
 refine At.loop (by kernel_rfl) (p0 := [true, false, true, false, false]) rfl (fun f7 ρ w => ∃ (v36 : Int), Known ρ [(0, (.string ⟨List.toArray p1⟩)), (3, (.int .i64 v36))] ∧ SP [] w0 w [] ∧ L_subwayref04_Name_l4 p1 f7 v36 = some r) (by rintro ρ w ⟨v36, hk, hs, H⟩; cases H) ?_ fuel ?_
 ·rintro f7 ρ w34 ⟨v36, hk, hs35, H⟩
  refine At.known [(0, (.string ⟨List.toArray p1⟩)), (3, (.int .i64 v36))] hk ?_
  replace H := (show L_subwayref04_Name_b4 (L_subwayref04_Name_l4 p1 f7) p1 v36 = some r from H)
  unfold L_subwayref04_Name_b4 at H
  refine At.seq (by kernel_rfl) (p0 := [true, false, true, false, false, false]) (p1 := [true, false, true, false, false, true]) rfl rfl ?_
  refine At.seq (by kernel_rfl) (p0 := [true, false, true, false, false, false, false]) (p1 := [true, false, true, false, false, false, true]) rfl rfl ?_
  refine At.region (by kernel_rfl) (by kernel_rfl) ?_
  refine In.run' 4 (k' := 4) rfl [(6, (.int .i64 v36)), (7, (.string ⟨List.toArray p1⟩)), (8, (.int .i64 ((List.length p1 : Nat) : Int))), (9, (.bool (decide (v36 < ((List.length p1 : Nat) : Int)))))] (by kernel_rfl) ?_
  refine In.fin (by kernel_rfl) ?_
  refine At.cond (by kernel_rfl) (o := (.tmp 9)) (by kernel_rfl) (b := (decide (v36 < ((List.length p1 : Nat) : Int)))) (by kernel_rfl) (p0 := [true, false, true, false, false, false, true, false]) (p1 := [true, false, true, false, false, false, true, true]) rfl rfl (fun hb68 => ?_) (fun hb68 => ?_)
  ·have H := ct H hb68
   refine At.skip (by kernel_rfl) ?_
   refine At.seq (by kernel_rfl) (p0 := [true, false, true, false, false, true, false]) (p1 := [true, false, true, false, false, true, true]) rfl rfl ?_
   refine At.block (by kernel_rfl) (id := 1) (by kernel_rfl) (p0 := [true, false, true, false, false, true, false, false]) rfl ?_
   refine At.seq (by kernel_rfl) (p0 := [true, false, true, false, false, true, false, false, false]) (p1 := [true, false, true, false, false, true, false, false, true]) rfl rfl ?_
   refine At.region (by kernel_rfl) (by kernel_rfl) ?_
   refine In.run' 2 (k' := 2) rfl [(12, (.string ⟨List.toArray p1⟩)), (13, (.int .i64 v36))] (by kernel_rfl) ?_
   obtain ⟨x69, hp70, hq71, hx72, H⟩ := idx_elim H
   refine In.step (k' := 3) rfl (by kernel_rfl) ?_
   refine Step.strIdx (a := p1) (u := x69) (T := 9) (x := (.tmp 12)) (ix := (.tmp 13)) (ki := .i64) (iz := v36) (d := (some 14)) (k := 2) (by kernel_rfl) rfl (by kernel_rfl) (by kernel_rfl) (by kernel_rfl) hp70 hx72 ?_
   refine In.run' 1 (k' := 4) rfl [(4, (.int .u8 ((x69).toNat : Int)))] (by kernel_rfl) ?_
   refine In.fin (by kernel_rfl) ?_
   refine At.seq (by kernel_rfl) (p0 := [true, false, true, false, false, true, false, false, true, false]) (p1 := [true, false, true, false, false, true, false, false, true, true]) rfl rfl ?_
   refine At.join (fun ρ w => ∃ (v75 : Bool), Known ρ [(0, (.string ⟨List.toArray p1⟩)), (3, (.int .i64 v36)), (4, (.int .u8 ((x69).toNat : Int))), (5, (.bool v75))] ∧ SP [] w0 w [] ∧ L_subwayref04_Name_k8 (L_subwayref04_Name_l4 p1 f7) v36 x69 v75 = some r) ?_ ?_
   ·refine At.region (by kernel_rfl) (by kernel_rfl) ?_
    refine In.run' 3 (k' := 3) rfl [(15, (.int .u8 ((x69).toNat : Int))), (16, (.bool (((x69).toNat : Int) == 45))), (17, (.bool (((x69).toNat : Int) == 45)))] (by kernel_rfl) ?_
    refine In.guard (t := 17) (b := (((x69).toNat : Int) == 45)) (by kernel_rfl) (fun hb92 => ?_) (fun hb92 => ?_)
    ·have H := ct H hb92
     refine In.run' 4 (k' := 7) rfl [(18, (.int .i64 v36)), (19, (.bool (decide (v36 > 0)))), (20, (.bool (decide (v36 > 0)))), (21, (.bool (decide (v36 > 0))))] (by kernel_rfl) ?_
     refine In.guard (t := 21) (b := (decide (v36 > 0))) (by kernel_rfl) (fun hb93 => ?_) (fun hb93 => ?_)
     ·have H := ct H hb93
      refine In.run' 7 (k' := 14) rfl [(22, (.int .i64 v36)), (23, (.string ⟨List.toArray p1⟩)), (24, (.int .i64 ((List.length p1 : Nat) : Int))), (25, (.int .i64 (IntKind.wrap .i64 (((List.length p1 : Nat) : Int) - 1)))), (26, (.bool (decide (v36 < (IntKind.wrap .i64 (((List.length p1 : Nat) : Int) - 1)))))), (27, (.bool (decide (v36 < (IntKind.wrap .i64 (((List.length p1 : Nat) : Int) - 1)))))), (5, (.bool (decide (v36 < (IntKind.wrap .i64 (((List.length p1 : Nat) : Int) - 1))))))] (by kernel_rfl) ?_
      refine In.fin (by kernel_rfl) ?_
      exact ⟨(decide (v36 < (IntKind.wrap .i64 (((List.length p1 : Nat) : Int) - 1)))), ⟨(by kernel_rfl), (by kernel_rfl), (by kernel_rfl), (by kernel_rfl), trivial⟩, SP.sel hs35 [] rfl rfl, H⟩
     ·have H := cf H hb93
      refine In.run' 7 (k' := 14) rfl [(22, undef), (23, undef), (24, undef), (25, undef), (26, undef), (27, (.bool false)), (5, (.bool false))] (by kernel_rfl) ?_
      refine In.fin (by kernel_rfl) ?_
      exact ⟨false, ⟨(by kernel_rfl), (by kernel_rfl), (by kernel_rfl), (by kernel_rfl), trivial⟩, SP.sel hs35 [] rfl rfl, H⟩
    ·have H := cf H hb92
     refine In.run' 11 (k' := 14) rfl [(18, undef), (19, undef), (20, (.bool false)), (21, (.bool false)), (22, undef), (23, undef), (24, undef), (25, undef), (26, undef), (27, (.bool false)), (5, (.bool false))] (by kernel_rfl) ?_
     refine In.fin (by kernel_rfl) ?_
     exact ⟨false, ⟨(by kernel_rfl), (by kernel_rfl), (by kernel_rfl), (by kernel_rfl), trivial⟩, SP.sel hs35 [] rfl rfl, H⟩
   ·rintro ρ w76 ⟨v75, hk, hs77, H⟩
    unfold L_subwayref04_Name_k8 at H
    refine At.known [(0, (.string ⟨List.toArray p1⟩)), (3, (.int .i64 v36)), (4, (.int .u8 ((x69).toNat : Int))), (5, (.bool v75))] hk ?_
    refine At.seq (by kernel_rfl) (p0 := [true, false, true, false, false, true, false, false, true, true, false]) (p1 := [true, false, true, false, false, true, false, false, true, true, true]) rfl rfl ?_
    refine At.join (fun ρ w => ∃ (v83 : Bool), Known ρ [(0, (.string ⟨List.toArray p1⟩)), (3, (.int .i64 v36)), (45, (.bool v83))] ∧ SP [] w0 w [] ∧ L_subwayref04_Name_k9 (L_subwayref04_Name_l4 p1 f7) v36 v83 = some r) ?_ ?_
    ·refine At.region (by kernel_rfl) (by kernel_rfl) ?_
     refine In.run' 3 (k' := 3) rfl [(28, (.bool v75)), (29, (.bool (!v75))), (30, (.bool (!v75)))] (by kernel_rfl) ?_
     refine In.guard (t := 30) (b := (!v75)) (by kernel_rfl) (fun hb87 => ?_) (fun hb87 => ?_)
     ·have H := ct H hb87
      refine In.run' 3 (k' := 6) rfl [(31, (.int .u8 ((x69).toNat : Int))), (32, (.bool (decide (((x69).toNat : Int) < 97)))), (33, (.bool (decide (((x69).toNat : Int) < 97))))] (by kernel_rfl) ?_
      refine In.guard (t := 33) (b := (decide (((x69).toNat : Int) < 97))) (by kernel_rfl) (fun hb88 => ?_) (fun hb88 => ?_)
      ·have H := ct H hb88
       refine In.run' 8 (k' := 14) rfl [(34, undef), (35, undef), (36, (.bool true)), (37, (.bool true)), (38, (.bool true)), (39, (.int .u8 ((x69).toNat : Int))), (40, (.bool (decide (((x69).toNat : Int) < 48)))), (41, (.bool (decide (((x69).toNat : Int) < 48))))] (by kernel_rfl) ?_
       refine In.guard (t := 41) (b := (decide (((x69).toNat : Int) < 48))) (by kernel_rfl) (fun hb89 => ?_) (fun hb89 => ?_)
       ·have H := ct H hb89
        refine In.run' 4 (k' := 18) rfl [(42, undef), (43, undef), (44, (.bool true)), (45, (.bool true))] (by kernel_rfl) ?_
        refine In.fin (by kernel_rfl) ?_
        exact ⟨true, ⟨(by kernel_rfl), (by kernel_rfl), (by kernel_rfl), trivial⟩, SP.sel hs77 [] rfl rfl, H⟩
       ·have H := cf H hb89
        refine In.run' 4 (k' := 18) rfl [(42, (.int .u8 ((x69).toNat : Int))), (43, (.bool (decide (((x69).toNat : Int) > 57)))), (44, (.bool (decide (((x69).toNat : Int) > 57)))), (45, (.bool (decide (((x69).toNat : Int) > 57))))] (by kernel_rfl) ?_
        refine In.fin (by kernel_rfl) ?_
        exact ⟨(decide (((x69).toNat : Int) > 57)), ⟨(by kernel_rfl), (by kernel_rfl), (by kernel_rfl), trivial⟩, SP.sel hs77 [] rfl rfl, H⟩
      ·have H := cf H hb88
       refine In.run' 5 (k' := 11) rfl [(34, (.int .u8 ((x69).toNat : Int))), (35, (.bool (decide (((x69).toNat : Int) > 122)))), (36, (.bool (decide (((x69).toNat : Int) > 122)))), (37, (.bool (decide (((x69).toNat : Int) > 122)))), (38, (.bool (decide (((x69).toNat : Int) > 122))))] (by kernel_rfl) ?_
       refine In.guard (t := 38) (b := (decide (((x69).toNat : Int) > 122))) (by kernel_rfl) (fun hb90 => ?_) (fun hb90 => ?_)
       ·have H := ct H hb90
        refine In.run' 3 (k' := 14) rfl [(39, (.int .u8 ((x69).toNat : Int))), (40, (.bool (decide (((x69).toNat : Int) < 48)))), (41, (.bool (decide (((x69).toNat : Int) < 48))))] (by kernel_rfl) ?_
        refine In.guard (t := 41) (b := (decide (((x69).toNat : Int) < 48))) (by kernel_rfl) (fun hb91 => ?_) (fun hb91 => ?_)
        ·have H := ct H hb91
         refine In.run' 4 (k' := 18) rfl [(42, undef), (43, undef), (44, (.bool true)), (45, (.bool true))] (by kernel_rfl) ?_
         refine In.fin (by kernel_rfl) ?_
         exact ⟨true, ⟨(by kernel_rfl), (by kernel_rfl), (by kernel_rfl), trivial⟩, SP.sel hs77 [] rfl rfl, H⟩
        ·have H := cf H hb91
         refine In.run' 4 (k' := 18) rfl [(42, (.int .u8 ((x69).toNat : Int))), (43, (.bool (decide (((x69).toNat : Int) > 57)))), (44, (.bool (decide (((x69).toNat : Int) > 57)))), (45, (.bool (decide (((x69).toNat : Int) > 57))))] (by kernel_rfl) ?_
         refine In.fin (by kernel_rfl) ?_
         exact ⟨(decide (((x69).toNat : Int) > 57)), ⟨(by kernel_rfl), (by kernel_rfl), (by kernel_rfl), trivial⟩, SP.sel hs77 [] rfl rfl, H⟩
       ·have H := cf H hb90
        refine In.run' 7 (k' := 18) rfl [(39, undef), (40, undef), (41, undef), (42, undef), (43, undef), (44, undef), (45, (.bool false))] (by kernel_rfl) ?_
        refine In.fin (by kernel_rfl) ?_
        exact ⟨false, ⟨(by kernel_rfl), (by kernel_rfl), (by kernel_rfl), trivial⟩, SP.sel hs77 [] rfl rfl, H⟩
     ·have H := cf H hb87
      refine In.run' 15 (k' := 18) rfl [(31, undef), (32, undef), (33, undef), (34, undef), (35, undef), (36, undef), (37, (.bool false)), (38, (.bool false)), (39, undef), (40, undef), (41, undef), (42, undef), (43, undef), (44, undef), (45, (.bool false))] (by kernel_rfl) ?_
      refine In.fin (by kernel_rfl) ?_
      exact ⟨false, ⟨(by kernel_rfl), (by kernel_rfl), (by kernel_rfl), trivial⟩, SP.sel hs77 [] rfl rfl, H⟩
    ·rintro ρ w84 ⟨v83, hk, hs85, H⟩
     unfold L_subwayref04_Name_k9 at H
     refine At.known [(0, (.string ⟨List.toArray p1⟩)), (3, (.int .i64 v36)), (45, (.bool v83))] hk ?_
     refine At.cond (by kernel_rfl) (o := (.tmp 45)) (by kernel_rfl) (b := v83) (by kernel_rfl) (p0 := [true, false, true, false, false, true, false, false, true, true, true, false]) (p1 := [true, false, true, false, false, true, false, false, true, true, true, true]) rfl rfl (fun hb86 => ?_) (fun hb86 => ?_)
     ·have H := ct H hb86
      refine At.seq (by kernel_rfl) (p0 := [true, false, true, false, false, true, false, false, true, true, true, false, false]) (p1 := [true, false, true, false, false, true, false, false, true, true, true, false, true]) rfl rfl ?_
      refine At.region (by kernel_rfl) (by kernel_rfl) ?_
      refine In.run' 1 (k' := 1) rfl [(2, (.bool false))] (by kernel_rfl) ?_
      refine In.fin (by kernel_rfl) ?_
      refine At.ret (by kernel_rfl) ?_
      refine ⟨(.bool false), by kernel_rfl, ?_⟩
      obtain rfl := some_elim H
      exact ⟨rfl, SP.sel hs85 [] rfl rfl⟩
     ·have H := cf H hb86
      refine At.skip (by kernel_rfl) ?_
      refine At.region (by kernel_rfl) (by kernel_rfl) ?_
      refine In.run' 3 (k' := 3) rfl [(10, (.int .i64 v36)), (11, (.int .i64 (IntKind.wrap .i64 (v36 + 1)))), (3, (.int .i64 (IntKind.wrap .i64 (v36 + 1))))] (by kernel_rfl) ?_
      refine In.fin (by kernel_rfl) ?_
      exact ⟨(IntKind.wrap .i64 (v36 + 1)), ⟨(by kernel_rfl), (by kernel_rfl), trivial⟩, SP.sel hs85 [] rfl rfl, H⟩
  ·have H := cf H hb68
   refine At.exit (by kernel_rfl) (id := 0) (by kernel_rfl) ?_
   refine At.seq (by kernel_rfl) (p0 := [true, true, false]) (p1 := [true, true, true]) rfl rfl ?_
   refine At.join (fun ρ w => ∃ (v95 : Bool), Known ρ [(2, (.bool v95))] ∧ SP [] w0 w [] ∧ L_subwayref04_Name_k10 (L_subwayref04_Name_l4 p1 f7) v95 = some r) ?_ ?_
   ·refine At.region (by kernel_rfl) (by kernel_rfl) ?_
    refine In.run' 4 (k' := 4) rfl [(46, (.string ⟨List.toArray p1⟩)), (47, (.int .i64 ((List.length p1 : Nat) : Int))), (48, (.bool (decide (((List.length p1 : Nat) : Int) ≥ 1)))), (49, (.bool (decide (((List.length p1 : Nat) : Int) ≥ 1))))] (by kernel_rfl) ?_
    refine In.guard (t := 49) (b := (decide (((List.length p1 : Nat) : Int) ≥ 1))) (by kernel_rfl) (fun hb98 => ?_) (fun hb98 => ?_)
    ·have H := ct H hb98
     refine In.run' 5 (k' := 9) rfl [(50, (.string ⟨List.toArray p1⟩)), (51, (.int .i64 ((List.length p1 : Nat) : Int))), (52, (.bool (decide (((List.length p1 : Nat) : Int) ≤ 20)))), (53, (.bool (decide (((List.length p1 : Nat) : Int) ≤ 20)))), (2, (.bool (decide (((List.length p1 : Nat) : Int) ≤ 20))))] (by kernel_rfl) ?_
     refine In.fin (by kernel_rfl) ?_
     exact ⟨(decide (((List.length p1 : Nat) : Int) ≤ 20)), ⟨(by kernel_rfl), trivial⟩, SP.sel hs35 [] rfl rfl, H⟩
    ·have H := cf H hb98
     refine In.run' 5 (k' := 9) rfl [(50, undef), (51, undef), (52, undef), (53, (.bool false)), (2, (.bool false))] (by kernel_rfl) ?_
     refine In.fin (by kernel_rfl) ?_
     exact ⟨false, ⟨(by kernel_rfl), trivial⟩, SP.sel hs35 [] rfl rfl, H⟩
   ·rintro ρ w96 ⟨v95, hk, hs97, H⟩
    unfold L_subwayref04_Name_k10 at H
    refine At.known [(2, (.bool v95))] hk ?_
    refine At.ret (by kernel_rfl) ?_
    refine ⟨(.bool v95), by kernel_rfl, ?_⟩
    obtain rfl := some_elim H
    exact ⟨rfl, SP.sel hs97 [] rfl rfl⟩
 ·exact ⟨0, ⟨(by kernel_rfl), (by kernel_rfl), trivial⟩, SP.sel hs0 [] rfl rfl, H⟩
/-! L_subwayref04_Dots -/
def L_subwayref04_Dots_k4 (rec3 : (List UInt8) → Int → Option ((List UInt8))) (v26 : Int) (v59 : (List UInt8)) : Option ((List UInt8)) :=
  (rec3 v59 (IntKind.wrap .i64 (v26 - 1)))
def L_subwayref04_Dots_b2 (rec3 : (List UInt8) → Int → Option ((List UInt8))) (p1 : Int) (v25 : (List UInt8)) (v26 : Int) : Option ((List UInt8)) :=
  (cond (decide (v26 ≥ 0)) ((chk (decide (0 ≤ (IntKind.wrap .i64 (8 * v26))))).bind fun _ => ((L_subwayref01_Decimal (IntKind.wrap .i64 (Int.tmod (bShr .u32 p1 (IntKind.wrap .i64 (8 * v26))) 256))).bind fun z48 => ((app v25 z48).bind fun l54 => (cond (decide (v26 > 0)) ((app l54 ([46] : List UInt8)).bind fun l63 => (L_subwayref04_Dots_k4 rec3 v26 l63)) (L_subwayref04_Dots_k4 rec3 v26 l54))))) (some (v25)))
def L_subwayref04_Dots_l2 (p1 : Int) : Nat → (List UInt8) → Int → Option ((List UInt8))
  | 0, _, _ => none
  | f + 1, v25, v26 => L_subwayref04_Dots_b2  (L_subwayref04_Dots_l2 p1 f) p1 v25 v26
def L_subwayref04_Dots (p1 : Int) : Option ((List UInt8)) :=
  (L_subwayref04_Dots_l2 p1 fuel ([] : List UInt8) 3)
set_option maxRecDepth 100000 in
set_option maxHeartbeats 4000000 in
theorem L_subwayref04_Dots_walk  (p1 : Int) (w0 : World)  (r : ((List UInt8))) (H : L_subwayref04_Dots p1 = some r) :
  Calls Tryd.prog 18 #[(.int .u32 p1)] w0 (fun e w' => e = .returned (.string ⟨List.toArray r⟩) ∧ SP [] w0 w' []) := by
 unfold L_subwayref04_Dots at H
 refine calls_start (n := 23) Tryd.func18 (by kernel_rfl) (by kernel_rfl) (by kernel_rfl) ?_
 have hs0 := SP.start [] w0
 refine At.seq (by kernel_rfl) (p0 := [false]) (p1 := [true]) rfl rfl ?_
 refine At.region (by kernel_rfl) (by kernel_rfl) ?_
 refine In.run' 1 (k' := 1) rfl [(2, (.string ⟨List.toArray ([] : List UInt8)⟩))] (by kernel_rfl) ?_
 refine In.fin (by kernel_rfl) ?_
 refine At.seq (by kernel_rfl) (p0 := [true, false]) (p1 := [true, true]) rfl rfl ?_
 refine At.region (by kernel_rfl) (by kernel_rfl) ?_
 refine In.run' 1 (k' := 1) rfl [(3, (.string ⟨List.toArray ([] : List UInt8)⟩))] (by kernel_rfl) ?_
 refine In.fin (by kernel_rfl) ?_
 refine At.seq (by kernel_rfl) (p0 := [true, true, false]) (p1 := [true, true, true]) rfl rfl ?_
 refine At.seq (by kernel_rfl) (p0 := [true, true, false, false]) (p1 := [true, true, false, true]) rfl rfl ?_
 refine At.region (by kernel_rfl) (by kernel_rfl) ?_
 refine In.run' 1 (k' := 1) rfl [(4, (.int .i64 3))] (by kernel_rfl) ?_
 refine In.fin (by kernel_rfl) ?_
 refine At.block (by kernel_rfl) (id := 0) (by kernel_rfl) (p0 := [true, true, false, true, false]) rfl ?_
 refine At.loop (by kernel_rfl) (p0 := [true, true, false, true, false, false]) rfl (fun f3 ρ w => ∃ (v25 : (List UInt8)) (v26 : Int), Known ρ [(0, (.int .u32 p1)), (3, (.string ⟨List.toArray v25⟩)), (4, (.int .i64 v26))] ∧ SP [] w0 w [] ∧ L_subwayref04_Dots_l2 p1 f3 v25 v26 = some r) (by rintro ρ w ⟨v25, v26, hk, hs, H⟩; cases H) ?_ fuel ?_
 ·rintro f3 ρ w23 ⟨v25, v26, hk, hs24, H⟩
  refine At.known [(0, (.int .u32 p1)), (3, (.string ⟨List.toArray v25⟩)), (4, (.int .i64 v26))] hk ?_
  replace H := (show L_subwayref04_Dots_b2 (L_subwayref04_Dots_l2 p1 f3) p1 v25 v26 = some r from H)
  unfold L_subwayref04_Dots_b2 at H
  refine At.seq (by kernel_rfl) (p0 := [true, true, false, true, false, false, false]) (p1 := [true, true, false, true, false, false, true]) rfl rfl ?_
  refine At.seq (by kernel_rfl) (p0 := [true, true, false, true, false, false, false, false]) (p1 := [true, true, false, true, false, false, false, true]) rfl rfl ?_
  refine At.region (by kernel_rfl) (by kernel_rfl) ?_
  refine In.run' 2 (k' := 2) rfl [(5, (.int .i64 v26)), (6, (.bool (decide (v26 ≥ 0))))] (by kernel_rfl) ?_
  refine In.fin (by kernel_rfl) ?_
  refine At.cond (by kernel_rfl) (o := (.tmp 6)) (by kernel_rfl) (b := (decide (v26 ≥ 0))) (by kernel_rfl) (p0 := [true, true, false, true, false, false, false, true, false]) (p1 := [true, true, false, true, false, false, false, true, true]) rfl rfl (fun hb46 => ?_) (fun hb46 => ?_)
  ·have H := ct H hb46
   refine At.skip (by kernel_rfl) ?_
   refine At.seq (by kernel_rfl) (p0 := [true, true, false, true, false, false, true, false]) (p1 := [true, true, false, true, false, false, true, true]) rfl rfl ?_
   refine At.block (by kernel_rfl) (id := 1) (by kernel_rfl) (p0 := [true, true, false, true, false, false, true, false, false]) rfl ?_
   refine At.seq (by kernel_rfl) (p0 := [true, true, false, true, false, false, true, false, false, false]) (p1 := [true, true, false, true, false, false, true, false, false, true]) rfl rfl ?_
   refine At.region (by kernel_rfl) (by kernel_rfl) ?_
   refine In.run' 4 (k' := 4) rfl [(9, (.string ⟨List.toArray v25⟩)), (10, (.int .u32 p1)), (11, (.int .i64 v26)), (12, (.int .i64 (IntKind.wrap .i64 (8 * v26))))] (by kernel_rfl) ?_
   obtain ⟨hl47, H⟩ := chk_elim H
   refine In.step (k' := 5) rfl (by kernel_rfl) ?_
   refine Step.shift (op := .shr) (T := 22) (T' := 3) (x := (.tmp 10)) (y := (.tmp 12)) (kx := .u32) (ky := .i64) (a := p1) (b := (IntKind.wrap .i64 (8 * v26))) (v := (.int .u32 (bShr .u32 p1 (IntKind.wrap .i64 (8 * v26))))) (d := (some 13)) (k := 4) (by kernel_rfl) rfl (by kernel_rfl) (by kernel_rfl) (of_decide_eq_true hl47) rfl ?_
   refine In.run' 2 (k' := 7) rfl [(14, (.int .u32 (Int.tmod (bShr .u32 p1 (IntKind.wrap .i64 (8 * v26))) 256))), (15, (.int .i64 (IntKind.wrap .i64 (Int.tmod (bShr .u32 p1 (IntKind.wrap .i64 (8 * v26))) 256))))] (by kernel_rfl) ?_
   obtain ⟨z48, hz49, H⟩ := bind_elim H
   refine In.step (k' := 8) rfl (by kernel_rfl) ?_
   refine Step.callF (f := 34) (fo := (.func 34)) (xs := #[(.tmp 15)]) (tys := #[2]) (first := #[]) (captured := #[]) (d := (some 16)) (k := 7) (by kernel_rfl) rfl (by kernel_rfl) (by kernel_rfl) Tryd.call34 (L_subwayref01_Decimal_walk  (IntKind.wrap .i64 (Int.tmod (bShr .u32 p1 (IntKind.wrap .i64 (8 * v26))) 256)) w23  z48 hz49) ?_
   rintro e w50 ⟨rfl, hs51⟩
   refine ⟨_, rfl, ?_⟩
   have hs52 := SP.call hs24 hs51
   clear hs51
   have hs53 : SP [] w0 w50 [] := hs52
   clear hs52
   obtain ⟨hl55, H⟩ := app_elim H
   obtain ⟨l54, hyl54⟩ : ∃ y, v25 ++ z48 = y := ⟨_, rfl⟩
   rw [hyl54] at H
   refine In.step (k' := 9) rfl (by kernel_rfl) ?_
   refine Step.strCat (T := 9) (T' := 9) (x := (.tmp 9)) (y := (.tmp 16)) (a := v25) (b := z48) (d := (some 17)) (k := 8) (by kernel_rfl) rfl (by kernel_rfl) (by kernel_rfl) hl55 ?_
   rw [hyl54]
   refine In.run' 1 (k' := 10) rfl [(3, (.string ⟨List.toArray l54⟩))] (by kernel_rfl) ?_
   refine In.fin (by kernel_rfl) ?_
   refine At.seq (by kernel_rfl) (p0 := [true, true, false, true, false, false, true, false, false, true, false]) (p1 := [true, true, false, true, false, false, true, false, false, true, true]) rfl rfl ?_
   refine At.region (by kernel_rfl) (by kernel_rfl) ?_
   refine In.run' 2 (k' := 2) rfl [(18, (.int .i64 v26)), (19, (.bool (decide (v26 > 0))))] (by kernel_rfl) ?_
   refine In.fin (by kernel_rfl) ?_
   refine At.join (fun ρ w => ∃ (v59 : (List UInt8)), Known ρ [(0, (.int .u32 p1)), (3, (.string ⟨List.toArray v59⟩)), (4, (.int .i64 v26))] ∧ SP [] w0 w [] ∧ L_subwayref04_Dots_k4 (L_subwayref04_Dots_l2 p1 f3) v26 v59 = some r) ?_ ?_
   ·refine At.cond (by kernel_rfl) (o := (.tmp 19)) (by kernel_rfl) (b := (decide (v26 > 0))) (by kernel_rfl) (p0 := [true, true, false, true, false, false, true, false, false, true, true, false]) (p1 := [true, true, false, true, false, false, true, false, false, true, true, true]) rfl rfl (fun hb62 => ?_) (fun hb62 => ?_)
    ·have H := ct H hb62
     refine At.region (by kernel_rfl) (by kernel_rfl) ?_
     refine In.run' 1 (k' := 1) rfl [(20, (.string ⟨List.toArray l54⟩))] (by kernel_rfl) ?_
     obtain ⟨hl64, H⟩ := app_elim H
     obtain ⟨l63, hyl63⟩ : ∃ y, l54 ++ ([46] : List UInt8) = y := ⟨_, rfl⟩
     rw [hyl63] at H
     refine In.step (k' := 2) rfl (by kernel_rfl) ?_
     refine Step.strCat (T := 9) (T' := 9) (x := (.tmp 20)) (y := (.const (.string ⟨List.toArray ([46] : List UInt8)⟩))) (a := l54) (b := ([46] : List UInt8)) (d := (some 21)) (k := 1) (by kernel_rfl) rfl (by kernel_rfl) (by kernel_rfl) hl64 ?_
     rw [hyl63]
     refine In.run' 1 (k' := 3) rfl [(3, (.string ⟨List.toArray l63⟩))] (by kernel_rfl) ?_
     refine In.fin (by kernel_rfl) ?_
     exact ⟨l63, ⟨(by kernel_rfl), (by kernel_rfl), (by kernel_rfl), trivial⟩, SP.sel hs53 [] rfl rfl, H⟩
    ·have H := cf H hb62
     refine At.skip (by kernel_rfl) ?_
     exact ⟨l54, ⟨(by kernel_rfl), (by kernel_rfl), (by kernel_rfl), trivial⟩, SP.sel hs53 [] rfl rfl, H⟩
   ·rintro ρ w60 ⟨v59, hk, hs61, H⟩
    unfold L_subwayref04_Dots_k4 at H
    refine At.known [(0, (.int .u32 p1)), (3, (.string ⟨List.toArray v59⟩)), (4, (.int .i64 v26))] hk ?_
    refine At.region (by kernel_rfl) (by kernel_rfl) ?_
    refine In.run' 3 (k' := 3) rfl [(7, (.int .i64 v26)), (8, (.int .i64 (IntKind.wrap .i64 (v26 - 1)))), (4, (.int .i64 (IntKind.wrap .i64 (v26 - 1))))] (by kernel_rfl) ?_
    refine In.fin (by kernel_rfl) ?_
    exact ⟨v59, (IntKind.wrap .i64 (v26 - 1)), ⟨(by kernel_rfl), (by kernel_rfl), (by kernel_rfl), trivial⟩, SP.sel hs61 [] rfl rfl, H⟩
  ·have H := cf H hb46
   refine At.exit (by kernel_rfl) (id := 0) (by kernel_rfl) ?_
   refine At.seq (by kernel_rfl) (p0 := [true, true, true, false]) (p1 := [true, true, true, true]) rfl rfl ?_
   refine At.region (by kernel_rfl) (by kernel_rfl) ?_
   refine In.run' 2 (k' := 2) rfl [(22, (.string ⟨List.toArray v25⟩)), (2, (.string ⟨List.toArray v25⟩))] (by kernel_rfl) ?_
   refine In.fin (by kernel_rfl) ?_
   refine At.ret (by kernel_rfl) ?_
   refine ⟨(.string ⟨List.toArray v25⟩), by kernel_rfl, ?_⟩
   obtain rfl := some_elim H
   exact ⟨rfl, SP.sel hs24 [] rfl rfl⟩
 ·exact ⟨([] : List UInt8), 3, ⟨(by kernel_rfl), (by kernel_rfl), (by kernel_rfl), trivial⟩, SP.sel hs0 [] rfl rfl, H⟩
/-! L_subwayref04_cut -/
def L_subwayref04_cut_b1 (rec1 : Int → Option ((List UInt8) × (List UInt8) × Bool)) (p1 : (List UInt8)) (p2 : UInt8) (v27 : Int) : Option ((List UInt8) × (List UInt8) × Bool) :=
  (cond (decide (v27 < ((List.length p1 : Nat) : Int))) ((idx p1 v27).bind fun x50 => (cond (((x50).toNat : Int) == ((p2).toNat : Int)) ((sub p1 0 v27).bind fun l58 => ((sub p1 (IntKind.wrap .i64 (v27 + 1)) ((List.length p1 : Nat) : Int)).bind fun l62 => (some (l58, l62, true)))) (rec1 (IntKind.wrap .i64 (v27 + 1))))) (some (p1, ([] : List UInt8), false)))
def L_subwayref04_cut_l1 (p1 : (List UInt8)) (p2 : UInt8) : Nat → Int → Option ((List UInt8) × (List UInt8) × Bool)
  | 0, _ => none
  | f + 1, v27 => L_subwayref04_cut_b1  (L_subwayref04_cut_l1 p1 p2 f) p1 p2 v27
def L_subwayref04_cut (p1 : (List UInt8)) (p2 : UInt8) : Option ((List UInt8) × (List UInt8) × Bool) :=
  (L_subwayref04_cut_l1 p1 p2 fuel 0)
set_option maxRecDepth 100000 in
set_option maxHeartbeats 4000000 in
theorem L_subwayref04_cut_walk  (p1 : (List UInt8)) (p2 : UInt8) (w0 : World)  (r : ((List UInt8) × (List UInt8) × Bool)) (H : L_subwayref04_cut p1 p2 = some r) :
  Calls Tryd.prog 26 #[(.string ⟨List.toArray p1⟩), (.int .u8 ((p2).toNat : Int))] w0 (fun e w' => e = .returned (.tuple #[(.string ⟨List.toArray r.1⟩), (.string ⟨List.toArray r.2.1⟩), (.bool r.2.2)]) ∧ SP [] w0 w' []) := by
 unfold L_subwayref04_cut at H
 refine calls_start (n := 27) Tryd.func26 (by kernel_rfl) (by kernel_rfl) (by kernel_rfl) ?_
 have hs0 := SP.start [] w0
 refine At.seq (by kernel_rfl) (p0 := [false]) (p1 := [true]) rfl rfl ?_
 refine At.region (by kernel_rfl) (by kernel_rfl) ?_
 refine In.run' 3 (k' := 3) rfl [(4, (.string ⟨List.toArray ([] : List UInt8)⟩)), (5, (.string ⟨List.toArray ([] : List UInt8)⟩)), (6, (.bool false))] (by kernel_rfl) ?_
 refine In.fin (by kernel_rfl) ?_
 refine At.seq (by kernel_rfl) (p0 := [true, false]) (p1 := [true, true]) rfl rfl ?_
 refine At.seq (by kernel_rfl) (p0 := [true, false, false]) (p1 := [true, false, true]) rfl rfl ?_
 refine At.region (by kernel_rfl) (by kernel_rfl) ?_
 refine In.run' 1 (k' := 1) rfl [(7, (.int .i64 0))] (by kernel_rfl) ?_
 refine In.fin (by kernel_rfl) ?_
 refine At.block (by kernel_rfl) (id := 0) (by kernel_rfl) (p0 := [true, false, true, false]) rfl ?_
 refine At.loop (by kernel_rfl) (p0 := [true, false, true, false, false]) rfl (fun f1 ρ w => ∃ (v27 : Int), Known ρ [(0, (.string ⟨List.toArray p1⟩)), (1, (.int .u8 ((p2).toNat : Int))), (7, (.int .i64 v27))] ∧ SP [] w0 w [] ∧ L_subwayref04_cut_l1 p1 p2 f1 v27 = some r) (by rintro ρ w ⟨v27, hk, hs, H⟩; cases H) ?_ fuel ?_
 ·rintro f1 ρ w25 ⟨v27, hk, hs26, H⟩
  refine At.known [(0, (.string ⟨List.toArray p1⟩)), (1, (.int .u8 ((p2).toNat : Int))), (7, (.int .i64 v27))] hk ?_
  replace H := (show L_subwayref04_cut_b1 (L_subwayref04_cut_l1 p1 p2 f1) p1 p2 v27 = some r from H)
  unfold L_subwayref04_cut_b1 at H
  refine At.seq (by kernel_rfl) (p0 := [true, false, true, false, false, false]) (p1 := [true, false, true, false, false, true]) rfl rfl ?_
  refine At.seq (by kernel_rfl) (p0 := [true, false, true, false, false, false, false]) (p1 := [true, false, true, false, false, false, true]) rfl rfl ?_
  refine At.region (by kernel_rfl) (by kernel_rfl) ?_
  refine In.run' 4 (k' := 4) rfl [(8, (.int .i64 v27)), (9, (.string ⟨List.toArray p1⟩)), (10, (.int .i64 ((List.length p1 : Nat) : Int))), (11, (.bool (decide (v27 < ((List.length p1 : Nat) : Int)))))] (by kernel_rfl) ?_
  refine In.fin (by kernel_rfl) ?_
  refine At.cond (by kernel_rfl) (o := (.tmp 11)) (by kernel_rfl) (b := (decide (v27 < ((List.length p1 : Nat) : Int)))) (by kernel_rfl) (p0 := [true, false, true, false, false, false, true, false]) (p1 := [true, false, true, false, false, false, true, true]) rfl rfl (fun hb49 => ?_) (fun hb49 => ?_)
  ·have H := ct H hb49
   refine At.skip (by kernel_rfl) ?_
   refine At.seq (by kernel_rfl) (p0 := [true, false, true, false, false, true, false]) (p1 := [true, false, true, false, false, true, true]) rfl rfl ?_
   refine At.block (by kernel_rfl) (id := 1) (by kernel_rfl) (p0 := [true, false, true, false, false, true, false, false]) rfl ?_
   refine At.seq (by kernel_rfl) (p0 := [true, false, true, false, false, true, false, false, false]) (p1 := [true, false, true, false, false, true, false, false, true]) rfl rfl ?_
   refine At.region (by kernel_rfl) (by kernel_rfl) ?_
   refine In.run' 2 (k' := 2) rfl [(14, (.string ⟨List.toArray p1⟩)), (15, (.int .i64 v27))] (by kernel_rfl) ?_
   obtain ⟨x50, hp51, hq52, hx53, H⟩ := idx_elim H
   refine In.step (k' := 3) rfl (by kernel_rfl) ?_
   refine Step.strIdx (a := p1) (u := x50) (T := 9) (x := (.tmp 14)) (ix := (.tmp 15)) (ki := .i64) (iz := v27) (d := (some 16)) (k := 2) (by kernel_rfl) rfl (by kernel_rfl) (by kernel_rfl) (by kernel_rfl) hp51 hx53 ?_
   refine In.run' 2 (k' := 5) rfl [(17, (.int .u8 ((p2).toNat : Int))), (18, (.bool (((x50).toNat : Int) == ((p2).toNat : Int))))] (by kernel_rfl) ?_
   refine In.fin (by kernel_rfl) ?_
   refine At.cond (by kernel_rfl) (o := (.tmp 18)) (by kernel_rfl) (b := (((x50).toNat : Int) == ((p2).toNat : Int))) (by kernel_rfl) (p0 := [true, false, true, false, false, true, false, false, true, false]) (p1 := [true, false, true, false, false, true, false, false, true, true]) rfl rfl (fun hb54 => ?_) (fun hb54 => ?_)
   ·have H := ct H hb54
    refine At.seq (by kernel_rfl) (p0 := [true, false, true, false, false, true, false, false, true, false, false]) (p1 := [true, false, true, false, false, true, false, false, true, false, true]) rfl rfl ?_
    obtain ⟨hz55, hz56, hz57, H⟩ := sub_elim H
    obtain ⟨l58, hyl58⟩ : ∃ y, (List.drop (Int.toNat 0) (List.take (Int.toNat v27) p1)) = y := ⟨_, rfl⟩
    rw [hyl58] at H
    obtain ⟨hz59, hz60, hz61, H⟩ := sub_elim H
    obtain ⟨l62, hyl62⟩ : ∃ y, (List.drop (Int.toNat (IntKind.wrap .i64 (v27 + 1))) (List.take (Int.toNat ((List.length p1 : Nat) : Int)) p1)) = y := ⟨_, rfl⟩
    rw [hyl62] at H
    refine At.stages (by kernel_rfl) (by kernel_rfl) (by kernel_rfl) (by kernel_rfl) (by kernel_rfl) [GEq (.string ⟨List.toArray p1⟩), GEq (.int .i64 v27), GEq (.string ⟨List.toArray l58⟩), GEq (.string ⟨List.toArray p1⟩), GEq (.int .i64 v27), GEq (.int .i64 (IntKind.wrap .i64 (v27 + 1))), GEq (.string ⟨List.toArray l62⟩), GEq (.string ⟨List.toArray l58⟩), GEq (.string ⟨List.toArray l62⟩), GEq (.bool true)] [] [([], fun vs w => VL vs [] ∧ SP [] w0 w [])] (N := 10) (by kernel_rfl) ⟨by kernel_rfl, Nat.zero_lt_succ _⟩ (show VL [] [] ∧ SP [] w0 w25.drew [] from ⟨trivial, SP.drew hs26⟩) ⟨⟨⟨⟨⟨⟨⟨⟨⟨⟨trivial, ?_⟩, ?_⟩, ?_⟩, ?_⟩, ?_⟩, ?_⟩, ?_⟩, ?_⟩, ?_⟩, ?_⟩ (last := 0) (by kernel_rfl) ?_
    ·exact Owe.run (by kernel_rfl) [(0, (.string ⟨List.toArray p1⟩))] ⟨gS (by kernel_rfl) (by kernel_rfl), trivial⟩ (.string ⟨List.toArray p1⟩) (fun _ _ => by kernel_rfl) rfl
    ·exact Owe.run (by kernel_rfl) [(7, (.int .i64 v27))] ⟨gS (by kernel_rfl) (by kernel_rfl), trivial⟩ (.int .i64 v27) (fun _ _ => by kernel_rfl) rfl
    ·refine Owe.light (by kernel_rfl) [0] (by kernel_rfl) (all_cons ?_ all_nil)
     ·intro ρ' w' hs hah hP
      obtain ⟨hvl64, hs63⟩ := hP
      have e19 := hah 0 19 (by kernel_rfl)
      have e20 := hah 1 20 (by kernel_rfl)
      have hkn : Known ρ' [(19, (.string ⟨List.toArray p1⟩)), (20, (.int .i64 v27))] := ⟨e19, e20, trivial⟩
      refine Step.known _ hkn ?_
      refine Step.strSlice (a := p1) (T := 9) (x := (.tmp 19)) (lo := none) (hi := (some (.tmp 20))) (i := 0) (j := v27) (d := (some 21)) (k := 2) (by kernel_rfl) rfl (by kernel_rfl) (by kernel_rfl) rfl ⟨.i64, by kernel_rfl⟩ hz55 hz56 hz57 ?_
      rw [hyl58]
      exact ⟨rfl, _, updO_known hkn, rfl⟩
    ·exact Owe.run (by kernel_rfl) [(0, (.string ⟨List.toArray p1⟩))] ⟨gS (by kernel_rfl) (by kernel_rfl), trivial⟩ (.string ⟨List.toArray p1⟩) (fun _ _ => by kernel_rfl) rfl
    ·exact Owe.run (by kernel_rfl) [(7, (.int .i64 v27))] ⟨gS (by kernel_rfl) (by kernel_rfl), trivial⟩ (.int .i64 v27) (fun _ _ => by kernel_rfl) rfl
    ·exact Owe.run (by kernel_rfl) [(23, (.int .i64 v27))] ⟨gA 4 (by kernel_rfl) (by kernel_rfl), trivial⟩ (.int .i64 (IntKind.wrap .i64 (v27 + 1))) (fun _ _ => by kernel_rfl) rfl
    ·refine Owe.light (by kernel_rfl) [0] (by kernel_rfl) (all_cons ?_ all_nil)
     ·intro ρ' w' hs hah hP
      obtain ⟨hvl66, hs65⟩ := hP
      have e22 := hah 3 22 (by kernel_rfl)
      have e24 := hah 5 24 (by kernel_rfl)
      have hkn : Known ρ' [(22, (.string ⟨List.toArray p1⟩)), (24, (.int .i64 (IntKind.wrap .i64 (v27 + 1))))] := ⟨e22, e24, trivial⟩
      refine Step.known _ hkn ?_
      refine Step.strSlice (a := p1) (T := 9) (x := (.tmp 22)) (lo := (some (.tmp 24))) (hi := none) (i := (IntKind.wrap .i64 (v27 + 1))) (j := ((List.length p1 : Nat) : Int)) (d := (some 25)) (k := 6) (by kernel_rfl) rfl (by kernel_rfl) (by kernel_rfl) ⟨.i64, by kernel_rfl⟩ rfl hz59 hz60 hz61 ?_
      rw [hyl62]
      exact ⟨rfl, _, updO_known hkn, rfl⟩
    ·exact Owe.run (by kernel_rfl) [(21, (.string ⟨List.toArray l58⟩))] ⟨gA 2 (by kernel_rfl) (by kernel_rfl), trivial⟩ (.string ⟨List.toArray l58⟩) (fun _ _ => by kernel_rfl) rfl
    ·exact Owe.run (by kernel_rfl) [(25, (.string ⟨List.toArray l62⟩))] ⟨gA 6 (by kernel_rfl) (by kernel_rfl), trivial⟩ (.string ⟨List.toArray l62⟩) (fun _ _ => by kernel_rfl) rfl
    ·exact Owe.run (by kernel_rfl) [] trivial (.bool true) (fun _ _ => by kernel_rfl) rfl
    ·intro ρ' w' hs hf hP
     obtain ⟨hvl68, hs67⟩ := hP
     have e4 := hf 7 4 (by kernel_rfl)
     have e5 := hf 8 5 (by kernel_rfl)
     have e6 := hf 9 6 (by kernel_rfl)
     refine postKnown [(4, (.string ⟨List.toArray l58⟩)), (5, (.string ⟨List.toArray l62⟩)), (6, (.bool true))] ⟨e4, e5, e6, trivial⟩ ?_
     obtain ⟨w69, hww69⟩ : ∃ x, w' = x := ⟨_, rfl⟩
     rw [hww69] at hs67 ⊢
     refine At.ret (by kernel_rfl) ?_
     refine ⟨(.tuple #[(.string ⟨List.toArray l58⟩), (.string ⟨List.toArray l62⟩), (.bool true)]), by kernel_rfl, ?_⟩
     obtain rfl := some_elim H
     exact ⟨rfl, SP.sel hs67 [] rfl rfl⟩
   ·have H := cf H hb54
    refine At.skip (by kernel_rfl) ?_
    refine At.region (by kernel_rfl) (by kernel_rfl) ?_
    refine In.run' 3 (k' := 3) rfl [(12, (.int .i64 v27)), (13, (.int .i64 (IntKind.wrap .i64 (v27 + 1)))), (7, (.int .i64 (IntKind.wrap .i64 (v27 + 1))))] (by kernel_rfl) ?_
    refine In.fin (by kernel_rfl) ?_
    exact ⟨(IntKind.wrap .i64 (v27 + 1)), ⟨(by kernel_rfl), (by kernel_rfl), (by kernel_rfl), trivial⟩, SP.sel hs26 [] rfl rfl, H⟩
  ·have H := cf H hb49
   refine At.exit (by kernel_rfl) (id := 0) (by kernel_rfl) ?_
   refine At.seq (by kernel_rfl) (p0 := [true, true, false]) (p1 := [true, true, true]) rfl rfl ?_
   refine At.region (by kernel_rfl) (by kernel_rfl) ?_
   refine In.run' 4 (k' := 4) rfl [(26, (.string ⟨List.toArray p1⟩)), (4, (.string ⟨List.toArray p1⟩)), (5, (.string ⟨List.toArray ([] : List UInt8)⟩)), (6, (.bool false))] (by kernel_rfl) ?_
   refine In.fin (by kernel_rfl) ?_
   refine At.ret (by kernel_rfl) ?_
   refine ⟨(.tuple #[(.string ⟨List.toArray p1⟩), (.string ⟨List.toArray ([] : List UInt8)⟩), (.bool false)]), by kernel_rfl, ?_⟩
   obtain rfl := some_elim H
   exact ⟨rfl, SP.sel hs26 [] rfl rfl⟩
 ·exact ⟨0, ⟨(by kernel_rfl), (by kernel_rfl), (by kernel_rfl), trivial⟩, SP.sel hs0 [] rfl rfl, H⟩
/-! L_subwayref04_Addr -/
def L_subwayref04_Addr_k4 (rec3 : (List UInt8) → Int → Int → Option (Int × Bool)) (v29 : Int) (v30 : Int) (z53 : ((List UInt8) × (List UInt8) × Bool)) (z59 : (Int × Bool)) (v67 : Bool) : Option (Int × Bool) :=
  (cond v67 (some (0, false)) (rec3 z53.2.1 (IntKind.wrap .u32 ((IntKind.wrap .u32 (256 * v29)) + (IntKind.wrap .u32 z59.1))) (IntKind.wrap .i64 (v30 + 1))))
def L_subwayref04_Addr_b2 (rec3 : (List UInt8) → Int → Int → Option (Int × Bool)) (v28 : (List UInt8)) (v29 : Int) (v30 : Int) : Option (Int × Bool) :=
  (cond (decide (v30 < 4)) ((L_subwayref04_cut v28 (46 : UInt8)).bind fun z53 => ((L_subwayref01_Parse z53.1).bind fun z59 => (cond (!z59.2) (L_subwayref04_Addr_k4 rec3 v29 v30 z53 z59 true) (cond (decide (z59.1 > 255)) (L_subwayref04_Addr_k4 rec3 v29 v30 z53 z59 true) (L_subwayref04_Addr_k4 rec3 v29 v30 z53 z59 (!(z53.2.2 == (decide (v30 < 3))))))))) (some (v29, true)))
def L_subwayref04_Addr_l2  : Nat → (List UInt8) → Int → Int → Option (Int × Bool)
  | 0, _, _, _ => none
  | f + 1, v28, v29, v30 => L_subwayref04_Addr_b2  (L_subwayref04_Addr_l2  f) v28 v29 v30
def L_subwayref04_Addr (p1 : (List UInt8)) : Option (Int × Bool) :=
  (L_subwayref04_Addr_l2  fuel p1 0 0)
set_option maxRecDepth 100000 in
set_option maxHeartbeats 4000000 in
theorem L_subwayref04_Addr_walk  (p1 : (List UInt8)) (w0 : World)  (r : (Int × Bool)) (H : L_subwayref04_Addr p1 = some r) :
  Calls Tryd.prog 12 #[(.string ⟨List.toArray p1⟩)] w0 (fun e w' => e = .returned (.tuple #[(.int .u32 r.1), (.bool r.2)]) ∧ SP [] w0 w' []) := by
 unfold L_subwayref04_Addr at H
 refine calls_start (n := 45) Tryd.func12 (by kernel_rfl) (by kernel_rfl) (by kernel_rfl) ?_
 have hs0 := SP.start [] w0
 refine At.seq (by kernel_rfl) (p0 := [false]) (p1 := [true]) rfl rfl ?_
 refine At.region (by kernel_rfl) (by kernel_rfl) ?_
 refine In.run' 2 (k' := 2) rfl [(2, (.int .u32 0)), (3, (.bool false))] (by kernel_rfl) ?_
 refine In.fin (by kernel_rfl) ?_
 refine At.seq (by kernel_rfl) (p0 := [true, false]) (p1 := [true, true]) rfl rfl ?_
 refine At.region (by kernel_rfl) (by kernel_rfl) ?_
 refine In.run' 1 (k' := 1) rfl [(4, (.int .u32 0))] (by kernel_rfl) ?_
 refine In.fin (by kernel_rfl) ?_
 refine At.seq (by kernel_rfl) (p0 := [true, true, false]) (p1 := [true, true, true]) rfl rfl ?_
 refine At.seq (by kernel_rfl) (p0 := [true, true, false, false]) (p1 := [true, true, false, true]) rfl rfl ?_
 refine At.region (by kernel_rfl) (by kernel_rfl) ?_
 refine In.run' 1 (k' := 1) rfl [(5, (.int .i64 0))] (by kernel_rfl) ?_
 refine In.fin (by kernel_rfl) ?_
 refine At.block (by kernel_rfl) (id := 0) (by kernel_rfl) (p0 := [true, true, false, true, false]) rfl ?_
 refine At.loop (by kernel_rfl) (p0 := [true, true, false, true, false, false]) rfl (fun f3 ρ w => ∃ (v28 : (List UInt8)) (v29 : Int) (v30 : Int), Known ρ [(0, (.string ⟨List.toArray v28⟩)), (4, (.int .u32 v29)), (5, (.int .i64 v30))] ∧ SP [] w0 w [] ∧ L_subwayref04_Addr_l2  f3 v28 v29 v30 = some r) (by rintro ρ w ⟨v28, v29, v30, hk, hs, H⟩; cases H) ?_ fuel ?_
 ·rintro f3 ρ w26 ⟨v28, v29, v30, hk, hs27, H⟩
  refine At.known [(0, (.string ⟨List.toArray v28⟩)), (4, (.int .u32 v29)), (5, (.int .i64 v30))] hk ?_
  replace H := (show L_subwayref04_Addr_b2 (L_subwayref04_Addr_l2 f3) v28 v29 v30 = some r from H)
  unfold L_subwayref04_Addr_b2 at H
  refine At.seq (by kernel_rfl) (p0 := [true, true, false, true, false, false, false]) (p1 := [true, true, false, true, false, false, true]) rfl rfl ?_
  refine At.seq (by kernel_rfl) (p0 := [true, true, false, true, false, false, false, false]) (p1 := [true, true, false, true, false, false, false, true]) rfl rfl ?_
  refine At.region (by kernel_rfl) (by kernel_rfl) ?_
  refine In.run' 2 (k' := 2) rfl [(11, (.int .i64 v30)), (12, (.bool (decide (v30 < 4))))] (by kernel_rfl) ?_
  refine In.fin (by kernel_rfl) ?_
  refine At.cond (by kernel_rfl) (o := (.tmp 12)) (by kernel_rfl) (b := (decide (v30 < 4))) (by kernel_rfl) (p0 := [true, true, false, true, false, false, false, true, false]) (p1 := [true, true, false, true, false, false, false, true, true]) rfl rfl (fun hb52 => ?_) (fun hb52 => ?_)
  ·have H := ct H hb52
   refine At.skip (by kernel_rfl) ?_
   refine At.seq (by kernel_rfl) (p0 := [true, true, false, true, false, false, true, false]) (p1 := [true, true, false, true, false, false, true, true]) rfl rfl ?_
   refine At.block (by kernel_rfl) (id := 1) (by kernel_rfl) (p0 := [true, true, false, true, false, false, true, false, false]) rfl ?_
   refine At.seq (by kernel_rfl) (p0 := [true, true, false, true, false, false, true, false, false, false]) (p1 := [true, true, false, true, false, false, true, false, false, true]) rfl rfl ?_
   refine At.region (by kernel_rfl) (by kernel_rfl) ?_
   refine In.run' 1 (k' := 1) rfl [(16, (.string ⟨List.toArray v28⟩))] (by kernel_rfl) ?_
   obtain ⟨z53, hz54, H⟩ := bind_elim H
   refine In.step (k' := 2) rfl (by kernel_rfl) ?_
   refine Step.callF (f := 26) (fo := (.func 26)) (xs := #[(.tmp 16), (.const (.int .u8 (46)))]) (tys := #[9, 5]) (first := #[]) (captured := #[]) (d := (some 17)) (k := 1) (by kernel_rfl) rfl (by kernel_rfl) (by kernel_rfl) Tryd.call26 (L_subwayref04_cut_walk  v28 (46 : UInt8) w26  z53 hz54) ?_
   rintro e w55 ⟨rfl, hs56⟩
   refine ⟨_, rfl, ?_⟩
   have hs57 := SP.call hs27 hs56
   clear hs56
   have hs58 : SP [] w0 w55 [] := hs57
   clear hs57
   refine In.run' 7 (k' := 9) rfl [(15, (.tuple #[(.string ⟨List.toArray z53.1⟩), (.string ⟨List.toArray z53.2.1⟩), (.bool z53.2.2)])), (18, (.string ⟨List.toArray z53.1⟩)), (19, (.string ⟨List.toArray z53.2.1⟩)), (20, (.bool z53.2.2)), (6, (.string ⟨List.toArray z53.1⟩)), (7, (.string ⟨List.toArray z53.2.1⟩)), (8, (.bool z53.2.2))] (by kernel_rfl) ?_
   refine In.fin (by kernel_rfl) ?_
   refine At.seq (by kernel_rfl) (p0 := [true, true, false, true, false, false, true, false, false, true, false]) (p1 := [true, true, false, true, false, false, true, false, false, true, true]) rfl rfl ?_
   refine At.region (by kernel_rfl) (by kernel_rfl) ?_
   refine In.run' 1 (k' := 1) rfl [(22, (.string ⟨List.toArray z53.1⟩))] (by kernel_rfl) ?_
   obtain ⟨z59, hz60, H⟩ := bind_elim H
   refine In.step (k' := 2) rfl (by kernel_rfl) ?_
   refine Step.callF (f := 27) (fo := (.func 27)) (xs := #[(.tmp 22)]) (tys := #[9]) (first := #[]) (captured := #[]) (d := (some 23)) (k := 1) (by kernel_rfl) rfl (by kernel_rfl) (by kernel_rfl) Tryd.call27 (L_subwayref01_Parse_walk  z53.1 w55  z59 hz60) ?_
   rintro e w61 ⟨rfl, hs62⟩
   refine ⟨_, rfl, ?_⟩
   have hs63 := SP.call hs58 hs62
   clear hs62
   have hs64 : SP [] w0 w61 [] := hs63
   clear hs63
   refine In.run' 5 (k' := 7) rfl [(21, (.tuple #[(.int .i64 z59.1), (.bool z59.2)])), (24, (.int .i64 z59.1)), (25, (.bool z59.2)), (9, (.int .i64 z59.1)), (10, (.bool z59.2))] (by kernel_rfl) ?_
   refine In.fin (by kernel_rfl) ?_
   refine At.seq (by kernel_rfl) (p0 := [true, true, false, true, false, false, true, false, false, true, true, false]) (p1 := [true, true, false, true, false, false, true, false, false, true, true, true]) rfl rfl ?_
   refine At.seq (by kernel_rfl) (p0 := [true, true, false, true, false, false, true, false, false, true, true, false, false]) (p1 := [true, true, false, true, false, false, true, false, false, true, true, false, true]) rfl rfl ?_
   refine At.join (fun ρ w => ∃ (v67 : Bool), Known ρ [(4, (.int .u32 v29)), (5, (.int .i64 v30)), (7, (.string ⟨List.toArray z53.2.1⟩)), (9, (.int .i64 z59.1)), (37, (.bool v67))] ∧ SP [] w0 w [] ∧ L_subwayref04_Addr_k4 (L_subwayref04_Addr_l2 f3) v29 v30 z53 z59 v67 = some r) ?_ ?_
   ·refine At.region (by kernel_rfl) (by kernel_rfl) ?_
    refine In.run' 3 (k' := 3) rfl [(26, (.bool z59.2)), (27, (.bool (!z59.2))), (28, (.bool (!z59.2)))] (by kernel_rfl) ?_
    refine In.guard (t := 28) (b := (!z59.2)) (by kernel_rfl) (fun hb71 => ?_) (fun hb71 => ?_)
    ·have H := ct H hb71
     refine In.run' 9 (k' := 12) rfl [(29, undef), (30, undef), (31, (.bool true)), (32, (.bool true)), (33, undef), (34, undef), (35, undef), (36, undef), (37, (.bool true))] (by kernel_rfl) ?_
     refine In.fin (by kernel_rfl) ?_
     exact ⟨true, ⟨(by kernel_rfl), (by kernel_rfl), (by kernel_rfl), (by kernel_rfl), (by kernel_rfl), trivial⟩, SP.sel hs64 [] rfl rfl, H⟩
    ·have H := cf H hb71
     refine In.run' 4 (k' := 7) rfl [(29, (.int .i64 z59.1)), (30, (.bool (decide (z59.1 > 255)))), (31, (.bool (decide (z59.1 > 255)))), (32, (.bool (decide (z59.1 > 255))))] (by kernel_rfl) ?_
     refine In.guard (t := 32) (b := (decide (z59.1 > 255))) (by kernel_rfl) (fun hb72 => ?_) (fun hb72 => ?_)
     ·have H := ct H hb72
      refine In.run' 5 (k' := 12) rfl [(33, undef), (34, undef), (35, undef), (36, undef), (37, (.bool true))] (by kernel_rfl) ?_
      refine In.fin (by kernel_rfl) ?_
      exact ⟨true, ⟨(by kernel_rfl), (by kernel_rfl), (by kernel_rfl), (by kernel_rfl), (by kernel_rfl), trivial⟩, SP.sel hs64 [] rfl rfl, H⟩
     ·have H := cf H hb72
      refine In.run' 5 (k' := 12) rfl [(33, (.bool z53.2.2)), (34, (.int .i64 v30)), (35, (.bool (decide (v30 < 3)))), (36, (.bool (!(z53.2.2 == (decide (v30 < 3)))))), (37, (.bool (!(z53.2.2 == (decide (v30 < 3))))))] (by kernel_rfl) ?_
      refine In.fin (by kernel_rfl) ?_
      exact ⟨(!(z53.2.2 == (decide (v30 < 3)))), ⟨(by kernel_rfl), (by kernel_rfl), (by kernel_rfl), (by kernel_rfl), (by kernel_rfl), trivial⟩, SP.sel hs64 [] rfl rfl, H⟩
   ·rintro ρ w68 ⟨v67, hk, hs69, H⟩
    unfold L_subwayref04_Addr_k4 at H
    refine At.known [(4, (.int .u32 v29)), (5, (.int .i64 v30)), (7, (.string ⟨List.toArray z53.2.1⟩)), (9, (.int .i64 z59.1)), (37, (.bool v67))] hk ?_
    refine At.cond (by kernel_rfl) (o := (.tmp 37)) (by kernel_rfl) (b := v67) (by kernel_rfl) (p0 := [true, true, false, true, false, false, true, false, false, true, true, false, true, false]) (p1 := [true, true, false, true, false, false, true, false, false, true, true, false, true, true]) rfl rfl (fun hb70 => ?_) (fun hb70 => ?_)
    ·have H := ct H hb70
     refine At.seq (by kernel_rfl) (p0 := [true, true, false, true, false, false, true, false, false, true, true, false, true, false, false]) (p1 := [true, true, false, true, false, false, true, false, false, true, true, false, true, false, true]) rfl rfl ?_
     refine At.region (by kernel_rfl) (by kernel_rfl) ?_
     refine In.run' 2 (k' := 2) rfl [(2, (.int .u32 0)), (3, (.bool false))] (by kernel_rfl) ?_
     refine In.fin (by kernel_rfl) ?_
     refine At.ret (by kernel_rfl) ?_
     refine ⟨(.tuple #[(.int .u32 0), (.bool false)]), by kernel_rfl, ?_⟩
     obtain rfl := some_elim H
     exact ⟨rfl, SP.sel hs69 [] rfl rfl⟩
    ·have H := cf H hb70
     refine At.skip (by kernel_rfl) ?_
     refine At.seq (by kernel_rfl) (p0 := [true, true, false, true, false, false, true, false, false, true, true, true, false]) (p1 := [true, true, false, true, false, false, true, false, false, true, true, true, true]) rfl rfl ?_
     refine At.region (by kernel_rfl) (by kernel_rfl) ?_
     refine In.run' 6 (k' := 6) rfl [(38, (.int .u32 v29)), (39, (.int .u32 (IntKind.wrap .u32 (256 * v29)))), (40, (.int .i64 z59.1)), (41, (.int .u32 (IntKind.wrap .u32 z59.1))), (42, (.int .u32 (IntKind.wrap .u32 ((IntKind.wrap .u32 (256 * v29)) + (IntKind.wrap .u32 z59.1))))), (4, (.int .u32 (IntKind.wrap .u32 ((IntKind.wrap .u32 (256 * v29)) + (IntKind.wrap .u32 z59.1)))))] (by kernel_rfl) ?_
     refine In.fin (by kernel_rfl) ?_
     refine At.region (by kernel_rfl) (by kernel_rfl) ?_
     refine In.run' 2 (k' := 2) rfl [(43, (.string ⟨List.toArray z53.2.1⟩)), (0, (.string ⟨List.toArray z53.2.1⟩))] (by kernel_rfl) ?_
     refine In.fin (by kernel_rfl) ?_
     refine At.region (by kernel_rfl) (by kernel_rfl) ?_
     refine In.run' 3 (k' := 3) rfl [(13, (.int .i64 v30)), (14, (.int .i64 (IntKind.wrap .i64 (v30 + 1)))), (5, (.int .i64 (IntKind.wrap .i64 (v30 + 1))))] (by kernel_rfl) ?_
     refine In.fin (by kernel_rfl) ?_
     exact ⟨z53.2.1, (IntKind.wrap .u32 ((IntKind.wrap .u32 (256 * v29)) + (IntKind.wrap .u32 z59.1))), (IntKind.wrap .i64 (v30 + 1)), ⟨(by kernel_rfl), (by kernel_rfl), (by kernel_rfl), trivial⟩, SP.sel hs69 [] rfl rfl, H⟩
  ·have H := cf H hb52
   refine At.exit (by kernel_rfl) (id := 0) (by kernel_rfl) ?_
   refine At.seq (by kernel_rfl) (p0 := [true, true, true, false]) (p1 := [true, true, true, true]) rfl rfl ?_
   refine At.region (by kernel_rfl) (by kernel_rfl) ?_
   refine In.run' 3 (k' := 3) rfl [(44, (.int .u32 v29)), (2, (.int .u32 v29)), (3, (.bool true))] (by kernel_rfl) ?_
   refine In.fin (by kernel_rfl) ?_
   refine At.ret (by kernel_rfl) ?_
   refine ⟨(.tuple #[(.int .u32 v29), (.bool true)]), by kernel_rfl, ?_⟩
   obtain rfl := some_elim H
   exact ⟨rfl, SP.sel hs27 [] rfl rfl⟩
 ·exact ⟨p1, 0, 0, ⟨(by kernel_rfl), (by kernel_rfl), (by kernel_rfl), trivial⟩, SP.sel hs0 [] rfl rfl, H⟩
/-! L_subwayref04_head -/
def L_subwayref04_head (p1 : Int) (p2 : Int) : Option (Int) :=
  (cond (p2 == 0) (some (0)) ((chk (decide (0 ≤ (IntKind.wrap .i64 (32 - p2))))).bind fun _ => ((chk (decide (0 ≤ (IntKind.wrap .i64 (32 - p2))))).bind fun _ => (some ((bShl .u32 (bShr .u32 p1 (IntKind.wrap .i64 (32 - p2))) (IntKind.wrap .i64 (32 - p2))))))))
set_option maxRecDepth 100000 in
set_option maxHeartbeats 4000000 in
theorem L_subwayref04_head_walk  (p1 : Int) (p2 : Int) (w0 : World)  (r : (Int)) (H : L_subwayref04_head p1 p2 = some r) :
  Calls Tryd.prog 36 #[(.int .u32 p1), (.int .i64 p2)] w0 (fun e w' => e = .returned (.int .u32 r) ∧ SP [] w0 w' []) := by
 unfold L_subwayref04_head at H
 refine calls_start (n := 14) Tryd.func36 (by kernel_rfl) (by kernel_rfl) (by kernel_rfl) ?_
 have hs0 := SP.start [] w0
 refine At.seq (by kernel_rfl) (p0 := [false]) (p1 := [true]) rfl rfl ?_
 refine At.region (by kernel_rfl) (by kernel_rfl) ?_
 refine In.run' 1 (k' := 1) rfl [(4, (.int .u32 0))] (by kernel_rfl) ?_
 refine In.fin (by kernel_rfl) ?_
 refine At.seq (by kernel_rfl) (p0 := [true, false]) (p1 := [true, true]) rfl rfl ?_
 refine At.seq (by kernel_rfl) (p0 := [true, false, false]) (p1 := [true, false, true]) rfl rfl ?_
 refine At.region (by kernel_rfl) (by kernel_rfl) ?_
 refine In.run' 2 (k' := 2) rfl [(5, (.int .i64 p2)), (6, (.bool (p2 == 0)))] (by kernel_rfl) ?_
 refine In.fin (by kernel_rfl) ?_
 refine At.cond (by kernel_rfl) (o := (.tmp 6)) (by kernel_rfl) (b := (p2 == 0)) (by kernel_rfl) (p0 := [true, false, true, false]) (p1 := [true, false, true, true]) rfl rfl (fun hb3 => ?_) (fun hb3 => ?_)
 ·have H := ct H hb3
  refine At.seq (by kernel_rfl) (p0 := [true, false, true, false, false]) (p1 := [true, false, true, false, true]) rfl rfl ?_
  refine At.region (by kernel_rfl) (by kernel_rfl) ?_
  refine In.run' 1 (k' := 1) rfl [(4, (.int .u32 0))] (by kernel_rfl) ?_
  refine In.fin (by kernel_rfl) ?_
  refine At.ret (by kernel_rfl) ?_
  refine ⟨(.int .u32 0), by kernel_rfl, ?_⟩
  obtain rfl := some_elim H
  exact ⟨rfl, SP.sel hs0 [] rfl rfl⟩
 ·have H := cf H hb3
  refine At.skip (by kernel_rfl) ?_
  refine At.seq (by kernel_rfl) (p0 := [true, true, false]) (p1 := [true, true, true]) rfl rfl ?_
  refine At.region (by kernel_rfl) (by kernel_rfl) ?_
  refine In.run' 3 (k' := 3) rfl [(7, (.int .u32 p1)), (8, (.int .i64 p2)), (9, (.int .i64 (IntKind.wrap .i64 (32 - p2))))] (by kernel_rfl) ?_
  obtain ⟨hl4, H⟩ := chk_elim H
  refine In.step (k' := 4) rfl (by kernel_rfl) ?_
  refine Step.shift (op := .shr) (T := 22) (T' := 3) (x := (.tmp 7)) (y := (.tmp 9)) (kx := .u32) (ky := .i64) (a := p1) (b := (IntKind.wrap .i64 (32 - p2))) (v := (.int .u32 (bShr .u32 p1 (IntKind.wrap .i64 (32 - p2))))) (d := (some 10)) (k := 3) (by kernel_rfl) rfl (by kernel_rfl) (by kernel_rfl) (of_decide_eq_true hl4) rfl ?_
  refine In.run' 2 (k' := 6) rfl [(11, (.int .i64 p2)), (12, (.int .i64 (IntKind.wrap .i64 (32 - p2))))] (by kernel_rfl) ?_
  obtain ⟨hl5, H⟩ := chk_elim H
  refine In.step (k' := 7) rfl (by kernel_rfl) ?_
  refine Step.shift (op := .shl) (T := 22) (T' := 3) (x := (.tmp 10)) (y := (.tmp 12)) (kx := .u32) (ky := .i64) (a := (bShr .u32 p1 (IntKind.wrap .i64 (32 - p2)))) (b := (IntKind.wrap .i64 (32 - p2))) (v := (.int .u32 (bShl .u32 (bShr .u32 p1 (IntKind.wrap .i64 (32 - p2))) (IntKind.wrap .i64 (32 - p2))))) (d := (some 13)) (k := 6) (by kernel_rfl) rfl (by kernel_rfl) (by kernel_rfl) (of_decide_eq_true hl5) rfl ?_
  refine In.run' 1 (k' := 8) rfl [(4, (.int .u32 (bShl .u32 (bShr .u32 p1 (IntKind.wrap .i64 (32 - p2))) (IntKind.wrap .i64 (32 - p2)))))] (by kernel_rfl) ?_
  refine In.fin (by kernel_rfl) ?_
  refine At.ret (by kernel_rfl) ?_
  refine ⟨(.int .u32 (bShl .u32 (bShr .u32 p1 (IntKind.wrap .i64 (32 - p2))) (IntKind.wrap .i64 (32 - p2)))), by kernel_rfl, ?_⟩
  obtain rfl := some_elim H
  exact ⟨rfl, SP.sel hs0 [] rfl rfl⟩
/-! L_subwayref04_Right -/
def L_subwayref04_Right_k1 (v54 : Bool) : Option (Bool) :=
  (some (v54))
def L_subwayref04_Right (pAddr1 : Int) (pBits2 : Int) : Option (Bool) :=
  (cond (decide (pBits2 ≥ 0)) (cond (decide (pBits2 ≤ 32)) ((L_subwayref04_head pAddr1 pBits2).bind fun z59 => (L_subwayref04_Right_k1 (z59 == pAddr1))) (L_subwayref04_Right_k1 false)) (L_subwayref04_Right_k1 false))
set_option maxRecDepth 100000 in
set_option maxHeartbeats 4000000 in
theorem L_subwayref04_Right_walk  (pAddr1 : Int) (pBits2 : Int) (w0 : World)  (r : (Bool)) (H : L_subwayref04_Right pAddr1 pBits2 = some r) :
  Calls Tryd.prog 30 #[(.agg #[(.int .u32 pAddr1), (.int .i64 pBits2)])] w0 (fun e w' => e = .returned (.bool r) ∧ SP [] w0 w' []) := by
 unfold L_subwayref04_Right at H
 refine calls_start (n := 21) Tryd.func30 (by kernel_rfl) (by kernel_rfl) (by kernel_rfl) ?_
 have hs0 := SP.start [] w0
 refine At.seq (by kernel_rfl) (p0 := [false]) (p1 := [true]) rfl rfl ?_
 refine At.region (by kernel_rfl) (by kernel_rfl) ?_
 refine In.step (k' := 1) rfl (by kernel_rfl) ?_
 refine Step.box (t := 24) (x := (.tmp 0)) (v := (.agg #[(.int .u32 pAddr1), (.int .i64 pBits2)])) (d := (some 1)) (k := 0) (by kernel_rfl) rfl (by kernel_rfl) hs0 ?_
 intro g3 w4 hs5
 have hs6 : SP [] w0 w4 [boxE g3 24 #[(.int .u32 pAddr1), (.int .i64 pBits2)]] := hs5
 clear hs5
 refine In.run' 1 (k' := 2) rfl [(2, (.bool false))] (by kernel_rfl) ?_
 refine In.fin (by kernel_rfl) ?_
 refine At.seq (by kernel_rfl) (p0 := [true, false]) (p1 := [true, true]) rfl rfl ?_
 refine At.join (fun ρ w => ∃ (v54 : Bool), Known ρ [(2, (.bool v54))] ∧ SP [] w0 w [] ∧ L_subwayref04_Right_k1 v54 = some r) ?_ ?_
 ·rcases Bool.eq_false_or_eq_true (decide (pBits2 ≥ 0)) with hb57 | hb57
  ·have H := ct H hb57
   rcases Bool.eq_false_or_eq_true (decide (pBits2 ≤ 32)) with hb58 | hb58
   ·have H := ct H hb58
    obtain ⟨z59, hz60, H⟩ := bind_elim H
    refine At.stages (by kernel_rfl) (by kernel_rfl) (by kernel_rfl) (by kernel_rfl) (by kernel_rfl) [GEq (.pointer (some ⟨g3, 1, none⟩)), GEq (.int .i64 pBits2), GEq (.bool (decide (pBits2 ≥ 0))), GEq (.bool (decide (pBits2 ≥ 0))), GEq (.pointer (some ⟨g3, 1, none⟩)), GEq (.int .i64 pBits2), GEq (.bool (decide (pBits2 ≤ 32))), GEq (.bool (decide (pBits2 ≤ 32))), GEq (.bool (decide (pBits2 ≤ 32))), GEq (.pointer (some ⟨g3, 0, none⟩)), GEq (.int .u32 pAddr1), GEq (.pointer (some ⟨g3, 1, none⟩)), GEq (.int .i64 pBits2), GEq (.int .u32 z59), GEq (.pointer (some ⟨g3, 0, none⟩)), GEq (.int .u32 pAddr1), GEq (.bool (z59 == pAddr1)), GEq (.bool (z59 == pAddr1)), GEq (.bool (z59 == pAddr1))] [13] [([], fun vs w => VL vs [] ∧ SP [] w0 w [boxE g3 24 #[(.int .u32 pAddr1), (.int .i64 pBits2)]]), ([13], fun vs w => VL vs [(.int .u32 z59)] ∧ SP [] w0 w [boxE g3 24 #[(.int .u32 pAddr1), (.int .i64 pBits2)]])] (N := 19) (by kernel_rfl) ⟨by kernel_rfl, Nat.zero_lt_succ _⟩ (show VL [] [] ∧ SP [] w0 w4.drew [boxE g3 24 #[(.int .u32 pAddr1), (.int .i64 pBits2)]] from ⟨trivial, SP.drew hs6⟩) ⟨⟨⟨⟨⟨⟨⟨⟨⟨⟨⟨⟨⟨⟨⟨⟨⟨⟨⟨trivial, ?_⟩, ?_⟩, ?_⟩, ?_⟩, ?_⟩, ?_⟩, ?_⟩, ?_⟩, ?_⟩, ?_⟩, ?_⟩, ?_⟩, ?_⟩, ?_⟩, ?_⟩, ?_⟩, ?_⟩, ?_⟩, ?_⟩ (last := 1) (by kernel_rfl) ?_
    ·exact Owe.run (by kernel_rfl) [(1, (.pointer (some ⟨g3, 0, none⟩)))] ⟨gS (by kernel_rfl) (by kernel_rfl), trivial⟩ (.pointer (some ⟨g3, 1, none⟩)) (fun _ _ => by kernel_rfl) rfl
    ·refine Owe.light (by kernel_rfl) [0] (by kernel_rfl) (all_cons ?_ all_nil)
     ·intro ρ' w' hs hah hP
      obtain ⟨hvl70, hs69⟩ := hP
      have e3 := hah 0 3 (by kernel_rfl)
      have hkn : Known ρ' [(3, (.pointer (some ⟨g3, 1, none⟩)))] := ⟨e3, trivial⟩
      refine Step.known _ hkn ?_
      refine Step.load (t := 3) (x := (.tmp 3)) (g := g3) (off := 1) (i := 0) (v := (.int .i64 pBits2)) (d := (some 4)) (k := 1) (by kernel_rfl) rfl (by kernel_rfl) hs69 rfl (by kernel_rfl) ?_
      exact ⟨rfl, _, updO_known hkn, rfl⟩
    ·exact Owe.run (by kernel_rfl) [(4, (.int .i64 pBits2))] ⟨gA 1 (by kernel_rfl) (by kernel_rfl), trivial⟩ (.bool (decide (pBits2 ≥ 0))) (fun _ _ => by kernel_rfl) rfl
    ·exact Owe.run (by kernel_rfl) [(5, (.bool (decide (pBits2 ≥ 0))))] ⟨gA 2 (by kernel_rfl) (by kernel_rfl), trivial⟩ (.bool (decide (pBits2 ≥ 0))) (fun _ _ => by kernel_rfl) rfl
    ·exact Owe.run (by kernel_rfl) [(1, (.pointer (some ⟨g3, 0, none⟩))), (6, (.bool true))] ⟨gS (by kernel_rfl) (by kernel_rfl), gB 3 (by kernel_rfl) (decide (pBits2 ≥ 0)) (by kernel_rfl) hb57, trivial⟩ (.pointer (some ⟨g3, 1, none⟩)) (fun _ _ => by kernel_rfl) rfl
    ·refine Owe.light (by kernel_rfl) [0] (by kernel_rfl) (all_cons ?_ all_nil)
     ·intro ρ' w' hs hah hP
      obtain ⟨hvl72, hs71⟩ := hP
      have e7 := hah 4 7 (by kernel_rfl)
      have e6 := hah 3 6 (by kernel_rfl)
      have hkn : Known ρ' [(7, (.pointer (some ⟨g3, 1, none⟩))), (6, (.bool true))] := ⟨e7, (Eq.trans e6 (congrArg Value.bool hb57)), trivial⟩
      refine Step.known _ hkn ?_
      refine Step.load (t := 3) (x := (.tmp 7)) (g := g3) (off := 1) (i := 0) (v := (.int .i64 pBits2)) (d := (some 8)) (k := 5) (by kernel_rfl) rfl (by kernel_rfl) hs71 rfl (by kernel_rfl) ?_
      exact ⟨rfl, _, updO_known hkn, rfl⟩
    ·exact Owe.run (by kernel_rfl) [(8, (.int .i64 pBits2)), (6, (.bool true))] ⟨gA 5 (by kernel_rfl) (by kernel_rfl), gB 3 (by kernel_rfl) (decide (pBits2 ≥ 0)) (by kernel_rfl) hb57, trivial⟩ (.bool (decide (pBits2 ≤ 32))) (fun _ _ => by kernel_rfl) rfl
    ·exact Owe.run (by kernel_rfl) [(6, (.bool true)), (9, (.bool (decide (pBits2 ≤ 32))))] ⟨gB 3 (by kernel_rfl) (decide (pBits2 ≥ 0)) (by kernel_rfl) hb57, gA 6 (by kernel_rfl) (by kernel_rfl), trivial⟩ (.bool (decide (pBits2 ≤ 32))) (fun _ _ => by kernel_rfl) rfl
    ·exact Owe.run (by kernel_rfl) [(10, (.bool (decide (pBits2 ≤ 32))))] ⟨gA 7 (by kernel_rfl) (by kernel_rfl), trivial⟩ (.bool (decide (pBits2 ≤ 32))) (fun _ _ => by kernel_rfl) rfl
    ·exact Owe.run (by kernel_rfl) [(1, (.pointer (some ⟨g3, 0, none⟩))), (11, (.bool true))] ⟨gS (by kernel_rfl) (by kernel_rfl), gB 8 (by kernel_rfl) (decide (pBits2 ≤ 32)) (by kernel_rfl) hb58, trivial⟩ (.pointer (some ⟨g3, 0, none⟩)) (fun _ _ => by kernel_rfl) rfl
    ·refine Owe.light (by kernel_rfl) [0] (by kernel_rfl) (all_cons ?_ all_nil)
     ·intro ρ' w' hs hah hP
      obtain ⟨hvl74, hs73⟩ := hP
      have e12 := hah 9 12 (by kernel_rfl)
      have e11 := hah 8 11 (by kernel_rfl)
      have hkn : Known ρ' [(12, (.pointer (some ⟨g3, 0, none⟩))), (11, (.bool true))] := ⟨e12, (Eq.trans e11 (congrArg Value.bool hb58)), trivial⟩
      refine Step.known _ hkn ?_
      refine Step.load (t := 22) (x := (.tmp 12)) (g := g3) (off := 0) (i := 0) (v := (.int .u32 pAddr1)) (d := (some 13)) (k := 10) (by kernel_rfl) rfl (by kernel_rfl) hs73 rfl (by kernel_rfl) ?_
      exact ⟨rfl, _, updO_known hkn, rfl⟩
    ·exact Owe.run (by kernel_rfl) [(1, (.pointer (some ⟨g3, 0, none⟩))), (11, (.bool true))] ⟨gS (by kernel_rfl) (by kernel_rfl), gB 8 (by kernel_rfl) (decide (pBits2 ≤ 32)) (by kernel_rfl) hb58, trivial⟩ (.pointer (some ⟨g3, 1, none⟩)) (fun _ _ => by kernel_rfl) rfl
    ·refine Owe.light (by kernel_rfl) [0] (by kernel_rfl) (all_cons ?_ all_nil)
     ·intro ρ' w' hs hah hP
      obtain ⟨hvl76, hs75⟩ := hP
      have e14 := hah 11 14 (by kernel_rfl)
      have e11 := hah 8 11 (by kernel_rfl)
      have hkn : Known ρ' [(14, (.pointer (some ⟨g3, 1, none⟩))), (11, (.bool true))] := ⟨e14, (Eq.trans e11 (congrArg Value.bool hb58)), trivial⟩
      refine Step.known _ hkn ?_
      refine Step.load (t := 3) (x := (.tmp 14)) (g := g3) (off := 1) (i := 0) (v := (.int .i64 pBits2)) (d := (some 15)) (k := 12) (by kernel_rfl) rfl (by kernel_rfl) hs75 rfl (by kernel_rfl) ?_
      exact ⟨rfl, _, updO_known hkn, rfl⟩
    ·refine Owe.heavy (by kernel_rfl) [(0, 1)] (by kernel_rfl) (all_cons ⟨by kernel_rfl, by kernel_rfl, ?_⟩ all_nil)
     ·intro ρ' w' hs hah hP
      obtain ⟨hvl78, hs77⟩ := hP
      have e13 := hah 10 13 (by kernel_rfl)
      have e15 := hah 12 15 (by kernel_rfl)
      have e11 := hah 8 11 (by kernel_rfl)
      have hkn : Known ρ' [(13, (.int .u32 pAddr1)), (15, (.int .i64 pBits2)), (11, (.bool true))] := ⟨e13, e15, (Eq.trans e11 (congrArg Value.bool hb58)), trivial⟩
      refine Step.known _ hkn ?_
      refine Step.callF (f := 36) (fo := (.func 36)) (xs := #[(.tmp 13), (.tmp 15)]) (tys := #[22, 3]) (first := #[]) (captured := #[]) (d := (some 16)) (k := 13) (by kernel_rfl) rfl (by kernel_rfl) (by kernel_rfl) Tryd.call36 (L_subwayref04_head_walk  pAddr1 pBits2 w'  z59 hz60) ?_
      rintro e w79 ⟨rfl, hs80⟩
      refine ⟨_, rfl, ?_⟩
      have hs81 := SP.call hs77 hs80
      clear hs80
      have hs82 : SP [] w0 w79 [boxE g3 24 #[(.int .u32 pAddr1), (.int .i64 pBits2)]] := hs81
      clear hs81
      refine ⟨_, updO_known hkn, rfl, ?_⟩
      exact (And.intro (And.intro rfl (trivial)) (hs82))
    ·exact Owe.run (by kernel_rfl) [(1, (.pointer (some ⟨g3, 0, none⟩))), (11, (.bool true))] ⟨gS (by kernel_rfl) (by kernel_rfl), gB 8 (by kernel_rfl) (decide (pBits2 ≤ 32)) (by kernel_rfl) hb58, trivial⟩ (.pointer (some ⟨g3, 0, none⟩)) (fun _ _ => by kernel_rfl) rfl
    ·refine Owe.light (by kernel_rfl) [0, 1] (by kernel_rfl) (all_cons ?_ (all_cons ?_ all_nil))
     ·intro ρ' w' hs hah hP
      obtain ⟨hvl84, hs83⟩ := hP
      have e17 := hah 14 17 (by kernel_rfl)
      have e11 := hah 8 11 (by kernel_rfl)
      have hkn : Known ρ' [(17, (.pointer (some ⟨g3, 0, none⟩))), (11, (.bool true))] := ⟨e17, (Eq.trans e11 (congrArg Value.bool hb58)), trivial⟩
      refine Step.known _ hkn ?_
      refine Step.load (t := 22) (x := (.tmp 17)) (g := g3) (off := 0) (i := 0) (v := (.int .u32 pAddr1)) (d := (some 18)) (k := 15) (by kernel_rfl) rfl (by kernel_rfl) hs83 rfl (by kernel_rfl) ?_
      exact ⟨rfl, _, updO_known hkn, rfl⟩
     ·intro ρ' w' hs hah hP
      obtain ⟨hvl87, hs85⟩ := hP
      obtain ⟨q86, -⟩ := hvl87
      have e17 := hah 14 17 (by kernel_rfl)
      have e11 := hah 8 11 (by kernel_rfl)
      have hkn : Known ρ' [(17, (.pointer (some ⟨g3, 0, none⟩))), (11, (.bool true))] := ⟨e17, (Eq.trans e11 (congrArg Value.bool hb58)), trivial⟩
      refine Step.known _ hkn ?_
      refine Step.load (t := 22) (x := (.tmp 17)) (g := g3) (off := 0) (i := 0) (v := (.int .u32 pAddr1)) (d := (some 18)) (k := 15) (by kernel_rfl) rfl (by kernel_rfl) hs85 rfl (by kernel_rfl) ?_
      exact ⟨rfl, _, updO_known hkn, rfl⟩
    ·exact Owe.run (by kernel_rfl) [(16, (.int .u32 z59)), (18, (.int .u32 pAddr1)), (11, (.bool true))] ⟨gA 13 (by kernel_rfl) (by kernel_rfl), gA 15 (by kernel_rfl) (by kernel_rfl), gB 8 (by kernel_rfl) (decide (pBits2 ≤ 32)) (by kernel_rfl) hb58, trivial⟩ (.bool (z59 == pAddr1)) (fun _ _ => by kernel_rfl) rfl
    ·exact Owe.run (by kernel_rfl) [(11, (.bool true)), (19, (.bool (z59 == pAddr1)))] ⟨gB 8 (by kernel_rfl) (decide (pBits2 ≤ 32)) (by kernel_rfl) hb58, gA 16 (by kernel_rfl) (by kernel_rfl), trivial⟩ (.bool (z59 == pAddr1)) (fun _ _ => by kernel_rfl) rfl
    ·exact Owe.run (by kernel_rfl) [(20, (.bool (z59 == pAddr1)))] ⟨gA 17 (by kernel_rfl) (by kernel_rfl), trivial⟩ (.bool (z59 == pAddr1)) (fun _ _ => by kernel_rfl) rfl
    ·intro ρ' w' hs hf hP
     obtain ⟨hvl90, hs88⟩ := hP
     obtain ⟨q89, -⟩ := hvl90
     have e2 := hf 18 2 (by kernel_rfl)
     refine postKnown [(2, (.bool (z59 == pAddr1)))] ⟨e2, trivial⟩ ?_
     obtain ⟨w91, hww91⟩ : ∃ x, w' = x := ⟨_, rfl⟩
     rw [hww91] at hs88 ⊢
     exact ⟨(z59 == pAddr1), ⟨(by kernel_rfl), trivial⟩, SP.sel hs88 [] rfl rfl, H⟩
   ·have H := cf H hb58
    refine At.stages (by kernel_rfl) (by kernel_rfl) (by kernel_rfl) (by kernel_rfl) (by kernel_rfl) [GEq (.pointer (some ⟨g3, 1, none⟩)), GEq (.int .i64 pBits2), GEq (.bool (decide (pBits2 ≥ 0))), GEq (.bool (decide (pBits2 ≥ 0))), GEq (.pointer (some ⟨g3, 1, none⟩)), GEq (.int .i64 pBits2), GEq (.bool (decide (pBits2 ≤ 32))), GEq (.bool (decide (pBits2 ≤ 32))), GEq (.bool (decide (pBits2 ≤ 32))), GEq undef, GEq undef, GEq undef, GEq undef, GEq undef, GEq undef, GEq undef, GEq undef, GEq (.bool false), GEq (.bool false)] [] [([], fun vs w => VL vs [] ∧ SP [] w0 w [boxE g3 24 #[(.int .u32 pAddr1), (.int .i64 pBits2)]])] (N := 19) (by kernel_rfl) ⟨by kernel_rfl, Nat.zero_lt_succ _⟩ (show VL [] [] ∧ SP [] w0 w4.drew [boxE g3 24 #[(.int .u32 pAddr1), (.int .i64 pBits2)]] from ⟨trivial, SP.drew hs6⟩) ⟨⟨⟨⟨⟨⟨⟨⟨⟨⟨⟨⟨⟨⟨⟨⟨⟨⟨⟨trivial, ?_⟩, ?_⟩, ?_⟩, ?_⟩, ?_⟩, ?_⟩, ?_⟩, ?_⟩, ?_⟩, ?_⟩, ?_⟩, ?_⟩, ?_⟩, ?_⟩, ?_⟩, ?_⟩, ?_⟩, ?_⟩, ?_⟩ (last := 0) (by kernel_rfl) ?_
    ·exact Owe.run (by kernel_rfl) [(1, (.pointer (some ⟨g3, 0, none⟩)))] ⟨gS (by kernel_rfl) (by kernel_rfl), trivial⟩ (.pointer (some ⟨g3, 1, none⟩)) (fun _ _ => by kernel_rfl) rfl
    ·refine Owe.light (by kernel_rfl) [0] (by kernel_rfl) (all_cons ?_ all_nil)
     ·intro ρ' w' hs hah hP
      obtain ⟨hvl93, hs92⟩ := hP
      have e3 := hah 0 3 (by kernel_rfl)
      have hkn : Known ρ' [(3, (.pointer (some ⟨g3, 1, none⟩)))] := ⟨e3, trivial⟩
      refine Step.known _ hkn ?_
      refine Step.load (t := 3) (x := (.tmp 3)) (g := g3) (off := 1) (i := 0) (v := (.int .i64 pBits2)) (d := (some 4)) (k := 1) (by kernel_rfl) rfl (by kernel_rfl) hs92 rfl (by kernel_rfl) ?_
      exact ⟨rfl, _, updO_known hkn, rfl⟩
    ·exact Owe.run (by kernel_rfl) [(4, (.int .i64 pBits2))] ⟨gA 1 (by kernel_rfl) (by kernel_rfl), trivial⟩ (.bool (decide (pBits2 ≥ 0))) (fun _ _ => by kernel_rfl) rfl
    ·exact Owe.run (by kernel_rfl) [(5, (.bool (decide (pBits2 ≥ 0))))] ⟨gA 2 (by kernel_rfl) (by kernel_rfl), trivial⟩ (.bool (decide (pBits2 ≥ 0))) (fun _ _ => by kernel_rfl) rfl
    ·exact Owe.run (by kernel_rfl) [(1, (.pointer (some ⟨g3, 0, none⟩))), (6, (.bool true))] ⟨gS (by kernel_rfl) (by kernel_rfl), gB 3 (by kernel_rfl) (decide (pBits2 ≥ 0)) (by kernel_rfl) hb57, trivial⟩ (.pointer (some ⟨g3, 1, none⟩)) (fun _ _ => by kernel_rfl) rfl
    ·refine Owe.light (by kernel_rfl) [0] (by kernel_rfl) (all_cons ?_ all_nil)
     ·intro ρ' w' hs hah hP
      obtain ⟨hvl95, hs94⟩ := hP
      have e7 := hah 4 7 (by kernel_rfl)
      have e6 := hah 3 6 (by kernel_rfl)
      have hkn : Known ρ' [(7, (.pointer (some ⟨g3, 1, none⟩))), (6, (.bool true))] := ⟨e7, (Eq.trans e6 (congrArg Value.bool hb57)), trivial⟩
      refine Step.known _ hkn ?_
      refine Step.load (t := 3) (x := (.tmp 7)) (g := g3) (off := 1) (i := 0) (v := (.int .i64 pBits2)) (d := (some 8)) (k := 5) (by kernel_rfl) rfl (by kernel_rfl) hs94 rfl (by kernel_rfl) ?_
      exact ⟨rfl, _, updO_known hkn, rfl⟩
    ·exact Owe.run (by kernel_rfl) [(8, (.int .i64 pBits2)), (6, (.bool true))] ⟨gA 5 (by kernel_rfl) (by kernel_rfl), gB 3 (by kernel_rfl) (decide (pBits2 ≥ 0)) (by kernel_rfl) hb57, trivial⟩ (.bool (decide (pBits2 ≤ 32))) (fun _ _ => by kernel_rfl) rfl
    ·exact Owe.run (by kernel_rfl) [(6, (.bool true)), (9, (.bool (decide (pBits2 ≤ 32))))] ⟨gB 3 (by kernel_rfl) (decide (pBits2 ≥ 0)) (by kernel_rfl) hb57, gA 6 (by kernel_rfl) (by kernel_rfl), trivial⟩ (.bool (decide (pBits2 ≤ 32))) (fun _ _ => by kernel_rfl) rfl
    ·exact Owe.run (by kernel_rfl) [(10, (.bool (decide (pBits2 ≤ 32))))] ⟨gA 7 (by kernel_rfl) (by kernel_rfl), trivial⟩ (.bool (decide (pBits2 ≤ 32))) (fun _ _ => by kernel_rfl) rfl
    ·exact Owe.skip (by kernel_rfl) [(11, (.bool false))] ⟨gB 8 (by kernel_rfl) (decide (pBits2 ≤ 32)) (by kernel_rfl) hb58, trivial⟩ (some 12) (fun _ => by kernel_rfl) (by kernel_rfl) rfl
    ·exact Owe.skip (by kernel_rfl) [(11, (.bool false))] ⟨gB 8 (by kernel_rfl) (decide (pBits2 ≤ 32)) (by kernel_rfl) hb58, trivial⟩ (some 13) (fun _ => by kernel_rfl) (by kernel_rfl) rfl
    ·exact Owe.skip (by kernel_rfl) [(11, (.bool false))] ⟨gB 8 (by kernel_rfl) (decide (pBits2 ≤ 32)) (by kernel_rfl) hb58, trivial⟩ (some 14) (fun _ => by kernel_rfl) (by kernel_rfl) rfl
    ·exact Owe.skip (by kernel_rfl) [(11, (.bool false))] ⟨gB 8 (by kernel_rfl) (decide (pBits2 ≤ 32)) (by kernel_rfl) hb58, trivial⟩ (some 15) (fun _ => by kernel_rfl) (by kernel_rfl) rfl
    ·exact Owe.skip (by kernel_rfl) [(11, (.bool false))] ⟨gB 8 (by kernel_rfl) (decide (pBits2 ≤ 32)) (by kernel_rfl) hb58, trivial⟩ (some 16) (fun _ => by kernel_rfl) (by kernel_rfl) rfl
    ·exact Owe.skip (by kernel_rfl) [(11, (.bool false))] ⟨gB 8 (by kernel_rfl) (decide (pBits2 ≤ 32)) (by kernel_rfl) hb58, trivial⟩ (some 17) (fun _ => by kernel_rfl) (by kernel_rfl) rfl
    ·exact Owe.skip (by kernel_rfl) [(11, (.bool false))] ⟨gB 8 (by kernel_rfl) (decide (pBits2 ≤ 32)) (by kernel_rfl) hb58, trivial⟩ (some 18) (fun _ => by kernel_rfl) (by kernel_rfl) rfl
    ·exact Owe.skip (by kernel_rfl) [(11, (.bool false))] ⟨gB 8 (by kernel_rfl) (decide (pBits2 ≤ 32)) (by kernel_rfl) hb58, trivial⟩ (some 19) (fun _ => by kernel_rfl) (by kernel_rfl) rfl
    ·exact Owe.run (by kernel_rfl) [(11, (.bool false)), (19, undef)] ⟨gB 8 (by kernel_rfl) (decide (pBits2 ≤ 32)) (by kernel_rfl) hb58, gA 16 (by kernel_rfl) (by kernel_rfl), trivial⟩ (.bool false) (fun _ _ => by kernel_rfl) rfl
    ·exact Owe.run (by kernel_rfl) [(20, (.bool false))] ⟨gA 17 (by kernel_rfl) (by kernel_rfl), trivial⟩ (.bool false) (fun _ _ => by kernel_rfl) rfl
    ·intro ρ' w' hs hf hP
     obtain ⟨hvl97, hs96⟩ := hP
     have e2 := hf 18 2 (by kernel_rfl)
     refine postKnown [(2, (.bool false))] ⟨e2, trivial⟩ ?_
     obtain ⟨w98, hww98⟩ : ∃ x, w' = x := ⟨_, rfl⟩
     rw [hww98] at hs96 ⊢
     exact ⟨false, ⟨(by kernel_rfl), trivial⟩, SP.sel hs96 [] rfl rfl, H⟩
  ·have H := cf H hb57
   refine At.stages (by kernel_rfl) (by kernel_rfl) (by kernel_rfl) (by kernel_rfl) (by kernel_rfl) [GEq (.pointer (some ⟨g3, 1, none⟩)), GEq (.int .i64 pBits2), GEq (.bool (decide (pBits2 ≥ 0))), GEq (.bool (decide (pBits2 ≥ 0))), GEq undef, GEq undef, GEq undef, GEq (.bool false), GEq (.bool false), GEq undef, GEq undef, GEq undef, GEq undef, GEq undef, GEq undef, GEq undef, GEq undef, GEq (.bool false), GEq (.bool false)] [] [([], fun vs w => VL vs [] ∧ SP [] w0 w [boxE g3 24 #[(.int .u32 pAddr1), (.int .i64 pBits2)]])] (N := 19) (by kernel_rfl) ⟨by kernel_rfl, Nat.zero_lt_succ _⟩ (show VL [] [] ∧ SP [] w0 w4.drew [boxE g3 24 #[(.int .u32 pAddr1), (.int .i64 pBits2)]] from ⟨trivial, SP.drew hs6⟩) ⟨⟨⟨⟨⟨⟨⟨⟨⟨⟨⟨⟨⟨⟨⟨⟨⟨⟨⟨trivial, ?_⟩, ?_⟩, ?_⟩, ?_⟩, ?_⟩, ?_⟩, ?_⟩, ?_⟩, ?_⟩, ?_⟩, ?_⟩, ?_⟩, ?_⟩, ?_⟩, ?_⟩, ?_⟩, ?_⟩, ?_⟩, ?_⟩ (last := 0) (by kernel_rfl) ?_
   ·exact Owe.run (by kernel_rfl) [(1, (.pointer (some ⟨g3, 0, none⟩)))] ⟨gS (by kernel_rfl) (by kernel_rfl), trivial⟩ (.pointer (some ⟨g3, 1, none⟩)) (fun _ _ => by kernel_rfl) rfl
   ·refine Owe.light (by kernel_rfl) [0] (by kernel_rfl) (all_cons ?_ all_nil)
    ·intro ρ' w' hs hah hP
     obtain ⟨hvl100, hs99⟩ := hP
     have e3 := hah 0 3 (by kernel_rfl)
     have hkn : Known ρ' [(3, (.pointer (some ⟨g3, 1, none⟩)))] := ⟨e3, trivial⟩
     refine Step.known _ hkn ?_
     refine Step.load (t := 3) (x := (.tmp 3)) (g := g3) (off := 1) (i := 0) (v := (.int .i64 pBits2)) (d := (some 4)) (k := 1) (by kernel_rfl) rfl (by kernel_rfl) hs99 rfl (by kernel_rfl) ?_
     exact ⟨rfl, _, updO_known hkn, rfl⟩
   ·exact Owe.run (by kernel_rfl) [(4, (.int .i64 pBits2))] ⟨gA 1 (by kernel_rfl) (by kernel_rfl), trivial⟩ (.bool (decide (pBits2 ≥ 0))) (fun _ _ => by kernel_rfl) rfl
   ·exact Owe.run (by kernel_rfl) [(5, (.bool (decide (pBits2 ≥ 0))))] ⟨gA 2 (by kernel_rfl) (by kernel_rfl), trivial⟩ (.bool (decide (pBits2 ≥ 0))) (fun _ _ => by kernel_rfl) rfl
   ·exact Owe.skip (by kernel_rfl) [(6, (.bool false))] ⟨gB 3 (by kernel_rfl) (decide (pBits2 ≥ 0)) (by kernel_rfl) hb57, trivial⟩ (some 7) (fun _ => by kernel_rfl) (by kernel_rfl) rfl
   ·exact Owe.skip (by kernel_rfl) [(6, (.bool false))] ⟨gB 3 (by kernel_rfl) (decide (pBits2 ≥ 0)) (by kernel_rfl) hb57, trivial⟩ (some 8) (fun _ => by kernel_rfl) (by kernel_rfl) rfl
   ·exact Owe.skip (by kernel_rfl) [(6, (.bool false))] ⟨gB 3 (by kernel_rfl) (decide (pBits2 ≥ 0)) (by kernel_rfl) hb57, trivial⟩ (some 9) (fun _ => by kernel_rfl) (by kernel_rfl) rfl
   ·exact Owe.run (by kernel_rfl) [(6, (.bool false)), (9, undef)] ⟨gB 3 (by kernel_rfl) (decide (pBits2 ≥ 0)) (by kernel_rfl) hb57, gA 6 (by kernel_rfl) (by kernel_rfl), trivial⟩ (.bool false) (fun _ _ => by kernel_rfl) rfl
   ·exact Owe.run (by kernel_rfl) [(10, (.bool false))] ⟨gA 7 (by kernel_rfl) (by kernel_rfl), trivial⟩ (.bool false) (fun _ _ => by kernel_rfl) rfl
   ·exact Owe.skip (by kernel_rfl) [(11, (.bool false))] ⟨gA 8 (by kernel_rfl) (by kernel_rfl), trivial⟩ (some 12) (fun _ => by kernel_rfl) (by kernel_rfl) rfl
   ·exact Owe.skip (by kernel_rfl) [(11, (.bool false))] ⟨gA 8 (by kernel_rfl) (by kernel_rfl), trivial⟩ (some 13) (fun _ => by kernel_rfl) (by kernel_rfl) rfl
   ·exact Owe.skip (by kernel_rfl) [(11, (.bool false))] ⟨gA 8 (by kernel_rfl) (by kernel_rfl), trivial⟩ (some 14) (fun _ => by kernel_rfl) (by kernel_rfl) rfl
   ·exact Owe.skip (by kernel_rfl) [(11, (.bool false))] ⟨gA 8 (by kernel_rfl) (by kernel_rfl), trivial⟩ (some 15) (fun _ => by kernel_rfl) (by kernel_rfl) rfl
   ·exact Owe.skip (by kernel_rfl) [(11, (.bool false))] ⟨gA 8 (by kernel_rfl) (by kernel_rfl), trivial⟩ (some 16) (fun _ => by kernel_rfl) (by kernel_rfl) rfl
   ·exact Owe.skip (by kernel_rfl) [(11, (.bool false))] ⟨gA 8 (by kernel_rfl) (by kernel_rfl), trivial⟩ (some 17) (fun _ => by kernel_rfl) (by kernel_rfl) rfl
   ·exact Owe.skip (by kernel_rfl) [(11, (.bool false))] ⟨gA 8 (by kernel_rfl) (by kernel_rfl), trivial⟩ (some 18) (fun _ => by kernel_rfl) (by kernel_rfl) rfl
   ·exact Owe.skip (by kernel_rfl) [(11, (.bool false))] ⟨gA 8 (by kernel_rfl) (by kernel_rfl), trivial⟩ (some 19) (fun _ => by kernel_rfl) (by kernel_rfl) rfl
   ·exact Owe.run (by kernel_rfl) [(11, (.bool false)), (19, undef)] ⟨gA 8 (by kernel_rfl) (by kernel_rfl), gA 16 (by kernel_rfl) (by kernel_rfl), trivial⟩ (.bool false) (fun _ _ => by kernel_rfl) rfl
   ·exact Owe.run (by kernel_rfl) [(20, (.bool false))] ⟨gA 17 (by kernel_rfl) (by kernel_rfl), trivial⟩ (.bool false) (fun _ _ => by kernel_rfl) rfl
   ·intro ρ' w' hs hf hP
    obtain ⟨hvl102, hs101⟩ := hP
    have e2 := hf 18 2 (by kernel_rfl)
    refine postKnown [(2, (.bool false))] ⟨e2, trivial⟩ ?_
    obtain ⟨w103, hww103⟩ : ∃ x, w' = x := ⟨_, rfl⟩
    rw [hww103] at hs101 ⊢
    exact ⟨false, ⟨(by kernel_rfl), trivial⟩, SP.sel hs101 [] rfl rfl, H⟩
 ·rintro ρ w55 ⟨v54, hk, hs56, H⟩
  unfold L_subwayref04_Right_k1 at H
  refine At.known [(2, (.bool v54))] hk ?_
  refine At.ret (by kernel_rfl) ?_
  refine ⟨(.bool v54), by kernel_rfl, ?_⟩
  obtain rfl := some_elim H
  exact ⟨rfl, SP.sel hs56 [] rfl rfl⟩
/-! L_subwayref04_Slash -/
def L_subwayref04_Slash (pAddr1 : Int) (pBits2 : Int) : Option ((List UInt8)) :=
  ((L_subwayref04_Right pAddr1 pBits2).bind fun z7 => (cond (!z7) (some (([] : List UInt8))) ((L_subwayref04_Dots pAddr1).bind fun z14 => ((app z14 ([47] : List UInt8)).bind fun l20 => ((L_subwayref01_Decimal pBits2).bind fun z22 => ((app l20 z22).bind fun l28 => (some (l28))))))))
set_option maxRecDepth 100000 in
set_option maxHeartbeats 4000000 in
theorem L_subwayref04_Slash_walk  (pAddr1 : Int) (pBits2 : Int) (w0 : World)  (r : ((List UInt8))) (H : L_subwayref04_Slash pAddr1 pBits2 = some r) :
  Calls Tryd.prog 20 #[(.agg #[(.int .u32 pAddr1), (.int .i64 pBits2)])] w0 (fun e w' => e = .returned (.string ⟨List.toArray r⟩) ∧ SP [] w0 w' []) := by
 unfold L_subwayref04_Slash at H
 refine calls_start (n := 14) Tryd.func20 (by kernel_rfl) (by kernel_rfl) (by kernel_rfl) ?_
 have hs0 := SP.start [] w0
 refine At.seq (by kernel_rfl) (p0 := [false]) (p1 := [true]) rfl rfl ?_
 refine At.region (by kernel_rfl) (by kernel_rfl) ?_
 refine In.step (k' := 1) rfl (by kernel_rfl) ?_
 refine Step.box (t := 24) (x := (.tmp 0)) (v := (.agg #[(.int .u32 pAddr1), (.int .i64 pBits2)])) (d := (some 1)) (k := 0) (by kernel_rfl) rfl (by kernel_rfl) hs0 ?_
 intro g3 w4 hs5
 have hs6 : SP [] w0 w4 [boxE g3 24 #[(.int .u32 pAddr1), (.int .i64 pBits2)]] := hs5
 clear hs5
 refine In.run' 1 (k' := 2) rfl [(2, (.string ⟨List.toArray ([] : List UInt8)⟩))] (by kernel_rfl) ?_
 refine In.fin (by kernel_rfl) ?_
 refine At.seq (by kernel_rfl) (p0 := [true, false]) (p1 := [true, true]) rfl rfl ?_
 refine At.seq (by kernel_rfl) (p0 := [true, false, false]) (p1 := [true, false, true]) rfl rfl ?_
 refine At.region (by kernel_rfl) (by kernel_rfl) ?_
 refine In.step (k' := 1) rfl (by kernel_rfl) ?_
 refine Step.load (t := 24) (x := (.tmp 1)) (g := g3) (off := 0) (i := 0) (v := (.agg #[(.int .u32 pAddr1), (.int .i64 pBits2)])) (d := (some 3)) (k := 0) (by kernel_rfl) rfl (by kernel_rfl) hs6 rfl (by kernel_rfl) ?_
 obtain ⟨z7, hz8, H⟩ := bind_elim H
 refine In.step (k' := 2) rfl (by kernel_rfl) ?_
 refine Step.callF (f := 30) (fo := (.func 30)) (xs := #[(.tmp 3)]) (tys := #[24]) (first := #[]) (captured := #[]) (d := (some 4)) (k := 1) (by kernel_rfl) rfl (by kernel_rfl) (by kernel_rfl) Tryd.call30 (L_subwayref04_Right_walk  pAddr1 pBits2 w4  z7 hz8) ?_
 rintro e w9 ⟨rfl, hs10⟩
 refine ⟨_, rfl, ?_⟩
 have hs11 := SP.call hs6 hs10
 clear hs10
 have hs12 : SP [] w0 w9 [boxE g3 24 #[(.int .u32 pAddr1), (.int .i64 pBits2)]] := hs11
 clear hs11
 refine In.run' 1 (k' := 3) rfl [(5, (.bool (!z7)))] (by kernel_rfl) ?_
 refine In.fin (by kernel_rfl) ?_
 refine At.cond (by kernel_rfl) (o := (.tmp 5)) (by kernel_rfl) (b := (!z7)) (by kernel_rfl) (p0 := [true, false, true, false]) (p1 := [true, false, true, true]) rfl rfl (fun hb13 => ?_) (fun hb13 => ?_)
 ·have H := ct H hb13
  refine At.seq (by kernel_rfl) (p0 := [true, false, true, false, false]) (p1 := [true, false, true, false, true]) rfl rfl ?_
  refine At.region (by kernel_rfl) (by kernel_rfl) ?_
  refine In.run' 1 (k' := 1) rfl [(2, (.string ⟨List.toArray ([] : List UInt8)⟩))] (by kernel_rfl) ?_
  refine In.fin (by kernel_rfl) ?_
  refine At.ret (by kernel_rfl) ?_
  refine ⟨(.string ⟨List.toArray ([] : List UInt8)⟩), by kernel_rfl, ?_⟩
  obtain rfl := some_elim H
  exact ⟨rfl, SP.sel hs12 [] rfl rfl⟩
 ·have H := cf H hb13
  refine At.skip (by kernel_rfl) ?_
  refine At.seq (by kernel_rfl) (p0 := [true, true, false]) (p1 := [true, true, true]) rfl rfl ?_
  obtain ⟨z14, hz15, H⟩ := bind_elim H
  obtain ⟨hl21, H⟩ := app_elim H
  obtain ⟨l20, hyl20⟩ : ∃ y, z14 ++ ([47] : List UInt8) = y := ⟨_, rfl⟩
  rw [hyl20] at H
  obtain ⟨z22, hz23, H⟩ := bind_elim H
  obtain ⟨hl29, H⟩ := app_elim H
  obtain ⟨l28, hyl28⟩ : ∃ y, l20 ++ z22 = y := ⟨_, rfl⟩
  rw [hyl28] at H
  refine At.stages (by kernel_rfl) (by kernel_rfl) (by kernel_rfl) (by kernel_rfl) (by kernel_rfl) [GEq (.pointer (some ⟨g3, 0, none⟩)), GEq (.int .u32 pAddr1), GEq (.string ⟨List.toArray z14⟩), GEq (.string ⟨List.toArray l20⟩), GEq (.pointer (some ⟨g3, 1, none⟩)), GEq (.int .i64 pBits2), GEq (.string ⟨List.toArray z22⟩), GEq (.string ⟨List.toArray l28⟩), GEq (.string ⟨List.toArray l28⟩)] [2, 6] [([], fun vs w => VL vs [] ∧ SP [] w0 w [boxE g3 24 #[(.int .u32 pAddr1), (.int .i64 pBits2)]]), ([2], fun vs w => VL vs [(.string ⟨List.toArray z14⟩)] ∧ SP [] w0 w [boxE g3 24 #[(.int .u32 pAddr1), (.int .i64 pBits2)]]), ([2, 6], fun vs w => VL vs [(.string ⟨List.toArray z14⟩), (.string ⟨List.toArray z22⟩)] ∧ SP [] w0 w [boxE g3 24 #[(.int .u32 pAddr1), (.int .i64 pBits2)]])] (N := 9) (by kernel_rfl) ⟨by kernel_rfl, Nat.zero_lt_succ _⟩ (show VL [] [] ∧ SP [] w0 w9.drew [boxE g3 24 #[(.int .u32 pAddr1), (.int .i64 pBits2)]] from ⟨trivial, SP.drew hs12⟩) ⟨⟨⟨⟨⟨⟨⟨⟨⟨trivial, ?_⟩, ?_⟩, ?_⟩, ?_⟩, ?_⟩, ?_⟩, ?_⟩, ?_⟩, ?_⟩ (last := 2) (by kernel_rfl) ?_
  ·exact Owe.run (by kernel_rfl) [(1, (.pointer (some ⟨g3, 0, none⟩)))] ⟨gS (by kernel_rfl) (by kernel_rfl), trivial⟩ (.pointer (some ⟨g3, 0, none⟩)) (fun _ _ => by kernel_rfl) rfl
  ·refine Owe.light (by kernel_rfl) [0] (by kernel_rfl) (all_cons ?_ all_nil)
   ·intro ρ' w' hs hah hP
    obtain ⟨hvl43, hs42⟩ := hP
    have e6 := hah 0 6 (by kernel_rfl)
    have hkn : Known ρ' [(6, (.pointer (some ⟨g3, 0, none⟩)))] := ⟨e6, trivial⟩
    refine Step.known _ hkn ?_
    refine Step.load (t := 22) (x := (.tmp 6)) (g := g3) (off := 0) (i := 0) (v := (.int .u32 pAddr1)) (d := (some 7)) (k := 1) (by kernel_rfl) rfl (by kernel_rfl) hs42 rfl (by kernel_rfl) ?_
    exact ⟨rfl, _, updO_known hkn, rfl⟩
  ·refine Owe.heavy (by kernel_rfl) [(0, 1)] (by kernel_rfl) (all_cons ⟨by kernel_rfl, by kernel_rfl, ?_⟩ all_nil)
   ·intro ρ' w' hs hah hP
    obtain ⟨hvl45, hs44⟩ := hP
    have e7 := hah 1 7 (by kernel_rfl)
    have hkn : Known ρ' [(7, (.int .u32 pAddr1))] := ⟨e7, trivial⟩
    refine Step.known _ hkn ?_
    refine Step.callF (f := 18) (fo := (.func 18)) (xs := #[(.tmp 7)]) (tys := #[22]) (first := #[]) (captured := #[]) (d := (some 8)) (k := 2) (by kernel_rfl) rfl (by kernel_rfl) (by kernel_rfl) Tryd.call18 (L_subwayref04_Dots_walk  pAddr1 w'  z14 hz15) ?_
    rintro e w46 ⟨rfl, hs47⟩
    refine ⟨_, rfl, ?_⟩
    have hs48 := SP.call hs44 hs47
    clear hs47
    have hs49 : SP [] w0 w46 [boxE g3 24 #[(.int .u32 pAddr1), (.int .i64 pBits2)]] := hs48
    clear hs48
    refine ⟨_, updO_known hkn, rfl, ?_⟩
    exact (And.intro (And.intro rfl (trivial)) (hs49))
  ·refine Owe.light (by kernel_rfl) [1, 2] (by kernel_rfl) (all_cons ?_ (all_cons ?_ all_nil))
   ·intro ρ' w' hs hah hP
    obtain ⟨hvl52, hs50⟩ := hP
    obtain ⟨q51, -⟩ := hvl52
    have e8 : ρ' 8 = (.string ⟨List.toArray z14⟩) := (valF_eq (h := 2) (by kernel_rfl)).symm.trans q51
    have hkn : Known ρ' [(8, (.string ⟨List.toArray z14⟩))] := ⟨e8, trivial⟩
    refine Step.known _ hkn ?_
    refine Step.strCat (T := 9) (T' := 9) (x := (.tmp 8)) (y := (.const (.string ⟨List.toArray ([47] : List UInt8)⟩))) (a := z14) (b := ([47] : List UInt8)) (d := (some 9)) (k := 3) (by kernel_rfl) rfl (by kernel_rfl) (by kernel_rfl) hl21 ?_
    rw [hyl20]
    exact ⟨rfl, _, updO_known hkn, rfl⟩
   ·intro ρ' w' hs hah hP
    obtain ⟨hvl56, hs53⟩ := hP
    obtain ⟨q54, q55, -⟩ := hvl56
    have e8 : ρ' 8 = (.string ⟨List.toArray z14⟩) := (valF_eq (h := 2) (by kernel_rfl)).symm.trans q54
    have hkn : Known ρ' [(8, (.string ⟨List.toArray z14⟩))] := ⟨e8, trivial⟩
    refine Step.known _ hkn ?_
    refine Step.strCat (T := 9) (T' := 9) (x := (.tmp 8)) (y := (.const (.string ⟨List.toArray ([47] : List UInt8)⟩))) (a := z14) (b := ([47] : List UInt8)) (d := (some 9)) (k := 3) (by kernel_rfl) rfl (by kernel_rfl) (by kernel_rfl) hl21 ?_
    rw [hyl20]
    exact ⟨rfl, _, updO_known hkn, rfl⟩
  ·exact Owe.run (by kernel_rfl) [(1, (.pointer (some ⟨g3, 0, none⟩)))] ⟨gS (by kernel_rfl) (by kernel_rfl), trivial⟩ (.pointer (some ⟨g3, 1, none⟩)) (fun _ _ => by kernel_rfl) rfl
  ·refine Owe.light (by kernel_rfl) [0, 1] (by kernel_rfl) (all_cons ?_ (all_cons ?_ all_nil))
   ·intro ρ' w' hs hah hP
    obtain ⟨hvl58, hs57⟩ := hP
    have e10 := hah 4 10 (by kernel_rfl)
    have hkn : Known ρ' [(10, (.pointer (some ⟨g3, 1, none⟩)))] := ⟨e10, trivial⟩
    refine Step.known _ hkn ?_
    refine Step.load (t := 3) (x := (.tmp 10)) (g := g3) (off := 1) (i := 0) (v := (.int .i64 pBits2)) (d := (some 11)) (k := 5) (by kernel_rfl) rfl (by kernel_rfl) hs57 rfl (by kernel_rfl) ?_
    exact ⟨rfl, _, updO_known hkn, rfl⟩
   ·intro ρ' w' hs hah hP
    obtain ⟨hvl61, hs59⟩ := hP
    obtain ⟨q60, -⟩ := hvl61
    have e10 := hah 4 10 (by kernel_rfl)
    have hkn : Known ρ' [(10, (.pointer (some ⟨g3, 1, none⟩)))] := ⟨e10, trivial⟩
    refine Step.known _ hkn ?_
    refine Step.load (t := 3) (x := (.tmp 10)) (g := g3) (off := 1) (i := 0) (v := (.int .i64 pBits2)) (d := (some 11)) (k := 5) (by kernel_rfl) rfl (by kernel_rfl) hs59 rfl (by kernel_rfl) ?_
    exact ⟨rfl, _, updO_known hkn, rfl⟩
  ·refine Owe.heavy (by kernel_rfl) [(1, 2)] (by kernel_rfl) (all_cons ⟨by kernel_rfl, by kernel_rfl, ?_⟩ all_nil)
   ·intro ρ' w' hs hah hP
    obtain ⟨hvl64, hs62⟩ := hP
    obtain ⟨q63, -⟩ := hvl64
    have e11 := hah 5 11 (by kernel_rfl)
    have hkn : Known ρ' [(11, (.int .i64 pBits2))] := ⟨e11, trivial⟩
    refine Step.known _ hkn ?_
    refine Step.callF (f := 34) (fo := (.func 34)) (xs := #[(.tmp 11)]) (tys := #[2]) (first := #[]) (captured := #[]) (d := (some 12)) (k := 6) (by kernel_rfl) rfl (by kernel_rfl) (by kernel_rfl) Tryd.call34 (L_subwayref01_Decimal_walk  pBits2 w'  z22 hz23) ?_
    rintro e w65 ⟨rfl, hs66⟩
    refine ⟨_, rfl, ?_⟩
    have hs67 := SP.call hs62 hs66
    clear hs66
    have hs68 : SP [] w0 w65 [boxE g3 24 #[(.int .u32 pAddr1), (.int .i64 pBits2)]] := hs67
    clear hs67
    refine ⟨_, updO_known hkn, rfl, ?_⟩
    exact (And.intro (And.intro q63 (And.intro rfl (trivial))) (hs68))
  ·refine Owe.light (by kernel_rfl) [2] (by kernel_rfl) (all_cons ?_ all_nil)
   ·intro ρ' w' hs hah hP
    obtain ⟨hvl72, hs69⟩ := hP
    obtain ⟨q70, q71, -⟩ := hvl72
    have e9 := hah 3 9 (by kernel_rfl)
    have e12 : ρ' 12 = (.string ⟨List.toArray z22⟩) := (valF_eq (h := 6) (by kernel_rfl)).symm.trans q71
    have hkn : Known ρ' [(9, (.string ⟨List.toArray l20⟩)), (12, (.string ⟨List.toArray z22⟩))] := ⟨e9, e12, trivial⟩
    refine Step.known _ hkn ?_
    refine Step.strCat (T := 9) (T' := 9) (x := (.tmp 9)) (y := (.tmp 12)) (a := l20) (b := z22) (d := (some 13)) (k := 7) (by kernel_rfl) rfl (by kernel_rfl) (by kernel_rfl) hl29 ?_
    rw [hyl28]
    exact ⟨rfl, _, updO_known hkn, rfl⟩
  ·exact Owe.run (by kernel_rfl) [(13, (.string ⟨List.toArray l28⟩))] ⟨gA 7 (by kernel_rfl) (by kernel_rfl), trivial⟩ (.string ⟨List.toArray l28⟩) (fun _ _ => by kernel_rfl) rfl
  ·intro ρ' w' hs hf hP
   obtain ⟨hvl76, hs73⟩ := hP
   obtain ⟨q74, q75, -⟩ := hvl76
   have e2 := hf 8 2 (by kernel_rfl)
   refine postKnown [(2, (.string ⟨List.toArray l28⟩))] ⟨e2, trivial⟩ ?_
   obtain ⟨w77, hww77⟩ : ∃ x, w' = x := ⟨_, rfl⟩
   rw [hww77] at hs73 ⊢
   refine At.ret (by kernel_rfl) ?_
   refine ⟨(.string ⟨List.toArray l28⟩), by kernel_rfl, ?_⟩
   obtain rfl := some_elim H
   exact ⟨rfl, SP.sel hs73 [] rfl rfl⟩
/-! L_subwayref04_Net -/
def L_subwayref04_Net_k1 (z12 : (Int × Bool)) (z18 : (Int × Bool)) (v34 : Bool) : Option (Int × Int × Bool) :=
  (cond v34 (some (0, 0, false)) (some (z12.1, z18.1, true)))
def L_subwayref04_Net (p1 : (List UInt8)) : Option (Int × Int × Bool) :=
  ((L_subwayref04_cut p1 (47 : UInt8)).bind fun z6 => ((L_subwayref04_Addr z6.1).bind fun z12 => ((L_subwayref01_Parse z6.2.1).bind fun z18 => (cond (!z6.2.2) (L_subwayref04_Net_k1 z12 z18 true) (cond (!z12.2) (L_subwayref04_Net_k1 z12 z18 true) (cond (!z18.2) (L_subwayref04_Net_k1 z12 z18 true) (cond (decide (z18.1 > 32)) (L_subwayref04_Net_k1 z12 z18 true) ((L_subwayref04_Right z12.1 z18.1).bind fun z48 => (L_subwayref04_Net_k1 z12 z18 (!z48))))))))))
set_option maxRecDepth 100000 in
set_option maxHeartbeats 4000000 in
theorem L_subwayref04_Net_walk  (p1 : (List UInt8)) (w0 : World)  (r : (Int × Int × Bool)) (H : L_subwayref04_Net p1 = some r) :
  Calls Tryd.prog 14 #[(.string ⟨List.toArray p1⟩)] w0 (fun e w' => e = .returned (.tuple #[(.agg #[(.int .u32 r.1), (.int .i64 r.2.1)]), (.bool r.2.2)]) ∧ SP [] w0 w' []) := by
 unfold L_subwayref04_Net at H
 refine calls_start (n := 52) Tryd.func14 (by kernel_rfl) (by kernel_rfl) (by kernel_rfl) ?_
 have hs0 := SP.start [] w0
 refine At.seq (by kernel_rfl) (p0 := [false]) (p1 := [true]) rfl rfl ?_
 refine At.region (by kernel_rfl) (by kernel_rfl) ?_
 refine In.step (k' := 1) rfl (by kernel_rfl) ?_
 refine Step.alloc (t := 24) (z := (.agg #[(.int .u32 0), (.int .i64 0)])) (d := (some 2)) (k := 0) (by kernel_rfl) rfl (by kernel_rfl) hs0 ?_
 intro g2 w3 hs4
 have hs5 : SP [] w0 w3 [boxE g2 24 #[(.int .u32 0), (.int .i64 0)]] := hs4
 clear hs4
 refine In.run' 1 (k' := 2) rfl [(3, (.bool false))] (by kernel_rfl) ?_
 refine In.fin (by kernel_rfl) ?_
 refine At.seq (by kernel_rfl) (p0 := [true, false]) (p1 := [true, true]) rfl rfl ?_
 refine At.region (by kernel_rfl) (by kernel_rfl) ?_
 refine In.run' 1 (k' := 1) rfl [(12, (.string ⟨List.toArray p1⟩))] (by kernel_rfl) ?_
 obtain ⟨z6, hz7, H⟩ := bind_elim H
 refine In.step (k' := 2) rfl (by kernel_rfl) ?_
 refine Step.callF (f := 26) (fo := (.func 26)) (xs := #[(.tmp 12), (.const (.int .u8 (47)))]) (tys := #[9, 5]) (first := #[]) (captured := #[]) (d := (some 13)) (k := 1) (by kernel_rfl) rfl (by kernel_rfl) (by kernel_rfl) Tryd.call26 (L_subwayref04_cut_walk  p1 (47 : UInt8) w3  z6 hz7) ?_
 rintro e w8 ⟨rfl, hs9⟩
 refine ⟨_, rfl, ?_⟩
 have hs10 := SP.call hs5 hs9
 clear hs9
 have hs11 : SP [] w0 w8 [boxE g2 24 #[(.int .u32 0), (.int .i64 0)]] := hs10
 clear hs10
 refine In.run' 7 (k' := 9) rfl [(11, (.tuple #[(.string ⟨List.toArray z6.1⟩), (.string ⟨List.toArray z6.2.1⟩), (.bool z6.2.2)])), (14, (.string ⟨List.toArray z6.1⟩)), (15, (.string ⟨List.toArray z6.2.1⟩)), (16, (.bool z6.2.2)), (4, (.string ⟨List.toArray z6.1⟩)), (5, (.string ⟨List.toArray z6.2.1⟩)), (6, (.bool z6.2.2))] (by kernel_rfl) ?_
 refine In.fin (by kernel_rfl) ?_
 refine At.seq (by kernel_rfl) (p0 := [true, true, false]) (p1 := [true, true, true]) rfl rfl ?_
 refine At.region (by kernel_rfl) (by kernel_rfl) ?_
 refine In.run' 1 (k' := 1) rfl [(18, (.string ⟨List.toArray z6.1⟩))] (by kernel_rfl) ?_
 obtain ⟨z12, hz13, H⟩ := bind_elim H
 refine In.step (k' := 2) rfl (by kernel_rfl) ?_
 refine Step.callF (f := 12) (fo := (.func 12)) (xs := #[(.tmp 18)]) (tys := #[9]) (first := #[]) (captured := #[]) (d := (some 19)) (k := 1) (by kernel_rfl) rfl (by kernel_rfl) (by kernel_rfl) Tryd.call12 (L_subwayref04_Addr_walk  z6.1 w8  z12 hz13) ?_
 rintro e w14 ⟨rfl, hs15⟩
 refine ⟨_, rfl, ?_⟩
 have hs16 := SP.call hs11 hs15
 clear hs15
 have hs17 : SP [] w0 w14 [boxE g2 24 #[(.int .u32 0), (.int .i64 0)]] := hs16
 clear hs16
 refine In.run' 5 (k' := 7) rfl [(17, (.tuple #[(.int .u32 z12.1), (.bool z12.2)])), (20, (.int .u32 z12.1)), (21, (.bool z12.2)), (7, (.int .u32 z12.1)), (8, (.bool z12.2))] (by kernel_rfl) ?_
 refine In.fin (by kernel_rfl) ?_
 refine At.seq (by kernel_rfl) (p0 := [true, true, true, false]) (p1 := [true, true, true, true]) rfl rfl ?_
 refine At.region (by kernel_rfl) (by kernel_rfl) ?_
 refine In.run' 1 (k' := 1) rfl [(23, (.string ⟨List.toArray z6.2.1⟩))] (by kernel_rfl) ?_
 obtain ⟨z18, hz19, H⟩ := bind_elim H
 refine In.step (k' := 2) rfl (by kernel_rfl) ?_
 refine Step.callF (f := 27) (fo := (.func 27)) (xs := #[(.tmp 23)]) (tys := #[9]) (first := #[]) (captured := #[]) (d := (some 24)) (k := 1) (by kernel_rfl) rfl (by kernel_rfl) (by kernel_rfl) Tryd.call27 (L_subwayref01_Parse_walk  z6.2.1 w14  z18 hz19) ?_
 rintro e w20 ⟨rfl, hs21⟩
 refine ⟨_, rfl, ?_⟩
 have hs22 := SP.call hs17 hs21
 clear hs21
 have hs23 : SP [] w0 w20 [boxE g2 24 #[(.int .u32 0), (.int .i64 0)]] := hs22
 clear hs22
 refine In.run' 5 (k' := 7) rfl [(22, (.tuple #[(.int .i64 z18.1), (.bool z18.2)])), (25, (.int .i64 z18.1)), (26, (.bool z18.2)), (9, (.int .i64 z18.1)), (10, (.bool z18.2))] (by kernel_rfl) ?_
 refine In.fin (by kernel_rfl) ?_
 refine At.seq (by kernel_rfl) (p0 := [true, true, true, true, false]) (p1 := [true, true, true, true, true]) rfl rfl ?_
 refine At.seq (by kernel_rfl) (p0 := [true, true, true, true, false, false]) (p1 := [true, true, true, true, false, true]) rfl rfl ?_
 refine At.join (fun ρ w => ∃ (v34 : Bool), Known ρ [(2, (.pointer (some ⟨g2, 0, none⟩))), (7, (.int .u32 z12.1)), (9, (.int .i64 z18.1)), (47, (.bool v34))] ∧ SP [] w0 w [boxE g2 24 #[(.int .u32 0), (.int .i64 0)]] ∧ L_subwayref04_Net_k1 z12 z18 v34 = some r) ?_ ?_
 ·refine At.region (by kernel_rfl) (by kernel_rfl) ?_
  refine In.run' 3 (k' := 3) rfl [(27, (.bool z6.2.2)), (28, (.bool (!z6.2.2))), (29, (.bool (!z6.2.2)))] (by kernel_rfl) ?_
  refine In.guard (t := 29) (b := (!z6.2.2)) (by kernel_rfl) (fun hb44 => ?_) (fun hb44 => ?_)
  ·have H := ct H hb44
   refine In.run' 18 (k' := 21) rfl [(30, undef), (31, undef), (32, (.bool true)), (33, (.bool true)), (34, undef), (35, undef), (36, (.bool true)), (37, (.bool true)), (38, undef), (39, undef), (40, (.bool true)), (41, (.bool true)), (42, undef), (43, undef), (44, undef), (45, undef), (46, undef), (47, (.bool true))] (by kernel_rfl) ?_
   refine In.fin (by kernel_rfl) ?_
   exact ⟨true, ⟨(by kernel_rfl), (by kernel_rfl), (by kernel_rfl), (by kernel_rfl), trivial⟩, SP.sel hs23 [0] rfl rfl, H⟩
  ·have H := cf H hb44
   refine In.run' 4 (k' := 7) rfl [(30, (.bool z12.2)), (31, (.bool (!z12.2))), (32, (.bool (!z12.2))), (33, (.bool (!z12.2)))] (by kernel_rfl) ?_
   refine In.guard (t := 33) (b := (!z12.2)) (by kernel_rfl) (fun hb45 => ?_) (fun hb45 => ?_)
   ·have H := ct H hb45
    refine In.run' 14 (k' := 21) rfl [(34, undef), (35, undef), (36, (.bool true)), (37, (.bool true)), (38, undef), (39, undef), (40, (.bool true)), (41, (.bool true)), (42, undef), (43, undef), (44, undef), (45, undef), (46, undef), (47, (.bool true))] (by kernel_rfl) ?_
    refine In.fin (by kernel_rfl) ?_
    exact ⟨true, ⟨(by kernel_rfl), (by kernel_rfl), (by kernel_rfl), (by kernel_rfl), trivial⟩, SP.sel hs23 [0] rfl rfl, H⟩
   ·have H := cf H hb45
    refine In.run' 4 (k' := 11) rfl [(34, (.bool z18.2)), (35, (.bool (!z18.2))), (36, (.bool (!z18.2))), (37, (.bool (!z18.2)))] (by kernel_rfl) ?_
    refine In.guard (t := 37) (b := (!z18.2)) (by kernel_rfl) (fun hb46 => ?_) (fun hb46 => ?_)
    ·have H := ct H hb46
     refine In.run' 10 (k' := 21) rfl [(38, undef), (39, undef), (40, (.bool true)), (41, (.bool true)), (42, undef), (43, undef), (44, undef), (45, undef), (46, undef), (47, (.bool true))] (by kernel_rfl) ?_
     refine In.fin (by kernel_rfl) ?_
     exact ⟨true, ⟨(by kernel_rfl), (by kernel_rfl), (by kernel_rfl), (by kernel_rfl), trivial⟩, SP.sel hs23 [0] rfl rfl, H⟩
    ·have H := cf H hb46
     refine In.run' 4 (k' := 15) rfl [(38, (.int .i64 z18.1)), (39, (.bool (decide (z18.1 > 32)))), (40, (.bool (decide (z18.1 > 32)))), (41, (.bool (decide (z18.1 > 32))))] (by kernel_rfl) ?_
     refine In.guard (t := 41) (b := (decide (z18.1 > 32))) (by kernel_rfl) (fun hb47 => ?_) (fun hb47 => ?_)
     ·have H := ct H hb47
      refine In.run' 6 (k' := 21) rfl [(42, undef), (43, undef), (44, undef), (45, undef), (46, undef), (47, (.bool true))] (by kernel_rfl) ?_
      refine In.fin (by kernel_rfl) ?_
      exact ⟨true, ⟨(by kernel_rfl), (by kernel_rfl), (by kernel_rfl), (by kernel_rfl), trivial⟩, SP.sel hs23 [0] rfl rfl, H⟩
     ·have H := cf H hb47
      refine In.run' 3 (k' := 18) rfl [(42, (.int .u32 z12.1)), (43, (.int .i64 z18.1)), (44, (.agg #[(.int .u32 z12.1), (.int .i64 z18.1)]))] (by kernel_rfl) ?_
      obtain ⟨z48, hz49, H⟩ := bind_elim H
      refine In.step (k' := 19) rfl (by kernel_rfl) ?_
      refine Step.callF (f := 30) (fo := (.func 30)) (xs := #[(.tmp 44)]) (tys := #[24]) (first := #[]) (captured := #[]) (d := (some 45)) (k := 18) (by kernel_rfl) rfl (by kernel_rfl) (by kernel_rfl) Tryd.call30 (L_subwayref04_Right_walk  z12.1 z18.1 w20  z48 hz49) ?_
      rintro e w50 ⟨rfl, hs51⟩
      refine ⟨_, rfl, ?_⟩
      have hs52 := SP.call hs23 hs51
      clear hs51
      have hs53 : SP [] w0 w50 [boxE g2 24 #[(.int .u32 0), (.int .i64 0)]] := hs52
      clear hs52
      refine In.run' 2 (k' := 21) rfl [(46, (.bool (!z48))), (47, (.bool (!z48)))] (by kernel_rfl) ?_
      refine In.fin (by kernel_rfl) ?_
      exact ⟨(!z48), ⟨(by kernel_rfl), (by kernel_rfl), (by kernel_rfl), (by kernel_rfl), trivial⟩, SP.sel hs53 [0] rfl rfl, H⟩
 ·rintro ρ w35 ⟨v34, hk, hs36, H⟩
  unfold L_subwayref04_Net_k1 at H
  refine At.known [(2, (.pointer (some ⟨g2, 0, none⟩))), (7, (.int .u32 z12.1)), (9, (.int .i64 z18.1)), (47, (.bool v34))] hk ?_
  refine At.cond (by kernel_rfl) (o := (.tmp 47)) (by kernel_rfl) (b := v34) (by kernel_rfl) (p0 := [true, true, true, true, false, true, false]) (p1 := [true, true, true, true, false, true, true]) rfl rfl (fun hb37 => ?_) (fun hb37 => ?_)
  ·have H := ct H hb37
   refine At.seq (by kernel_rfl) (p0 := [true, true, true, true, false, true, false, false]) (p1 := [true, true, true, true, false, true, false, true]) rfl rfl ?_
   refine At.region (by kernel_rfl) (by kernel_rfl) ?_
   refine In.run' 1 (k' := 1) rfl [(48, (.agg #[(.int .u32 0), (.int .i64 0)]))] (by kernel_rfl) ?_
   refine In.step (k' := 2) rfl (by kernel_rfl) ?_
   refine Step.store (t := 24) (x := (.tmp 2)) (y := (.tmp 48)) (g := g2) (off := 0) (i := 0) (v := (.agg #[(.int .u32 0), (.int .i64 0)])) (cs' := #[(.int .u32 0), (.int .i64 0)]) (d := none) (k := 1) (by kernel_rfl) rfl (by kernel_rfl) (by kernel_rfl) hs36 rfl (by kernel_rfl) ?_
   intro w38 hs39
   have hs40 : SP [] w0 w38 [boxE g2 24 #[(.int .u32 0), (.int .i64 0)]] := hs39
   clear hs39
   refine In.run' 1 (k' := 3) rfl [(3, (.bool false))] (by kernel_rfl) ?_
   refine In.fin (by kernel_rfl) ?_
   refine At.ret (by kernel_rfl) ?_
   refine ⟨(.tuple #[(.agg #[(.int .u32 0), (.int .i64 0)]), (.bool false)]), res_2 (by kernel_rfl) (rv_cell (a := 2) (t := 24) (g := g2) (off := 0) (by kernel_rfl) (SP.get hs40 (i := 0) rfl) (by kernel_rfl)) (rv_tmp (t := 3) (by kernel_rfl)), ?_⟩
   obtain rfl := some_elim H
   exact ⟨rfl, SP.sel hs40 [] rfl rfl⟩
  ·have H := cf H hb37
   refine At.skip (by kernel_rfl) ?_
   refine At.seq (by kernel_rfl) (p0 := [true, true, true, true, true, false]) (p1 := [true, true, true, true, true, true]) rfl rfl ?_
   refine At.region (by kernel_rfl) (by kernel_rfl) ?_
   refine In.run' 3 (k' := 3) rfl [(49, (.int .u32 z12.1)), (50, (.int .i64 z18.1)), (51, (.agg #[(.int .u32 z12.1), (.int .i64 z18.1)]))] (by kernel_rfl) ?_
   refine In.step (k' := 4) rfl (by kernel_rfl) ?_
   refine Step.store (t := 24) (x := (.tmp 2)) (y := (.tmp 51)) (g := g2) (off := 0) (i := 0) (v := (.agg #[(.int .u32 z12.1), (.int .i64 z18.1)])) (cs' := #[(.int .u32 z12.1), (.int .i64 z18.1)]) (d := none) (k := 3) (by kernel_rfl) rfl (by kernel_rfl) (by kernel_rfl) hs36 rfl (by kernel_rfl) ?_
   intro w41 hs42
   have hs43 : SP [] w0 w41 [boxE g2 24 #[(.int .u32 z12.1), (.int .i64 z18.1)]] := hs42
   clear hs42
   refine In.run' 1 (k' := 5) rfl [(3, (.bool true))] (by kernel_rfl) ?_
   refine In.fin (by kernel_rfl) ?_
   refine At.ret (by kernel_rfl) ?_
   refine ⟨(.tuple #[(.agg #[(.int .u32 z12.1), (.int .i64 z18.1)]), (.bool true)]), res_2 (by kernel_rfl) (rv_cell (a := 2) (t := 24) (g := g2) (off := 0) (by kernel_rfl) (SP.get hs43 (i := 0) rfl) (by kernel_rfl)) (rv_tmp (t := 3) (by kernel_rfl)), ?_⟩
   obtain rfl := some_elim H
   exact ⟨rfl, SP.sel hs43 [] rfl rfl⟩
/-! L_subwayref04_In -/
def L_subwayref04_In_k1 (v79 : Bool) : Option (Bool) :=
  (some (v79))
def L_subwayref04_In (pAddr1 : Int) (pBits2 : Int) (p3 : Int) : Option (Bool) :=
  ((L_subwayref04_Right pAddr1 pBits2).bind fun z82 => (cond z82 ((L_subwayref04_head p3 pBits2).bind fun z89 => (L_subwayref04_In_k1 (z89 == pAddr1))) (L_subwayref04_In_k1 false)))
set_option maxRecDepth 100000 in
set_option maxHeartbeats 4000000 in
theorem L_subwayref04_In_walk  (pAddr1 : Int) (pBits2 : Int) (p3 : Int) (w0 : World)  (r : (Bool)) (H : L_subwayref04_In pAddr1 pBits2 p3 = some r) :
  Calls Tryd.prog 22 #[(.agg #[(.int .u32 pAddr1), (.int .i64 pBits2)]), (.int .u32 p3)] w0 (fun e w' => e = .returned (.bool r) ∧ SP [] w0 w' []) := by
 unfold L_subwayref04_In at H
 refine calls_start (n := 16) Tryd.func22 (by kernel_rfl) (by kernel_rfl) (by kernel_rfl) ?_
 have hs0 := SP.start [] w0
 refine At.seq (by kernel_rfl) (p0 := [false]) (p1 := [true]) rfl rfl ?_
 refine At.region (by kernel_rfl) (by kernel_rfl) ?_
 refine In.step (k' := 1) rfl (by kernel_rfl) ?_
 refine Step.box (t := 24) (x := (.tmp 0)) (v := (.agg #[(.int .u32 pAddr1), (.int .i64 pBits2)])) (d := (some 2)) (k := 0) (by kernel_rfl) rfl (by kernel_rfl) hs0 ?_
 intro g4 w5 hs6
 have hs7 : SP [] w0 w5 [boxE g4 24 #[(.int .u32 pAddr1), (.int .i64 pBits2)]] := hs6
 clear hs6
 refine In.run' 1 (k' := 2) rfl [(4, (.bool false))] (by kernel_rfl) ?_
 refine In.fin (by kernel_rfl) ?_
 refine At.seq (by kernel_rfl) (p0 := [true, false]) (p1 := [true, true]) rfl rfl ?_
 refine At.join (fun ρ w => ∃ (v79 : Bool), Known ρ [(4, (.bool v79))] ∧ SP [] w0 w [] ∧ L_subwayref04_In_k1 v79 = some r) ?_ ?_
 ·obtain ⟨z82, hz83, H⟩ := bind_elim H
  rcases Bool.eq_false_or_eq_true z82 with hb88 | hb88
  ·have H := ct H hb88
   obtain ⟨z89, hz90, H⟩ := bind_elim H
   refine At.stages (by kernel_rfl) (by kernel_rfl) (by kernel_rfl) (by kernel_rfl) (by kernel_rfl) [GEq (.agg #[(.int .u32 pAddr1), (.int .i64 pBits2)]), GEq (.bool z82), GEq (.bool z82), GEq (.int .u32 p3), GEq (.pointer (some ⟨g4, 1, none⟩)), GEq (.int .i64 pBits2), GEq (.int .u32 z89), GEq (.pointer (some ⟨g4, 0, none⟩)), GEq (.int .u32 pAddr1), GEq (.bool (z89 == pAddr1)), GEq (.bool (z89 == pAddr1)), GEq (.bool (z89 == pAddr1))] [1, 6] [([], fun vs w => VL vs [] ∧ SP [] w0 w [boxE g4 24 #[(.int .u32 pAddr1), (.int .i64 pBits2)]]), ([1], fun vs w => VL vs [(.bool z82)] ∧ SP [] w0 w [boxE g4 24 #[(.int .u32 pAddr1), (.int .i64 pBits2)]]), ([1, 6], fun vs w => VL vs [(.bool z82), (.int .u32 z89)] ∧ SP [] w0 w [boxE g4 24 #[(.int .u32 pAddr1), (.int .i64 pBits2)]])] (N := 12) (by kernel_rfl) ⟨by kernel_rfl, Nat.zero_lt_succ _⟩ (show VL [] [] ∧ SP [] w0 w5.drew [boxE g4 24 #[(.int .u32 pAddr1), (.int .i64 pBits2)]] from ⟨trivial, SP.drew hs7⟩) ⟨⟨⟨⟨⟨⟨⟨⟨⟨⟨⟨⟨trivial, ?_⟩, ?_⟩, ?_⟩, ?_⟩, ?_⟩, ?_⟩, ?_⟩, ?_⟩, ?_⟩, ?_⟩, ?_⟩, ?_⟩ (last := 2) (by kernel_rfl) ?_
   ·refine Owe.light (by kernel_rfl) [0] (by kernel_rfl) (all_cons ?_ all_nil)
    ·intro ρ' w' hs hah hP
     obtain ⟨hvl108, hs107⟩ := hP
     have e2 : ρ' 2 = (.pointer (some ⟨g4, 0, none⟩)) := (hs 2 (by kernel_rfl)).trans (by kernel_rfl)
     have hkn : Known ρ' [(2, (.pointer (some ⟨g4, 0, none⟩)))] := ⟨e2, trivial⟩
     refine Step.known _ hkn ?_
     refine Step.load (t := 24) (x := (.tmp 2)) (g := g4) (off := 0) (i := 0) (v := (.agg #[(.int .u32 pAddr1), (.int .i64 pBits2)])) (d := (some 5)) (k := 0) (by kernel_rfl) rfl (by kernel_rfl) hs107 rfl (by kernel_rfl) ?_
     exact ⟨rfl, _, updO_known hkn, rfl⟩
   ·refine Owe.heavy (by kernel_rfl) [(0, 1)] (by kernel_rfl) (all_cons ⟨by kernel_rfl, by kernel_rfl, ?_⟩ all_nil)
    ·intro ρ' w' hs hah hP
     obtain ⟨hvl110, hs109⟩ := hP
     have e5 := hah 0 5 (by kernel_rfl)
     have hkn : Known ρ' [(5, (.agg #[(.int .u32 pAddr1), (.int .i64 pBits2)]))] := ⟨e5, trivial⟩
     refine Step.known _ hkn ?_
     refine Step.callF (f := 30) (fo := (.func 30)) (xs := #[(.tmp 5)]) (tys := #[24]) (first := #[]) (captured := #[]) (d := (some 6)) (k := 1) (by kernel_rfl) rfl (by kernel_rfl) (by kernel_rfl) Tryd.call30 (L_subwayref04_Right_walk  pAddr1 pBits2 w'  z82 hz83) ?_
     rintro e w111 ⟨rfl, hs112⟩
     refine ⟨_, rfl, ?_⟩
     have hs113 := SP.call hs109 hs112
     clear hs112
     have hs114 : SP [] w0 w111 [boxE g4 24 #[(.int .u32 pAddr1), (.int .i64 pBits2)]] := hs113
     clear hs113
     refine ⟨_, updO_known hkn, rfl, ?_⟩
     exact (And.intro (And.intro rfl (trivial)) (hs114))
   ·exact Owe.run (by kernel_rfl) [(6, (.bool z82))] ⟨gA 1 (by kernel_rfl) (by kernel_rfl), trivial⟩ (.bool z82) (fun _ _ => by kernel_rfl) rfl
   ·exact Owe.run (by kernel_rfl) [(1, (.int .u32 p3)), (7, (.bool true))] ⟨gS (by kernel_rfl) (by kernel_rfl), gB 2 (by kernel_rfl) z82 (by kernel_rfl) hb88, trivial⟩ (.int .u32 p3) (fun _ _ => by kernel_rfl) rfl
   ·exact Owe.run (by kernel_rfl) [(2, (.pointer (some ⟨g4, 0, none⟩))), (7, (.bool true))] ⟨gS (by kernel_rfl) (by kernel_rfl), gB 2 (by kernel_rfl) z82 (by kernel_rfl) hb88, trivial⟩ (.pointer (some ⟨g4, 1, none⟩)) (fun _ _ => by kernel_rfl) rfl
   ·refine Owe.light (by kernel_rfl) [1] (by kernel_rfl) (all_cons ?_ all_nil)
    ·intro ρ' w' hs hah hP
     obtain ⟨hvl117, hs115⟩ := hP
     obtain ⟨q116, -⟩ := hvl117
     have e9 := hah 4 9 (by kernel_rfl)
     have e7 := hah 2 7 (by kernel_rfl)
     have hkn : Known ρ' [(9, (.pointer (some ⟨g4, 1, none⟩))), (7, (.bool true))] := ⟨e9, (Eq.trans e7 (congrArg Value.bool hb88)), trivial⟩
     refine Step.known _ hkn ?_
     refine Step.load (t := 3) (x := (.tmp 9)) (g := g4) (off := 1) (i := 0) (v := (.int .i64 pBits2)) (d := (some 10)) (k := 5) (by kernel_rfl) rfl (by kernel_rfl) hs115 rfl (by kernel_rfl) ?_
     exact ⟨rfl, _, updO_known hkn, rfl⟩
   ·refine Owe.heavy (by kernel_rfl) [(1, 2)] (by kernel_rfl) (all_cons ⟨by kernel_rfl, by kernel_rfl, ?_⟩ all_nil)
    ·intro ρ' w' hs hah hP
     obtain ⟨hvl120, hs118⟩ := hP
     obtain ⟨q119, -⟩ := hvl120
     have e8 := hah 3 8 (by kernel_rfl)
     have e10 := hah 5 10 (by kernel_rfl)
     have e7 := hah 2 7 (by kernel_rfl)
     have hkn : Known ρ' [(8, (.int .u32 p3)), (10, (.int .i64 pBits2)), (7, (.bool true))] := ⟨e8, e10, (Eq.trans e7 (congrArg Value.bool hb88)), trivial⟩
     refine Step.known _ hkn ?_
     refine Step.callF (f := 36) (fo := (.func 36)) (xs := #[(.tmp 8), (.tmp 10)]) (tys := #[22, 3]) (first := #[]) (captured := #[]) (d := (some 11)) (k := 6) (by kernel_rfl) rfl (by kernel_rfl) (by kernel_rfl) Tryd.call36 (L_subwayref04_head_walk  p3 pBits2 w'  z89 hz90) ?_
     rintro e w121 ⟨rfl, hs122⟩
     refine ⟨_, rfl, ?_⟩
     have hs123 := SP.call hs118 hs122
     clear hs122
     have hs124 : SP [] w0 w121 [boxE g4 24 #[(.int .u32 pAddr1), (.int .i64 pBits2)]] := hs123
     clear hs123
     refine ⟨_, updO_known hkn, rfl, ?_⟩
     exact (And.intro (And.intro q119 (And.intro rfl (trivial))) (hs124))
   ·exact Owe.run (by kernel_rfl) [(2, (.pointer (some ⟨g4, 0, none⟩))), (7, (.bool true))] ⟨gS (by kernel_rfl) (by kernel_rfl), gB 2 (by kernel_rfl) z82 (by kernel_rfl) hb88, trivial⟩ (.pointer (some ⟨g4, 0, none⟩)) (fun _ _ => by kernel_rfl) rfl
   ·refine Owe.light (by kernel_rfl) [1, 2] (by kernel_rfl) (all_cons ?_ (all_cons ?_ all_nil))
    ·intro ρ' w' hs hah hP
     obtain ⟨hvl127, hs125⟩ := hP
     obtain ⟨q126, -⟩ := hvl127
     have e12 := hah 7 12 (by kernel_rfl)
     have e7 := hah 2 7 (by kernel_rfl)
     have hkn : Known ρ' [(12, (.pointer (some ⟨g4, 0, none⟩))), (7, (.bool true))] := ⟨e12, (Eq.trans e7 (congrArg Value.bool hb88)), trivial⟩
     refine Step.known _ hkn ?_
     refine Step.load (t := 22) (x := (.tmp 12)) (g := g4) (off := 0) (i := 0) (v := (.int .u32 pAddr1)) (d := (some 13)) (k := 8) (by kernel_rfl) rfl (by kernel_rfl) hs125 rfl (by kernel_rfl) ?_
     exact ⟨rfl, _, updO_known hkn, rfl⟩
    ·intro ρ' w' hs hah hP
     obtain ⟨hvl131, hs128⟩ := hP
     obtain ⟨q129, q130, -⟩ := hvl131
     have e12 := hah 7 12 (by kernel_rfl)
     have e7 := hah 2 7 (by kernel_rfl)
     have hkn : Known ρ' [(12, (.pointer (some ⟨g4, 0, none⟩))), (7, (.bool true))] := ⟨e12, (Eq.trans e7 (congrArg Value.bool hb88)), trivial⟩
     refine Step.known _ hkn ?_
     refine Step.load (t := 22) (x := (.tmp 12)) (g := g4) (off := 0) (i := 0) (v := (.int .u32 pAddr1)) (d := (some 13)) (k := 8) (by kernel_rfl) rfl (by kernel_rfl) hs128 rfl (by kernel_rfl) ?_
     exact ⟨rfl, _, updO_known hkn, rfl⟩
   ·exact Owe.run (by kernel_rfl) [(11, (.int .u32 z89)), (13, (.int .u32 pAddr1)), (7, (.bool true))] ⟨gA 6 (by kernel_rfl) (by kernel_rfl), gA 8 (by kernel_rfl) (by kernel_rfl), gB 2 (by kernel_rfl) z82 (by kernel_rfl) hb88, trivial⟩ (.bool (z89 == pAddr1)) (fun _ _ => by kernel_rfl) rfl
   ·exact Owe.run (by kernel_rfl) [(7, (.bool true)), (14, (.bool (z89 == pAddr1)))] ⟨gB 2 (by kernel_rfl) z82 (by kernel_rfl) hb88, gA 9 (by kernel_rfl) (by kernel_rfl), trivial⟩ (.bool (z89 == pAddr1)) (fun _ _ => by kernel_rfl) rfl
   ·exact Owe.run (by kernel_rfl) [(15, (.bool (z89 == pAddr1)))] ⟨gA 10 (by kernel_rfl) (by kernel_rfl), trivial⟩ (.bool (z89 == pAddr1)) (fun _ _ => by kernel_rfl) rfl
   ·intro ρ' w' hs hf hP
    obtain ⟨hvl135, hs132⟩ := hP
    obtain ⟨q133, q134, -⟩ := hvl135
    have e4 := hf 11 4 (by kernel_rfl)
    refine postKnown [(4, (.bool (z89 == pAddr1)))] ⟨e4, trivial⟩ ?_
    obtain ⟨w136, hww136⟩ : ∃ x, w' = x := ⟨_, rfl⟩
    rw [hww136] at hs132 ⊢
    exact ⟨(z89 == pAddr1), ⟨(by kernel_rfl), trivial⟩, SP.sel hs132 [] rfl rfl, H⟩
  ·have H := cf H hb88
   refine At.stages (by kernel_rfl) (by kernel_rfl) (by kernel_rfl) (by kernel_rfl) (by kernel_rfl) [GEq (.agg #[(.int .u32 pAddr1), (.int .i64 pBits2)]), GEq (.bool z82), GEq (.bool z82), GEq undef, GEq undef, GEq undef, GEq undef, GEq undef, GEq undef, GEq undef, GEq (.bool false), GEq (.bool false)] [1] [([], fun vs w => VL vs [] ∧ SP [] w0 w [boxE g4 24 #[(.int .u32 pAddr1), (.int .i64 pBits2)]]), ([1], fun vs w => VL vs [(.bool z82)] ∧ SP [] w0 w [boxE g4 24 #[(.int .u32 pAddr1), (.int .i64 pBits2)]])] (N := 12) (by kernel_rfl) ⟨by kernel_rfl, Nat.zero_lt_succ _⟩ (show VL [] [] ∧ SP [] w0 w5.drew [boxE g4 24 #[(.int .u32 pAddr1), (.int .i64 pBits2)]] from ⟨trivial, SP.drew hs7⟩) ⟨⟨⟨⟨⟨⟨⟨⟨⟨⟨⟨⟨trivial, ?_⟩, ?_⟩, ?_⟩, ?_⟩, ?_⟩, ?_⟩, ?_⟩, ?_⟩, ?_⟩, ?_⟩, ?_⟩, ?_⟩ (last := 1) (by kernel_rfl) ?_
   ·refine Owe.light (by kernel_rfl) [0] (by kernel_rfl) (all_cons ?_ all_nil)
    ·intro ρ' w' hs hah hP
     obtain ⟨hvl142, hs141⟩ := hP
     have e2 : ρ' 2 = (.pointer (some ⟨g4, 0, none⟩)) := (hs 2 (by kernel_rfl)).trans (by kernel_rfl)
     have hkn : Known ρ' [(2, (.pointer (some ⟨g4, 0, none⟩)))] := ⟨e2, trivial⟩
     refine Step.known _ hkn ?_
     refine Step.load (t := 24) (x := (.tmp 2)) (g := g4) (off := 0) (i := 0) (v := (.agg #[(.int .u32 pAddr1), (.int .i64 pBits2)])) (d := (some 5)) (k := 0) (by kernel_rfl) rfl (by kernel_rfl) hs141 rfl (by kernel_rfl) ?_
     exact ⟨rfl, _, updO_known hkn, rfl⟩
   ·refine Owe.heavy (by kernel_rfl) [(0, 1)] (by kernel_rfl) (all_cons ⟨by kernel_rfl, by kernel_rfl, ?_⟩ all_nil)
    ·intro ρ' w' hs hah hP
     obtain ⟨hvl144, hs143⟩ := hP
     have e5 := hah 0 5 (by kernel_rfl)
     have hkn : Known ρ' [(5, (.agg #[(.int .u32 pAddr1), (.int .i64 pBits2)]))] := ⟨e5, trivial⟩
     refine Step.known _ hkn ?_
     refine Step.callF (f := 30) (fo := (.func 30)) (xs := #[(.tmp 5)]) (tys := #[24]) (first := #[]) (captured := #[]) (d := (some 6)) (k := 1) (by kernel_rfl) rfl (by kernel_rfl) (by kernel_rfl) Tryd.call30 (L_subwayref04_Right_walk  pAddr1 pBits2 w'  z82 hz83) ?_
     rintro e w145 ⟨rfl, hs146⟩
     refine ⟨_, rfl, ?_⟩
     have hs147 := SP.call hs143 hs146
     clear hs146
     have hs148 : SP [] w0 w145 [boxE g4 24 #[(.int .u32 pAddr1), (.int .i64 pBits2)]] := hs147
     clear hs147
     refine ⟨_, updO_known hkn, rfl, ?_⟩
     exact (And.intro (And.intro rfl (trivial)) (hs148))
   ·exact Owe.run (by kernel_rfl) [(6, (.bool z82))] ⟨gA 1 (by kernel_rfl) (by kernel_rfl), trivial⟩ (.bool z82) (fun _ _ => by kernel_rfl) rfl
   ·exact Owe.skip (by kernel_rfl) [(7, (.bool false))] ⟨gB 2 (by kernel_rfl) z82 (by kernel_rfl) hb88, trivial⟩ (some 8) (fun _ => by kernel_rfl) (by kernel_rfl) rfl
   ·exact Owe.skip (by kernel_rfl) [(7, (.bool false))] ⟨gB 2 (by kernel_rfl) z82 (by kernel_rfl) hb88, trivial⟩ (some 9) (fun _ => by kernel_rfl) (by kernel_rfl) rfl
   ·exact Owe.skip (by kernel_rfl) [(7, (.bool false))] ⟨gB 2 (by kernel_rfl) z82 (by kernel_rfl) hb88, trivial⟩ (some 10) (fun _ => by kernel_rfl) (by kernel_rfl) rfl
   ·exact Owe.skip (by kernel_rfl) [(7, (.bool false))] ⟨gB 2 (by kernel_rfl) z82 (by kernel_rfl) hb88, trivial⟩ (some 11) (fun _ => by kernel_rfl) (by kernel_rfl) rfl
   ·exact Owe.skip (by kernel_rfl) [(7, (.bool false))] ⟨gB 2 (by kernel_rfl) z82 (by kernel_rfl) hb88, trivial⟩ (some 12) (fun _ => by kernel_rfl) (by kernel_rfl) rfl
   ·exact Owe.skip (by kernel_rfl) [(7, (.bool false))] ⟨gB 2 (by kernel_rfl) z82 (by kernel_rfl) hb88, trivial⟩ (some 13) (fun _ => by kernel_rfl) (by kernel_rfl) rfl
   ·exact Owe.skip (by kernel_rfl) [(7, (.bool false))] ⟨gB 2 (by kernel_rfl) z82 (by kernel_rfl) hb88, trivial⟩ (some 14) (fun _ => by kernel_rfl) (by kernel_rfl) rfl
   ·exact Owe.run (by kernel_rfl) [(7, (.bool false)), (14, undef)] ⟨gB 2 (by kernel_rfl) z82 (by kernel_rfl) hb88, gA 9 (by kernel_rfl) (by kernel_rfl), trivial⟩ (.bool false) (fun _ _ => by kernel_rfl) rfl
   ·exact Owe.run (by kernel_rfl) [(15, (.bool false))] ⟨gA 10 (by kernel_rfl) (by kernel_rfl), trivial⟩ (.bool false) (fun _ _ => by kernel_rfl) rfl
   ·intro ρ' w' hs hf hP
    obtain ⟨hvl151, hs149⟩ := hP
    obtain ⟨q150, -⟩ := hvl151
    have e4 := hf 11 4 (by kernel_rfl)
    refine postKnown [(4, (.bool false))] ⟨e4, trivial⟩ ?_
    obtain ⟨w152, hww152⟩ : ∃ x, w' = x := ⟨_, rfl⟩
    rw [hww152] at hs149 ⊢
    exact ⟨false, ⟨(by kernel_rfl), trivial⟩, SP.sel hs149 [] rfl rfl, H⟩
 ·rintro ρ w80 ⟨v79, hk, hs81, H⟩
  unfold L_subwayref04_In_k1 at H
  refine At.known [(4, (.bool v79))] hk ?_
  refine At.ret (by kernel_rfl) ?_
  refine ⟨(.bool v79), by kernel_rfl, ?_⟩
  obtain rfl := some_elim H
  exact ⟨rfl, SP.sel hs81 [] rfl rfl⟩
end Go.Proofs.YthnakiihenbcjaaDoor
