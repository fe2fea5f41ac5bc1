/- LIFTED BY PROGRAM (tools/lift.py): what functions compute, and that they do. -/
import Derived.Test.YthnakiihenbcjaaDoorSynHand
import Derived.Test.YthnakiihenbcjaaDoorLNum
namespace Go.Proofs.YthnakiihenbcjaaDoor
set_option linter.unusedSimpArgs false
set_option linter.unusedVariables false
open Go.RowKit

/-! L_internal_stringslite_Cut -/
def L_internal_stringslite_Cut (p1 : (List UInt8)) (p2 : (List UInt8)) : Option ((List UInt8) × (List UInt8) × Bool) :=
  ((L_internal_stringslite_Index p1 p2).bind fun z3 => (cond (decide (z3 ≥ 0)) ((sub p1 0 z3).bind fun l13 => ((sub p1 (IntKind.wrap .i64 (z3 + ((List.length p2 : Nat) : Int))) ((List.length p1 : Nat) : Int)).bind fun l17 => (some (l13, l17, true)))) (some (p1, ([] : List UInt8), false))))
set_option maxRecDepth 100000 in
set_option maxHeartbeats 4000000 in
theorem L_internal_stringslite_Cut_walk  (p1 : (List UInt8)) (p2 : (List UInt8)) (w0 : World)  (r : ((List UInt8) × (List UInt8) × Bool)) (H : L_internal_stringslite_Cut p1 p2 = some r) :
  Calls Tryd.prog 38 #[(.string ⟨List.toArray p1⟩), (.string ⟨List.toArray p2⟩)] w0 (fun e w' => e = .returned (.tuple #[(.string ⟨List.toArray r.1⟩), (.string ⟨List.toArray r.2.1⟩), (.bool r.2.2)]) ∧ SP [] w0 w' []) := by
 unfold L_internal_stringslite_Cut at H
 refine calls_start (n := 23) Tryd.func38 (by kernel_rfl) (by kernel_rfl) (by kernel_rfl) ?_
 have hs0 := SP.start [] w0
 refine At.seq (by kernel_rfl) (p0 := [false]) (p1 := [true]) rfl rfl ?_
 refine At.region (by kernel_rfl) (by kernel_rfl) ?_
 refine In.run' 3 (k' := 3) rfl [(4, (.string ⟨List.toArray ([] : List UInt8)⟩)), (5, (.string ⟨List.toArray ([] : List UInt8)⟩)), (6, (.bool false))] (by kernel_rfl) ?_
 refine In.fin (by kernel_rfl) ?_
 refine At.seq (by kernel_rfl) (p0 := [true, false]) (p1 := [true, true]) rfl rfl ?_
 refine At.seq (by kernel_rfl) (p0 := [true, false, false]) (p1 := [true, false, true]) rfl rfl ?_
 refine At.region (by kernel_rfl) (by kernel_rfl) ?_
 refine In.run' 2 (k' := 2) rfl [(8, (.string ⟨List.toArray p1⟩)), (9, (.string ⟨List.toArray p2⟩))] (by kernel_rfl) ?_
 obtain ⟨z3, hz4, H⟩ := bind_elim H
 refine In.step (k' := 3) rfl (by kernel_rfl) ?_
 refine Step.callF (f := 53) (fo := (.func 53)) (xs := #[(.tmp 8), (.tmp 9)]) (tys := #[9, 9]) (first := #[]) (captured := #[]) (d := (some 10)) (k := 2) (by kernel_rfl) rfl (by kernel_rfl) (by kernel_rfl) Tryd.call53 (L_internal_stringslite_Index_walk  p1 p2 w0  z3 hz4) ?_
 rintro e w5 ⟨rfl, hs6⟩
 refine ⟨_, rfl, ?_⟩
 have hs7 := SP.call hs0 hs6
 clear hs6
 have hs8 : SP [] w0 w5 [] := hs7
 clear hs7
 refine In.run' 1 (k' := 4) rfl [(7, (.int .i64 z3))] (by kernel_rfl) ?_
 refine In.fin (by kernel_rfl) ?_
 refine At.seq (by kernel_rfl) (p0 := [true, false, true, false]) (p1 := [true, false, true, true]) rfl rfl ?_
 refine At.region (by kernel_rfl) (by kernel_rfl) ?_
 refine In.run' 2 (k' := 2) rfl [(11, (.int .i64 z3)), (12, (.bool (decide (z3 ≥ 0))))] (by kernel_rfl) ?_
 refine In.fin (by kernel_rfl) ?_
 refine At.cond (by kernel_rfl) (o := (.tmp 12)) (by kernel_rfl) (b := (decide (z3 ≥ 0))) (by kernel_rfl) (p0 := [true, false, true, true, false]) (p1 := [true, false, true, true, true]) rfl rfl (fun hb9 => ?_) (fun hb9 => ?_)
 ·have H := ct H hb9
  refine At.seq (by kernel_rfl) (p0 := [true, false, true, true, false, false]) (p1 := [true, false, true, true, false, true]) rfl rfl ?_
  obtain ⟨hz10, hz11, hz12, H⟩ := sub_elim H
  obtain ⟨l13, hyl13⟩ : ∃ y, (List.drop (Int.toNat 0) (List.take (Int.toNat z3) p1)) = y := ⟨_, rfl⟩
  rw [hyl13] at H
  obtain ⟨hz14, hz15, hz16, H⟩ := sub_elim H
  obtain ⟨l17, hyl17⟩ : ∃ y, (List.drop (Int.toNat (IntKind.wrap .i64 (z3 + ((List.length p2 : Nat) : Int)))) (List.take (Int.toNat ((List.length p1 : Nat) : Int)) p1)) = y := ⟨_, rfl⟩
  rw [hyl17] at H
  refine At.stages (by kernel_rfl) (by kernel_rfl) (by kernel_rfl) (by kernel_rfl) (by kernel_rfl) [GEq (.string ⟨List.toArray p1⟩), GEq (.int .i64 z3), GEq (.string ⟨List.toArray l13⟩), GEq (.string ⟨List.toArray p1⟩), GEq (.int .i64 z3), GEq (.string ⟨List.toArray p2⟩), GEq (.int .i64 ((List.length p2 : Nat) : Int)), GEq (.int .i64 (IntKind.wrap .i64 (z3 + ((List.length p2 : Nat) : Int)))), GEq (.string ⟨List.toArray l17⟩), GEq (.string ⟨List.toArray l13⟩), GEq (.string ⟨List.toArray l17⟩), GEq (.bool true)] [] [([], fun vs w => VL vs [] ∧ SP [] w0 w [])] (N := 12) (by kernel_rfl) ⟨by kernel_rfl, Nat.zero_lt_succ _⟩ (show VL [] [] ∧ SP [] w0 w5.drew [] from ⟨trivial, SP.drew hs8⟩) ⟨⟨⟨⟨⟨⟨⟨⟨⟨⟨⟨⟨trivial, ?_⟩, ?_⟩, ?_⟩, ?_⟩, ?_⟩, ?_⟩, ?_⟩, ?_⟩, ?_⟩, ?_⟩, ?_⟩, ?_⟩ (last := 0) (by kernel_rfl) ?_
  ·exact Owe.run (by kernel_rfl) [(0, (.string ⟨List.toArray p1⟩))] ⟨gS (by kernel_rfl) (by kernel_rfl), trivial⟩ (.string ⟨List.toArray p1⟩) (fun _ _ => by kernel_rfl) rfl
  ·exact Owe.run (by kernel_rfl) [(7, (.int .i64 z3))] ⟨gS (by kernel_rfl) (by kernel_rfl), trivial⟩ (.int .i64 z3) (fun _ _ => by kernel_rfl) rfl
  ·refine Owe.light (by kernel_rfl) [0] (by kernel_rfl) (all_cons ?_ all_nil)
   ·intro ρ' w' hs hah hP
    obtain ⟨hvl19, hs18⟩ := hP
    have e13 := hah 0 13 (by kernel_rfl)
    have e14 := hah 1 14 (by kernel_rfl)
    have hkn : Known ρ' [(13, (.string ⟨List.toArray p1⟩)), (14, (.int .i64 z3))] := ⟨e13, e14, trivial⟩
    refine Step.known _ hkn ?_
    refine Step.strSlice (a := p1) (T := 9) (x := (.tmp 13)) (lo := none) (hi := (some (.tmp 14))) (i := 0) (j := z3) (d := (some 15)) (k := 2) (by kernel_rfl) rfl (by kernel_rfl) (by kernel_rfl) rfl ⟨.i64, by kernel_rfl⟩ hz10 hz11 hz12 ?_
    rw [hyl13]
    exact ⟨rfl, _, updO_known hkn, rfl⟩
  ·exact Owe.run (by kernel_rfl) [(0, (.string ⟨List.toArray p1⟩))] ⟨gS (by kernel_rfl) (by kernel_rfl), trivial⟩ (.string ⟨List.toArray p1⟩) (fun _ _ => by kernel_rfl) rfl
  ·exact Owe.run (by kernel_rfl) [(7, (.int .i64 z3))] ⟨gS (by kernel_rfl) (by kernel_rfl), trivial⟩ (.int .i64 z3) (fun _ _ => by kernel_rfl) rfl
  ·exact Owe.run (by kernel_rfl) [(1, (.string ⟨List.toArray p2⟩))] ⟨gS (by kernel_rfl) (by kernel_rfl), trivial⟩ (.string ⟨List.toArray p2⟩) (fun _ _ => by kernel_rfl) rfl
  ·exact Owe.run (by kernel_rfl) [(18, (.string ⟨List.toArray p2⟩))] ⟨gA 5 (by kernel_rfl) (by kernel_rfl), trivial⟩ (.int .i64 ((List.length p2 : Nat) : Int)) (fun _ _ => by kernel_rfl) rfl
  ·exact Owe.run (by kernel_rfl) [(17, (.int .i64 z3)), (19, (.int .i64 ((List.length p2 : Nat) : Int)))] ⟨gA 4 (by kernel_rfl) (by kernel_rfl), gA 6 (by kernel_rfl) (by kernel_rfl), trivial⟩ (.int .i64 (IntKind.wrap .i64 (z3 + ((List.length p2 : Nat) : Int)))) (fun _ _ => by kernel_rfl) rfl
  ·refine Owe.light (by kernel_rfl) [0] (by kernel_rfl) (all_cons ?_ all_nil)
   ·intro ρ' w' hs hah hP
    obtain ⟨hvl21, hs20⟩ := hP
    have e16 := hah 3 16 (by kernel_rfl)
    have e20 := hah 7 20 (by kernel_rfl)
    have hkn : Known ρ' [(16, (.string ⟨List.toArray p1⟩)), (20, (.int .i64 (IntKind.wrap .i64 (z3 + ((List.length p2 : Nat) : Int)))))] := ⟨e16, e20, trivial⟩
    refine Step.known _ hkn ?_
    refine Step.strSlice (a := p1) (T := 9) (x := (.tmp 16)) (lo := (some (.tmp 20))) (hi := none) (i := (IntKind.wrap .i64 (z3 + ((List.length p2 : Nat) : Int)))) (j := ((List.length p1 : Nat) : Int)) (d := (some 21)) (k := 8) (by kernel_rfl) rfl (by kernel_rfl) (by kernel_rfl) ⟨.i64, by kernel_rfl⟩ rfl hz14 hz15 hz16 ?_
    rw [hyl17]
    exact ⟨rfl, _, updO_known hkn, rfl⟩
  ·exact Owe.run (by kernel_rfl) [(15, (.string ⟨List.toArray l13⟩))] ⟨gA 2 (by kernel_rfl) (by kernel_rfl), trivial⟩ (.string ⟨List.toArray l13⟩) (fun _ _ => by kernel_rfl) rfl
  ·exact Owe.run (by kernel_rfl) [(21, (.string ⟨List.toArray l17⟩))] ⟨gA 8 (by kernel_rfl) (by kernel_rfl), trivial⟩ (.string ⟨List.toArray l17⟩) (fun _ _ => by kernel_rfl) rfl
  ·exact Owe.run (by kernel_rfl) [] trivial (.bool true) (fun _ _ => by kernel_rfl) rfl
  ·intro ρ' w' hs hf hP
   obtain ⟨hvl23, hs22⟩ := hP
   have e4 := hf 9 4 (by kernel_rfl)
   have e5 := hf 10 5 (by kernel_rfl)
   have e6 := hf 11 6 (by kernel_rfl)
   refine postKnown [(4, (.string ⟨List.toArray l13⟩)), (5, (.string ⟨List.toArray l17⟩)), (6, (.bool true))] ⟨e4, e5, e6, trivial⟩ ?_
   obtain ⟨w24, hww24⟩ : ∃ x, w' = x := ⟨_, rfl⟩
   rw [hww24] at hs22 ⊢
   refine At.ret (by kernel_rfl) ?_
   refine ⟨(.tuple #[(.string ⟨List.toArray l13⟩), (.string ⟨List.toArray l17⟩), (.bool true)]), by kernel_rfl, ?_⟩
   obtain rfl := some_elim H
   exact ⟨rfl, SP.sel hs22 [] rfl rfl⟩
 ·have H := cf H hb9
  refine At.skip (by kernel_rfl) ?_
  refine At.seq (by kernel_rfl) (p0 := [true, true, false]) (p1 := [true, true, true]) rfl rfl ?_
  refine At.region (by kernel_rfl) (by kernel_rfl) ?_
  refine In.run' 4 (k' := 4) rfl [(22, (.string ⟨List.toArray p1⟩)), (4, (.string ⟨List.toArray p1⟩)), (5, (.string ⟨List.toArray ([] : List UInt8)⟩)), (6, (.bool false))] (by kernel_rfl) ?_
  refine In.fin (by kernel_rfl) ?_
  refine At.ret (by kernel_rfl) ?_
  refine ⟨(.tuple #[(.string ⟨List.toArray p1⟩), (.string ⟨List.toArray ([] : List UInt8)⟩), (.bool false)]), by kernel_rfl, ?_⟩
  obtain rfl := some_elim H
  exact ⟨rfl, SP.sel hs8 [] rfl rfl⟩
/-! L_strings_Cut -/
def L_strings_Cut (p1 : (List UInt8)) (p2 : (List UInt8)) : Option ((List UInt8) × (List UInt8) × Bool) :=
  ((L_internal_stringslite_Cut p1 p2).bind fun z3 => (some (z3.1, z3.2.1, z3.2.2)))
set_option maxRecDepth 100000 in
set_option maxHeartbeats 4000000 in
theorem L_strings_Cut_walk  (p1 : (List UInt8)) (p2 : (List UInt8)) (w0 : World)  (r : ((List UInt8) × (List UInt8) × Bool)) (H : L_strings_Cut p1 p2 = some r) :
  Calls Tryd.prog 28 #[(.string ⟨List.toArray p1⟩), (.string ⟨List.toArray p2⟩)] w0 (fun e w' => e = .returned (.tuple #[(.string ⟨List.toArray r.1⟩), (.string ⟨List.toArray r.2.1⟩), (.bool r.2.2)]) ∧ SP [] w0 w' []) := by
 unfold L_strings_Cut at H
 refine calls_start (n := 13) Tryd.func28 (by kernel_rfl) (by kernel_rfl) (by kernel_rfl) ?_
 have hs0 := SP.start [] w0
 refine At.seq (by kernel_rfl) (p0 := [false]) (p1 := [true]) rfl rfl ?_
 refine At.region (by kernel_rfl) (by kernel_rfl) ?_
 refine In.run' 3 (k' := 3) rfl [(4, (.string ⟨List.toArray ([] : List UInt8)⟩)), (5, (.string ⟨List.toArray ([] : List UInt8)⟩)), (6, (.bool false))] (by kernel_rfl) ?_
 refine In.fin (by kernel_rfl) ?_
 refine At.seq (by kernel_rfl) (p0 := [true, false]) (p1 := [true, true]) rfl rfl ?_
 refine At.region (by kernel_rfl) (by kernel_rfl) ?_
 refine In.run' 2 (k' := 2) rfl [(7, (.string ⟨List.toArray p1⟩)), (8, (.string ⟨List.toArray p2⟩))] (by kernel_rfl) ?_
 obtain ⟨z3, hz4, H⟩ := bind_elim H
 refine In.step (k' := 3) rfl (by kernel_rfl) ?_
 refine Step.callF (f := 38) (fo := (.func 38)) (xs := #[(.tmp 7), (.tmp 8)]) (tys := #[9, 9]) (first := #[]) (captured := #[]) (d := (some 9)) (k := 2) (by kernel_rfl) rfl (by kernel_rfl) (by kernel_rfl) Tryd.call38 (L_internal_stringslite_Cut_walk  p1 p2 w0  z3 hz4) ?_
 rintro e w5 ⟨rfl, hs6⟩
 refine ⟨_, rfl, ?_⟩
 have hs7 := SP.call hs0 hs6
 clear hs6
 have hs8 : SP [] w0 w5 [] := hs7
 clear hs7
 refine In.run' 6 (k' := 9) rfl [(10, (.string ⟨List.toArray z3.1⟩)), (11, (.string ⟨List.toArray z3.2.1⟩)), (12, (.bool z3.2.2)), (4, (.string ⟨List.toArray z3.1⟩)), (5, (.string ⟨List.toArray z3.2.1⟩)), (6, (.bool z3.2.2))] (by kernel_rfl) ?_
 refine In.fin (by kernel_rfl) ?_
 refine At.ret (by kernel_rfl) ?_
 refine ⟨(.tuple #[(.string ⟨List.toArray z3.1⟩), (.string ⟨List.toArray z3.2.1⟩), (.bool z3.2.2)]), by kernel_rfl, ?_⟩
 obtain rfl := some_elim H
 exact ⟨rfl, SP.sel hs8 [] rfl rfl⟩
/-! L_syntax_Name -/
def L_syntax_Name_k1 (v20 : Bool) : Option (Bool) :=
  (some (v20))
def L_syntax_Name (p1 : (List UInt8)) : Option (Bool) :=
  (cond (!(p1 == ([] : List UInt8))) (cond (decide (((List.length p1 : Nat) : Int) ≤ 20)) ((L_strings_Trim p1 ([97, 98, 99, 100, 101, 102, 103, 104, 105, 106, 107, 108, 109, 110, 111, 112, 113, 114, 115, 116, 117, 118, 119, 120, 121, 122, 48, 49, 50, 51, 52, 53, 54, 55, 56, 57, 45] : List UInt8)).bind fun z25 => (cond (z25 == ([] : List UInt8)) ((idx p1 0).bind fun x32 => (cond (((x32).toNat : Int) != 45) ((idx p1 (IntKind.wrap .i64 (((List.length p1 : Nat) : Int) - 1))).bind fun x37 => (L_syntax_Name_k1 (((x37).toNat : Int) != 45))) (L_syntax_Name_k1 false))) (L_syntax_Name_k1 false))) (L_syntax_Name_k1 false)) (L_syntax_Name_k1 false))
set_option maxRecDepth 100000 in
set_option maxHeartbeats 4000000 in
theorem L_syntax_Name_walk  (p1 : (List UInt8)) (w0 : World)  (r : (Bool)) (H : L_syntax_Name p1 = some r) :
  Calls Tryd.prog 15 #[(.string ⟨List.toArray p1⟩)] w0 (fun e w' => e = .returned (.bool r) ∧ SP [] w0 w' []) := by
 unfold L_syntax_Name at H
 refine calls_start (n := 28) Tryd.func15 (by kernel_rfl) (by kernel_rfl) (by kernel_rfl) ?_
 have hs0 := SP.start [] w0
 refine At.seq (by kernel_rfl) (p0 := [false]) (p1 := [true]) rfl rfl ?_
 refine At.region (by kernel_rfl) (by kernel_rfl) ?_
 refine In.run' 1 (k' := 1) rfl [(2, (.bool false))] (by kernel_rfl) ?_
 refine In.fin (by kernel_rfl) ?_
 refine At.seq (by kernel_rfl) (p0 := [true, false]) (p1 := [true, true]) rfl rfl ?_
 refine At.join (fun ρ w => ∃ (v20 : Bool), Known ρ [(2, (.bool v20))] ∧ SP [] w0 w [] ∧ L_syntax_Name_k1 v20 = some r) ?_ ?_
 ·refine At.region (by kernel_rfl) (by kernel_rfl) ?_
  refine In.run' 1 (k' := 1) rfl [(3, (.string ⟨List.toArray p1⟩))] (by kernel_rfl) ?_
  refine In.step (k' := 2) rfl (by kernel_rfl) ?_
  refine Step.strOp (op := .neq) (T := 9) (T' := 9) (x := (.tmp 3)) (y := (.const (.string ⟨List.toArray ([] : List UInt8)⟩))) (a := p1) (b := ([] : List UInt8)) (r := (.bool (!(p1 == ([] : List UInt8))))) (d := (some 4)) (k := 1) (by kernel_rfl) rfl (by kernel_rfl) (by kernel_rfl) rfl ?_
  refine In.run' 1 (k' := 3) rfl [(5, (.bool (!(p1 == ([] : List UInt8)))))] (by kernel_rfl) ?_
  refine In.guard (t := 5) (b := (!(p1 == ([] : List UInt8)))) (by kernel_rfl) (fun hb23 => ?_) (fun hb23 => ?_)
  ·have H := ct H hb23
   refine In.run' 5 (k' := 8) rfl [(6, (.string ⟨List.toArray p1⟩)), (7, (.int .i64 ((List.length p1 : Nat) : Int))), (8, (.bool (decide (((List.length p1 : Nat) : Int) ≤ 20)))), (9, (.bool (decide (((List.length p1 : Nat) : Int) ≤ 20)))), (10, (.bool (decide (((List.length p1 : Nat) : Int) ≤ 20))))] (by kernel_rfl) ?_
   refine In.guard (t := 10) (b := (decide (((List.length p1 : Nat) : Int) ≤ 20))) (by kernel_rfl) (fun hb24 => ?_) (fun hb24 => ?_)
   ·have H := ct H hb24
    refine In.run' 1 (k' := 9) rfl [(11, (.string ⟨List.toArray p1⟩))] (by kernel_rfl) ?_
    obtain ⟨z25, hz26, H⟩ := bind_elim H
    refine In.step (k' := 10) rfl (by kernel_rfl) ?_
    refine Step.callF (f := 31) (fo := (.func 31)) (xs := #[(.tmp 11), (.const (.string ⟨List.toArray ([97, 98, 99, 100, 101, 102, 103, 104, 105, 106, 107, 108, 109, 110, 111, 112, 113, 114, 115, 116, 117, 118, 119, 120, 121, 122, 48, 49, 50, 51, 52, 53, 54, 55, 56, 57, 45] : List UInt8)⟩))]) (tys := #[9, 9]) (first := #[]) (captured := #[]) (d := (some 12)) (k := 9) (by kernel_rfl) rfl (by kernel_rfl) (by kernel_rfl) Tryd.call31 (L_strings_Trim_walk  p1 ([97, 98, 99, 100, 101, 102, 103, 104, 105, 106, 107, 108, 109, 110, 111, 112, 113, 114, 115, 116, 117, 118, 119, 120, 121, 122, 48, 49, 50, 51, 52, 53, 54, 55, 56, 57, 45] : List UInt8) w0  z25 hz26) ?_
    rintro e w27 ⟨rfl, hs28⟩
    refine ⟨_, rfl, ?_⟩
    have hs29 := SP.call hs0 hs28
    clear hs28
    have hs30 : SP [] w0 w27 [] := hs29
    clear hs29
    refine In.step (k' := 11) rfl (by kernel_rfl) ?_
    refine Step.strOp (op := .eql) (T := 9) (T' := 9) (x := (.tmp 12)) (y := (.const (.string ⟨List.toArray ([] : List UInt8)⟩))) (a := z25) (b := ([] : List UInt8)) (r := (.bool (z25 == ([] : List UInt8)))) (d := (some 13)) (k := 10) (by kernel_rfl) rfl (by kernel_rfl) (by kernel_rfl) rfl ?_
    refine In.run' 2 (k' := 13) rfl [(14, (.bool (z25 == ([] : List UInt8)))), (15, (.bool (z25 == ([] : List UInt8))))] (by kernel_rfl) ?_
    refine In.guard (t := 15) (b := (z25 == ([] : List UInt8))) (by kernel_rfl) (fun hb31 => ?_) (fun hb31 => ?_)
    ·have H := ct H hb31
     refine In.run' 1 (k' := 14) rfl [(16, (.string ⟨List.toArray p1⟩))] (by kernel_rfl) ?_
     obtain ⟨x32, hp33, hq34, hx35, H⟩ := idx_elim H
     refine In.step (k' := 15) rfl (by kernel_rfl) ?_
     refine Step.strIdx (a := p1) (u := x32) (T := 9) (x := (.tmp 16)) (ix := (.const (.int .i64 (0)))) (ki := .i64) (iz := 0) (d := (some 17)) (k := 14) (by kernel_rfl) rfl (by kernel_rfl) (by kernel_rfl) (by kernel_rfl) hp33 hx35 ?_
     refine In.run' 3 (k' := 18) rfl [(18, (.bool (((x32).toNat : Int) != 45))), (19, (.bool (((x32).toNat : Int) != 45))), (20, (.bool (((x32).toNat : Int) != 45)))] (by kernel_rfl) ?_
     refine In.guard (t := 20) (b := (((x32).toNat : Int) != 45)) (by kernel_rfl) (fun hb36 => ?_) (fun hb36 => ?_)
     ·have H := ct H hb36
      refine In.run' 4 (k' := 22) rfl [(21, (.string ⟨List.toArray p1⟩)), (22, (.string ⟨List.toArray p1⟩)), (23, (.int .i64 ((List.length p1 : Nat) : Int))), (24, (.int .i64 (IntKind.wrap .i64 (((List.length p1 : Nat) : Int) - 1))))] (by kernel_rfl) ?_
      obtain ⟨x37, hp38, hq39, hx40, H⟩ := idx_elim H
      refine In.step (k' := 23) rfl (by kernel_rfl) ?_
      refine Step.strIdx (a := p1) (u := x37) (T := 9) (x := (.tmp 21)) (ix := (.tmp 24)) (ki := .i64) (iz := (IntKind.wrap .i64 (((List.length p1 : Nat) : Int) - 1))) (d := (some 25)) (k := 22) (by kernel_rfl) rfl (by kernel_rfl) (by kernel_rfl) (by kernel_rfl) hp38 hx40 ?_
      refine In.run' 3 (k' := 26) rfl [(26, (.bool (((x37).toNat : Int) != 45))), (27, (.bool (((x37).toNat : Int) != 45))), (2, (.bool (((x37).toNat : Int) != 45)))] (by kernel_rfl) ?_
      refine In.fin (by kernel_rfl) ?_
      exact ⟨(((x37).toNat : Int) != 45), ⟨(by kernel_rfl), trivial⟩, SP.sel hs30 [] rfl rfl, H⟩
     ·have H := cf H hb36
      refine In.run' 8 (k' := 26) rfl [(21, undef), (22, undef), (23, undef), (24, undef), (25, undef), (26, undef), (27, (.bool false)), (2, (.bool false))] (by kernel_rfl) ?_
      refine In.fin (by kernel_rfl) ?_
      exact ⟨false, ⟨(by kernel_rfl), trivial⟩, SP.sel hs30 [] rfl rfl, H⟩
    ·have H := cf H hb31
     refine In.run' 13 (k' := 26) rfl [(16, undef), (17, undef), (18, undef), (19, (.bool false)), (20, (.bool false)), (21, undef), (22, undef), (23, undef), (24, undef), (25, undef), (26, undef), (27, (.bool false)), (2, (.bool false))] (by kernel_rfl) ?_
     refine In.fin (by kernel_rfl) ?_
     exact ⟨false, ⟨(by kernel_rfl), trivial⟩, SP.sel hs30 [] rfl rfl, H⟩
   ·have H := cf H hb24
    refine In.run' 18 (k' := 26) rfl [(11, undef), (12, undef), (13, undef), (14, (.bool false)), (15, (.bool false)), (16, undef), (17, undef), (18, undef), (19, (.bool false)), (20, (.bool false)), (21, undef), (22, undef), (23, undef), (24, undef), (25, undef), (26, undef), (27, (.bool false)), (2, (.bool false))] (by kernel_rfl) ?_
    refine In.fin (by kernel_rfl) ?_
    exact ⟨false, ⟨(by kernel_rfl), trivial⟩, SP.sel hs0 [] rfl rfl, H⟩
  ·have H := cf H hb23
   refine In.run' 23 (k' := 26) rfl [(6, undef), (7, undef), (8, undef), (9, (.bool false)), (10, (.bool false)), (11, undef), (12, undef), (13, undef), (14, (.bool false)), (15, (.bool false)), (16, undef), (17, undef), (18, undef), (19, (.bool false)), (20, (.bool false)), (21, undef), (22, undef), (23, undef), (24, undef), (25, undef), (26, undef), (27, (.bool false)), (2, (.bool false))] (by kernel_rfl) ?_
   refine In.fin (by kernel_rfl) ?_
   exact ⟨false, ⟨(by kernel_rfl), trivial⟩, SP.sel hs0 [] rfl rfl, H⟩
 ·rintro ρ w21 ⟨v20, hk, hs22, H⟩
  unfold L_syntax_Name_k1 at H
  refine At.known [(2, (.bool v20))] hk ?_
  refine At.ret (by kernel_rfl) ?_
  refine ⟨(.bool v20), by kernel_rfl, ?_⟩
  obtain rfl := some_elim H
  exact ⟨rfl, SP.sel hs22 [] rfl rfl⟩
/-! L_syntax_Dots -/
def L_syntax_Dots_b1 (rec1 : (List (List UInt8)) → Int → Option ((List UInt8))) (p1 : Int) (v35 : (List (List UInt8))) (v36 : Int) : Option ((List UInt8)) :=
  (cond (decide (v36 < 4)) ((chk (decide (0 ≤ (IntKind.wrap .i64 (24 - (IntKind.wrap .i64 (8 * v36))))))).bind fun _ => ((L_num_Decimal (IntKind.wrap .i64 (IntKind.wrap .u8 (bShr .u32 p1 (IntKind.wrap .i64 (24 - (IntKind.wrap .i64 (8 * v36)))))))).bind fun z64 => ((app v35 ([z64] : List (List UInt8))).bind fun l75 => (rec1 l75 (IntKind.wrap .i64 (v36 + 1)))))) ((L_strings_Join v35 ([46] : List UInt8)).bind fun z81 => (some (z81))))
def L_syntax_Dots_l1 (p1 : Int) : Nat → (List (List UInt8)) → Int → Option ((List UInt8))
  | 0, _, _ => none
  | f + 1, v35, v36 => L_syntax_Dots_b1  (L_syntax_Dots_l1 p1 f) p1 v35 v36
def L_syntax_Dots (p1 : Int) : Option ((List UInt8)) :=
  (L_syntax_Dots_l1 p1 fuel ([] : List (List UInt8)) 0)
set_option maxRecDepth 100000 in
set_option maxHeartbeats 4000000 in
theorem L_syntax_Dots_walk  (p1 : Int) (w0 : World) (hL : LaidW w0)  (r : ((List UInt8))) (H : L_syntax_Dots p1 = some r) :
  Calls Tryd.prog 17 #[(.int .u32 p1)] w0 (fun e w' => e = .returned (.string ⟨List.toArray r⟩) ∧ SP [] w0 w' []) := by
 unfold L_syntax_Dots at H
 refine calls_start (n := 22) Tryd.func17 (by kernel_rfl) (by kernel_rfl) (by kernel_rfl) ?_
 have hs0 := SP.start [] w0
 refine At.seq (by kernel_rfl) (p0 := [false]) (p1 := [true]) rfl rfl ?_
 refine At.region (by kernel_rfl) (by kernel_rfl) ?_
 refine In.run' 1 (k' := 1) rfl [(2, (.string ⟨List.toArray ([] : List UInt8)⟩))] (by kernel_rfl) ?_
 refine In.fin (by kernel_rfl) ?_
 refine At.seq (by kernel_rfl) (p0 := [true, false]) (p1 := [true, true]) rfl rfl ?_
 refine At.region (by kernel_rfl) (by kernel_rfl) ?_
 refine In.run' 1 (k' := 1) rfl [(3, (.slice none (List.length ([] : List (List UInt8))) 0))] (by kernel_rfl) ?_
 refine In.fin (by kernel_rfl) ?_
 refine At.seq (by kernel_rfl) (p0 := [true, true, false]) (p1 := [true, true, true]) rfl rfl ?_
 refine At.seq (by kernel_rfl) (p0 := [true, true, false, false]) (p1 := [true, true, false, true]) rfl rfl ?_
 refine At.region (by kernel_rfl) (by kernel_rfl) ?_
 refine In.run' 1 (k' := 1) rfl [(5, (.int .i64 0))] (by kernel_rfl) ?_
 refine In.fin (by kernel_rfl) ?_
 refine At.block (by kernel_rfl) (id := 0) (by kernel_rfl) (p0 := [true, true, false, true, false]) rfl ?_
 refine At.loop (by kernel_rfl) (p0 := [true, true, false, true, false, false]) rfl (fun f1 ρ w => ∃ (v35 : (List (List UInt8))) (v36 : Int) (A33 : Option Addr) (c34 : Nat), Known ρ [(0, (.int .u32 p1)), (3, (.slice A33 (List.length v35) c34)), (5, (.int .i64 v36))] ∧ SP [] w0 w [rowT 9 eStr A33 c34 v35] ∧ L_syntax_Dots_l1 p1 f1 v35 v36 = some r) (by rintro ρ w ⟨v35, v36, A33, c34, hk, hs, H⟩; cases H) ?_ fuel ?_
 ·rintro f1 ρ w31 ⟨v35, v36, A33, c34, hk, hs32, H⟩
  refine At.known [(0, (.int .u32 p1)), (3, (.slice A33 (List.length v35) c34)), (5, (.int .i64 v36))] hk ?_
  replace H := (show L_syntax_Dots_b1 (L_syntax_Dots_l1 p1 f1) p1 v35 v36 = some r from H)
  unfold L_syntax_Dots_b1 at H
  refine At.seq (by kernel_rfl) (p0 := [true, true, false, true, false, false, false]) (p1 := [true, true, false, true, false, false, true]) rfl rfl ?_
  refine At.region (by kernel_rfl) (by kernel_rfl) ?_
  refine In.run' 1 (k' := 1) rfl [(6, (.bool (decide (v36 < 4))))] (by kernel_rfl) ?_
  refine In.fin (by kernel_rfl) ?_
  refine At.seq (by kernel_rfl) (p0 := [true, true, false, true, false, false, true, false]) (p1 := [true, true, false, true, false, false, true, true]) rfl rfl ?_
  refine At.cond (by kernel_rfl) (o := (.tmp 6)) (by kernel_rfl) (b := (decide (v36 < 4))) (by kernel_rfl) (p0 := [true, true, false, true, false, false, true, false, false]) (p1 := [true, true, false, true, false, false, true, false, true]) rfl rfl (fun hb62 => ?_) (fun hb62 => ?_)
  ·have H := ct H hb62
   refine At.skip (by kernel_rfl) ?_
   refine At.seq (by kernel_rfl) (p0 := [true, true, false, true, false, false, true, true, false]) (p1 := [true, true, false, true, false, false, true, true, true]) rfl rfl ?_
   refine At.block (by kernel_rfl) (id := 1) (by kernel_rfl) (p0 := [true, true, false, true, false, false, true, true, false, false]) rfl ?_
   refine At.seq (by kernel_rfl) (p0 := [true, true, false, true, false, false, true, true, false, false, false]) (p1 := [true, true, false, true, false, false, true, true, false, false, true]) rfl rfl ?_
   refine At.region (by kernel_rfl) (by kernel_rfl) ?_
   refine In.run' 2 (k' := 2) rfl [(7, (.int .i64 v36)), (4, (.int .i64 v36))] (by kernel_rfl) ?_
   refine In.fin (by kernel_rfl) ?_
   refine At.region (by kernel_rfl) (by kernel_rfl) ?_
   refine In.run' 5 (k' := 5) rfl [(8, (.slice A33 (List.length v35) c34)), (9, (.int .u32 p1)), (10, (.int .i64 v36)), (11, (.int .i64 (IntKind.wrap .i64 (8 * v36)))), (12, (.int .i64 (IntKind.wrap .i64 (24 - (IntKind.wrap .i64 (8 * v36))))))] (by kernel_rfl) ?_
   obtain ⟨hl63, H⟩ := chk_elim H
   refine In.step (k' := 6) rfl (by kernel_rfl) ?_
   refine Step.shift (op := .shr) (T := 22) (T' := 3) (x := (.tmp 9)) (y := (.tmp 12)) (kx := .u32) (ky := .i64) (a := p1) (b := (IntKind.wrap .i64 (24 - (IntKind.wrap .i64 (8 * v36))))) (v := (.int .u32 (bShr .u32 p1 (IntKind.wrap .i64 (24 - (IntKind.wrap .i64 (8 * v36))))))) (d := (some 13)) (k := 5) (by kernel_rfl) rfl (by kernel_rfl) (by kernel_rfl) (of_decide_eq_true hl63) rfl ?_
   refine In.run' 2 (k' := 8) rfl [(14, (.int .u8 (IntKind.wrap .u8 (bShr .u32 p1 (IntKind.wrap .i64 (24 - (IntKind.wrap .i64 (8 * v36)))))))), (15, (.int .i64 (IntKind.wrap .i64 (IntKind.wrap .u8 (bShr .u32 p1 (IntKind.wrap .i64 (24 - (IntKind.wrap .i64 (8 * v36)))))))))] (by kernel_rfl) ?_
   obtain ⟨z64, hz65, H⟩ := bind_elim H
   refine In.step (k' := 9) rfl (by kernel_rfl) ?_
   refine Step.callF (f := 32) (fo := (.func 32)) (xs := #[(.tmp 15)]) (tys := #[2]) (first := #[]) (captured := #[]) (d := (some 16)) (k := 8) (by kernel_rfl) rfl (by kernel_rfl) (by kernel_rfl) Tryd.call32 (L_num_Decimal_walk  (IntKind.wrap .i64 (IntKind.wrap .u8 (bShr .u32 p1 (IntKind.wrap .i64 (24 - (IntKind.wrap .i64 (8 * v36))))))) w31 (laid_below hL (SP.keeps hs32)) z64 hz65) ?_
   rintro e w66 ⟨rfl, hs67⟩
   refine ⟨_, rfl, ?_⟩
   have hs68 := SP.call hs32 hs67
   clear hs67
   have hs69 : SP [] w0 w66 [rowT 9 eStr A33 c34 v35] := hs68
   clear hs68
   refine In.step (k' := 10) rfl (by kernel_rfl) ?_
   refine Step.newSlice (e := eStr) (T := 54) (E := 9) (len := 1) (parts := #[(0, (.tmp 16))]) (cs := #[(.string ⟨List.toArray z64⟩)]) ([z64] : List (List UInt8)) (d := (some 17)) (k := 9) (by kernel_rfl) rfl (fun _ => by kernel_rfl) hs69 rfl rfl rfl rfl ?_
   intro g70 w71 hs72
   have hs73 : SP [] w0 w71 [rowT 9 eStr A33 c34 v35, rowT 9 eStr (some ⟨g70, 0, none⟩) (List.length ([z64] : List (List UInt8))) ([z64] : List (List UInt8))] := hs72
   clear hs72
   obtain ⟨hl74, H⟩ := app_elim H
   obtain ⟨l75, hyl75⟩ : ∃ y, v35 ++ ([z64] : List (List UInt8)) = y := ⟨_, rfl⟩
   rw [hyl75] at H
   refine In.step (k' := 11) rfl (by kernel_rfl) ?_
   refine Step.append (e := eStr) (l := v35) (m := ([z64] : List (List UInt8))) (A := A33) (c := c34) (T := 54) (TX := 54) (E := 9) (b := 16) (s := (.tmp 8)) (x := (.tmp 17)) (i := 0) (vx := (.slice (some ⟨g70, 0, none⟩) (List.length ([z64] : List (List UInt8))) (List.length ([z64] : List (List UInt8))))) (d := (some 18)) (k := 10) (by kernel_rfl) rfl (by kernel_rfl) (by kernel_rfl) (by kernel_rfl) (by kernel_rfl) rfl hs73 rfl (src_rdt (E := 9) (by kernel_rfl) (rowT_rd (SP.get hs73 (i := 1) rfl))) hl74 ?_
   rw [hyl75]
   intro A76 c77 w78 hs79
   have hs80 : SP [] w0 w78 [rowT 9 eStr A76 c77 l75, rowT 9 eStr (some ⟨g70, 0, none⟩) (List.length ([z64] : List (List UInt8))) ([z64] : List (List UInt8))] := hs79
   clear hs79
   refine In.run' 1 (k' := 12) rfl [(3, (.slice A76 (List.length l75) c77))] (by kernel_rfl) ?_
   refine In.fin (by kernel_rfl) ?_
   refine At.region (by kernel_rfl) (by kernel_rfl) ?_
   refine In.run' 2 (k' := 2) rfl [(19, (.int .i64 (IntKind.wrap .i64 (v36 + 1)))), (5, (.int .i64 (IntKind.wrap .i64 (v36 + 1))))] (by kernel_rfl) ?_
   refine In.fin (by kernel_rfl) ?_
   exact ⟨l75, (IntKind.wrap .i64 (v36 + 1)), A76, c77, ⟨(by kernel_rfl), (by kernel_rfl), (by kernel_rfl), trivial⟩, SP.sel hs80 [0] rfl rfl, H⟩
  ·have H := cf H hb62
   refine At.exit (by kernel_rfl) (id := 0) (by kernel_rfl) ?_
   refine At.seq (by kernel_rfl) (p0 := [true, true, true, false]) (p1 := [true, true, true, true]) rfl rfl ?_
   refine At.region (by kernel_rfl) (by kernel_rfl) ?_
   refine In.run' 1 (k' := 1) rfl [(20, (.slice A33 (List.length v35) c34))] (by kernel_rfl) ?_
   obtain ⟨z81, hz82, H⟩ := bind_elim H
   refine In.step (k' := 2) rfl (by kernel_rfl) ?_
   refine Step.callF (f := 33) (fo := (.func 33)) (xs := #[(.tmp 20), (.const (.string ⟨List.toArray ([46] : List UInt8)⟩))]) (tys := #[54, 9]) (first := #[]) (captured := #[]) (d := (some 21)) (k := 1) (by kernel_rfl) rfl (by kernel_rfl) (by kernel_rfl) Tryd.call33 (L_strings_Join_walk A33 c34 v35 ([46] : List UInt8) w31 (rowT_rd (SP.get hs32 (i := 0) rfl)) z81 hz82) ?_
   rintro e w83 ⟨rfl, hs84⟩
   refine ⟨_, rfl, ?_⟩
   have hs85 := SP.call hs32 hs84
   clear hs84
   have hs86 : SP [] w0 w83 [rowT 9 eStr A33 c34 v35] := hs85
   clear hs85
   refine In.run' 1 (k' := 3) rfl [(2, (.string ⟨List.toArray z81⟩))] (by kernel_rfl) ?_
   refine In.fin (by kernel_rfl) ?_
   refine At.ret (by kernel_rfl) ?_
   refine ⟨(.string ⟨List.toArray z81⟩), by kernel_rfl, ?_⟩
   obtain rfl := some_elim H
   exact ⟨rfl, SP.sel hs86 [] rfl rfl⟩
 ·exact ⟨([] : List (List UInt8)), 0, none, 0, ⟨(by kernel_rfl), (by kernel_rfl), (by kernel_rfl), trivial⟩, SP.sel (SP.nilrow hs0 9 eStr) [0] rfl rfl, H⟩
/-! L_syntax_mask -/
def L_syntax_mask (p1 : Int) : Option (Int) :=
  ((chk (decide (0 ≤ (IntKind.wrap .i64 (32 - p1))))).bind fun _ => (some ((bShl .u32 4294967295 (IntKind.wrap .i64 (32 - p1))))))
set_option maxRecDepth 100000 in
set_option maxHeartbeats 4000000 in
theorem L_syntax_mask_walk  (p1 : Int) (w0 : World)  (r : (Int)) (H : L_syntax_mask p1 = some r) :
  Calls Tryd.prog 35 #[(.int .i64 p1)] w0 (fun e w' => e = .returned (.int .u32 r) ∧ SP [] w0 w' []) := by
 unfold L_syntax_mask at H
 refine calls_start (n := 6) Tryd.func35 (by kernel_rfl) (by kernel_rfl) (by kernel_rfl) ?_
 have hs0 := SP.start [] w0
 refine At.seq (by kernel_rfl) (p0 := [false]) (p1 := [true]) rfl rfl ?_
 refine At.region (by kernel_rfl) (by kernel_rfl) ?_
 refine In.run' 1 (k' := 1) rfl [(2, (.int .u32 0))] (by kernel_rfl) ?_
 refine In.fin (by kernel_rfl) ?_
 refine At.seq (by kernel_rfl) (p0 := [true, false]) (p1 := [true, true]) rfl rfl ?_
 refine At.region (by kernel_rfl) (by kernel_rfl) ?_
 refine In.run' 2 (k' := 2) rfl [(3, (.int .i64 p1)), (4, (.int .i64 (IntKind.wrap .i64 (32 - p1))))] (by kernel_rfl) ?_
 obtain ⟨hl2, H⟩ := chk_elim H
 refine In.step (k' := 3) rfl (by kernel_rfl) ?_
 refine Step.shift (op := .shl) (T := 22) (T' := 3) (x := (.const (.int .u32 (4294967295)))) (y := (.tmp 4)) (kx := .u32) (ky := .i64) (a := 4294967295) (b := (IntKind.wrap .i64 (32 - p1))) (v := (.int .u32 (bShl .u32 4294967295 (IntKind.wrap .i64 (32 - p1))))) (d := (some 5)) (k := 2) (by kernel_rfl) rfl (by kernel_rfl) (by kernel_rfl) (of_decide_eq_true hl2) rfl ?_
 refine In.run' 1 (k' := 4) rfl [(2, (.int .u32 (bShl .u32 4294967295 (IntKind.wrap .i64 (32 - p1)))))] (by kernel_rfl) ?_
 refine In.fin (by kernel_rfl) ?_
 refine At.ret (by kernel_rfl) ?_
 refine ⟨(.int .u32 (bShl .u32 4294967295 (IntKind.wrap .i64 (32 - p1)))), by kernel_rfl, ?_⟩
 obtain rfl := some_elim H
 exact ⟨rfl, SP.sel hs0 [] rfl rfl⟩
/-! L_syntax_right -/
def L_syntax_right_k1 (v52 : Bool) : Option (Bool) :=
  (some (v52))
def L_syntax_right (pAddr1 : Int) (pBits2 : Int) : Option (Bool) :=
  (cond (decide (pBits2 ≥ 0)) (cond (decide (pBits2 ≤ 32)) ((L_syntax_mask pBits2).bind fun z57 => (L_syntax_right_k1 ((bAndNot .u32 pAddr1 z57) == 0))) (L_syntax_right_k1 false)) (L_syntax_right_k1 false))
set_option maxRecDepth 100000 in
set_option maxHeartbeats 4000000 in
theorem L_syntax_right_walk  (pAddr1 : Int) (pBits2 : Int) (w0 : World)  (r : (Bool)) (H : L_syntax_right pAddr1 pBits2 = some r) :
  Calls Tryd.prog 29 #[(.agg #[(.int .u32 pAddr1), (.int .i64 pBits2)])] w0 (fun e w' => e = .returned (.bool r) ∧ SP [] w0 w' []) := by
 unfold L_syntax_right at H
 refine calls_start (n := 20) Tryd.func29 (by kernel_rfl) (by kernel_rfl) (by kernel_rfl) ?_
 have hs0 := SP.start [] w0
 refine At.seq (by kernel_rfl) (p0 := [false]) (p1 := [true]) rfl rfl ?_
 refine At.region (by kernel_rfl) (by kernel_rfl) ?_
 refine In.step (k' := 1) rfl (by kernel_rfl) ?_
 refine Step.box (t := 24) (x := (.tmp 0)) (v := (.agg #[(.int .u32 pAddr1), (.int .i64 pBits2)])) (d := (some 1)) (k := 0) (by kernel_rfl) rfl (by kernel_rfl) hs0 ?_
 intro g3 w4 hs5
 have hs6 : SP [] w0 w4 [boxE g3 24 #[(.int .u32 pAddr1), (.int .i64 pBits2)]] := hs5
 clear hs5
 refine In.run' 1 (k' := 2) rfl [(2, (.bool false))] (by kernel_rfl) ?_
 refine In.fin (by kernel_rfl) ?_
 refine At.seq (by kernel_rfl) (p0 := [true, false]) (p1 := [true, true]) rfl rfl ?_
 refine At.join (fun ρ w => ∃ (v52 : Bool), Known ρ [(2, (.bool v52))] ∧ SP [] w0 w [] ∧ L_syntax_right_k1 v52 = some r) ?_ ?_
 ·rcases Bool.eq_false_or_eq_true (decide (pBits2 ≥ 0)) with hb55 | hb55
  ·have H := ct H hb55
   rcases Bool.eq_false_or_eq_true (decide (pBits2 ≤ 32)) with hb56 | hb56
   ·have H := ct H hb56
    obtain ⟨z57, hz58, H⟩ := bind_elim H
    refine At.stages (by kernel_rfl) (by kernel_rfl) (by kernel_rfl) (by kernel_rfl) (by kernel_rfl) [GEq (.pointer (some ⟨g3, 1, none⟩)), GEq (.int .i64 pBits2), GEq (.bool (decide (pBits2 ≥ 0))), GEq (.bool (decide (pBits2 ≥ 0))), GEq (.pointer (some ⟨g3, 1, none⟩)), GEq (.int .i64 pBits2), GEq (.bool (decide (pBits2 ≤ 32))), GEq (.bool (decide (pBits2 ≤ 32))), GEq (.bool (decide (pBits2 ≤ 32))), GEq (.pointer (some ⟨g3, 0, none⟩)), GEq (.int .u32 pAddr1), GEq (.pointer (some ⟨g3, 1, none⟩)), GEq (.int .i64 pBits2), GEq (.int .u32 z57), GEq (.int .u32 (bAndNot .u32 pAddr1 z57)), GEq (.bool ((bAndNot .u32 pAddr1 z57) == 0)), GEq (.bool ((bAndNot .u32 pAddr1 z57) == 0)), GEq (.bool ((bAndNot .u32 pAddr1 z57) == 0))] [13] [([], fun vs w => VL vs [] ∧ SP [] w0 w [boxE g3 24 #[(.int .u32 pAddr1), (.int .i64 pBits2)]]), ([13], fun vs w => VL vs [(.int .u32 z57)] ∧ SP [] w0 w [boxE g3 24 #[(.int .u32 pAddr1), (.int .i64 pBits2)]])] (N := 18) (by kernel_rfl) ⟨by kernel_rfl, Nat.zero_lt_succ _⟩ (show VL [] [] ∧ SP [] w0 w4.drew [boxE g3 24 #[(.int .u32 pAddr1), (.int .i64 pBits2)]] from ⟨trivial, SP.drew hs6⟩) ⟨⟨⟨⟨⟨⟨⟨⟨⟨⟨⟨⟨⟨⟨⟨⟨⟨⟨trivial, ?_⟩, ?_⟩, ?_⟩, ?_⟩, ?_⟩, ?_⟩, ?_⟩, ?_⟩, ?_⟩, ?_⟩, ?_⟩, ?_⟩, ?_⟩, ?_⟩, ?_⟩, ?_⟩, ?_⟩, ?_⟩ (last := 1) (by kernel_rfl) ?_
    ·exact Owe.run (by kernel_rfl) [(1, (.pointer (some ⟨g3, 0, none⟩)))] ⟨gS (by kernel_rfl) (by kernel_rfl), trivial⟩ (.pointer (some ⟨g3, 1, none⟩)) (fun _ _ => by kernel_rfl) rfl
    ·refine Owe.light (by kernel_rfl) [0] (by kernel_rfl) (all_cons ?_ all_nil)
     ·intro ρ' w' hs hah hP
      obtain ⟨hvl68, hs67⟩ := hP
      have e3 := hah 0 3 (by kernel_rfl)
      have hkn : Known ρ' [(3, (.pointer (some ⟨g3, 1, none⟩)))] := ⟨e3, trivial⟩
      refine Step.known _ hkn ?_
      refine Step.load (t := 3) (x := (.tmp 3)) (g := g3) (off := 1) (i := 0) (v := (.int .i64 pBits2)) (d := (some 4)) (k := 1) (by kernel_rfl) rfl (by kernel_rfl) hs67 rfl (by kernel_rfl) ?_
      exact ⟨rfl, _, updO_known hkn, rfl⟩
    ·exact Owe.run (by kernel_rfl) [(4, (.int .i64 pBits2))] ⟨gA 1 (by kernel_rfl) (by kernel_rfl), trivial⟩ (.bool (decide (pBits2 ≥ 0))) (fun _ _ => by kernel_rfl) rfl
    ·exact Owe.run (by kernel_rfl) [(5, (.bool (decide (pBits2 ≥ 0))))] ⟨gA 2 (by kernel_rfl) (by kernel_rfl), trivial⟩ (.bool (decide (pBits2 ≥ 0))) (fun _ _ => by kernel_rfl) rfl
    ·exact Owe.run (by kernel_rfl) [(1, (.pointer (some ⟨g3, 0, none⟩))), (6, (.bool true))] ⟨gS (by kernel_rfl) (by kernel_rfl), gB 3 (by kernel_rfl) (decide (pBits2 ≥ 0)) (by kernel_rfl) hb55, trivial⟩ (.pointer (some ⟨g3, 1, none⟩)) (fun _ _ => by kernel_rfl) rfl
    ·refine Owe.light (by kernel_rfl) [0] (by kernel_rfl) (all_cons ?_ all_nil)
     ·intro ρ' w' hs hah hP
      obtain ⟨hvl70, hs69⟩ := hP
      have e7 := hah 4 7 (by kernel_rfl)
      have e6 := hah 3 6 (by kernel_rfl)
      have hkn : Known ρ' [(7, (.pointer (some ⟨g3, 1, none⟩))), (6, (.bool true))] := ⟨e7, (Eq.trans e6 (congrArg Value.bool hb55)), trivial⟩
      refine Step.known _ hkn ?_
      refine Step.load (t := 3) (x := (.tmp 7)) (g := g3) (off := 1) (i := 0) (v := (.int .i64 pBits2)) (d := (some 8)) (k := 5) (by kernel_rfl) rfl (by kernel_rfl) hs69 rfl (by kernel_rfl) ?_
      exact ⟨rfl, _, updO_known hkn, rfl⟩
    ·exact Owe.run (by kernel_rfl) [(8, (.int .i64 pBits2)), (6, (.bool true))] ⟨gA 5 (by kernel_rfl) (by kernel_rfl), gB 3 (by kernel_rfl) (decide (pBits2 ≥ 0)) (by kernel_rfl) hb55, trivial⟩ (.bool (decide (pBits2 ≤ 32))) (fun _ _ => by kernel_rfl) rfl
    ·exact Owe.run (by kernel_rfl) [(6, (.bool true)), (9, (.bool (decide (pBits2 ≤ 32))))] ⟨gB 3 (by kernel_rfl) (decide (pBits2 ≥ 0)) (by kernel_rfl) hb55, gA 6 (by kernel_rfl) (by kernel_rfl), trivial⟩ (.bool (decide (pBits2 ≤ 32))) (fun _ _ => by kernel_rfl) rfl
    ·exact Owe.run (by kernel_rfl) [(10, (.bool (decide (pBits2 ≤ 32))))] ⟨gA 7 (by kernel_rfl) (by kernel_rfl), trivial⟩ (.bool (decide (pBits2 ≤ 32))) (fun _ _ => by kernel_rfl) rfl
    ·exact Owe.run (by kernel_rfl) [(1, (.pointer (some ⟨g3, 0, none⟩))), (11, (.bool true))] ⟨gS (by kernel_rfl) (by kernel_rfl), gB 8 (by kernel_rfl) (decide (pBits2 ≤ 32)) (by kernel_rfl) hb56, trivial⟩ (.pointer (some ⟨g3, 0, none⟩)) (fun _ _ => by kernel_rfl) rfl
    ·refine Owe.light (by kernel_rfl) [0, 1] (by kernel_rfl) (all_cons ?_ (all_cons ?_ all_nil))
     ·intro ρ' w' hs hah hP
      obtain ⟨hvl72, hs71⟩ := hP
      have e12 := hah 9 12 (by kernel_rfl)
      have e11 := hah 8 11 (by kernel_rfl)
      have hkn : Known ρ' [(12, (.pointer (some ⟨g3, 0, none⟩))), (11, (.bool true))] := ⟨e12, (Eq.trans e11 (congrArg Value.bool hb56)), trivial⟩
      refine Step.known _ hkn ?_
      refine Step.load (t := 22) (x := (.tmp 12)) (g := g3) (off := 0) (i := 0) (v := (.int .u32 pAddr1)) (d := (some 13)) (k := 10) (by kernel_rfl) rfl (by kernel_rfl) hs71 rfl (by kernel_rfl) ?_
      exact ⟨rfl, _, updO_known hkn, rfl⟩
     ·intro ρ' w' hs hah hP
      obtain ⟨hvl75, hs73⟩ := hP
      obtain ⟨q74, -⟩ := hvl75
      have e12 := hah 9 12 (by kernel_rfl)
      have e11 := hah 8 11 (by kernel_rfl)
      have hkn : Known ρ' [(12, (.pointer (some ⟨g3, 0, none⟩))), (11, (.bool true))] := ⟨e12, (Eq.trans e11 (congrArg Value.bool hb56)), trivial⟩
      refine Step.known _ hkn ?_
      refine Step.load (t := 22) (x := (.tmp 12)) (g := g3) (off := 0) (i := 0) (v := (.int .u32 pAddr1)) (d := (some 13)) (k := 10) (by kernel_rfl) rfl (by kernel_rfl) hs73 rfl (by kernel_rfl) ?_
      exact ⟨rfl, _, updO_known hkn, rfl⟩
    ·exact Owe.run (by kernel_rfl) [(1, (.pointer (some ⟨g3, 0, none⟩))), (11, (.bool true))] ⟨gS (by kernel_rfl) (by kernel_rfl), gB 8 (by kernel_rfl) (decide (pBits2 ≤ 32)) (by kernel_rfl) hb56, trivial⟩ (.pointer (some ⟨g3, 1, none⟩)) (fun _ _ => by kernel_rfl) rfl
    ·refine Owe.light (by kernel_rfl) [0] (by kernel_rfl) (all_cons ?_ all_nil)
     ·intro ρ' w' hs hah hP
      obtain ⟨hvl77, hs76⟩ := hP
      have e14 := hah 11 14 (by kernel_rfl)
      have e11 := hah 8 11 (by kernel_rfl)
      have hkn : Known ρ' [(14, (.pointer (some ⟨g3, 1, none⟩))), (11, (.bool true))] := ⟨e14, (Eq.trans e11 (congrArg Value.bool hb56)), trivial⟩
      refine Step.known _ hkn ?_
      refine Step.load (t := 3) (x := (.tmp 14)) (g := g3) (off := 1) (i := 0) (v := (.int .i64 pBits2)) (d := (some 15)) (k := 12) (by kernel_rfl) rfl (by kernel_rfl) hs76 rfl (by kernel_rfl) ?_
      exact ⟨rfl, _, updO_known hkn, rfl⟩
    ·refine Owe.heavy (by kernel_rfl) [(0, 1)] (by kernel_rfl) (all_cons ⟨by kernel_rfl, by kernel_rfl, ?_⟩ all_nil)
     ·intro ρ' w' hs hah hP
      obtain ⟨hvl79, hs78⟩ := hP
      have e15 := hah 12 15 (by kernel_rfl)
      have e11 := hah 8 11 (by kernel_rfl)
      have hkn : Known ρ' [(15, (.int .i64 pBits2)), (11, (.bool true))] := ⟨e15, (Eq.trans e11 (congrArg Value.bool hb56)), trivial⟩
      refine Step.known _ hkn ?_
      refine Step.callF (f := 35) (fo := (.func 35)) (xs := #[(.tmp 15)]) (tys := #[3]) (first := #[]) (captured := #[]) (d := (some 16)) (k := 13) (by kernel_rfl) rfl (by kernel_rfl) (by kernel_rfl) Tryd.call35 (L_syntax_mask_walk  pBits2 w'  z57 hz58) ?_
      rintro e w80 ⟨rfl, hs81⟩
      refine ⟨_, rfl, ?_⟩
      have hs82 := SP.call hs78 hs81
      clear hs81
      have hs83 : SP [] w0 w80 [boxE g3 24 #[(.int .u32 pAddr1), (.int .i64 pBits2)]] := hs82
      clear hs82
      refine ⟨_, updO_known hkn, rfl, ?_⟩
      exact (And.intro (And.intro rfl (trivial)) (hs83))
    ·exact Owe.run (by kernel_rfl) [(13, (.int .u32 pAddr1)), (16, (.int .u32 z57)), (11, (.bool true))] ⟨gA 10 (by kernel_rfl) (by kernel_rfl), gA 13 (by kernel_rfl) (by kernel_rfl), gB 8 (by kernel_rfl) (decide (pBits2 ≤ 32)) (by kernel_rfl) hb56, trivial⟩ (.int .u32 (bAndNot .u32 pAddr1 z57)) (fun _ _ => by kernel_rfl) rfl
    ·exact Owe.run (by kernel_rfl) [(17, (.int .u32 (bAndNot .u32 pAddr1 z57))), (11, (.bool true))] ⟨gA 14 (by kernel_rfl) (by kernel_rfl), gB 8 (by kernel_rfl) (decide (pBits2 ≤ 32)) (by kernel_rfl) hb56, trivial⟩ (.bool ((bAndNot .u32 pAddr1 z57) == 0)) (fun _ _ => by kernel_rfl) rfl
    ·exact Owe.run (by kernel_rfl) [(11, (.bool true)), (18, (.bool ((bAndNot .u32 pAddr1 z57) == 0)))] ⟨gB 8 (by kernel_rfl) (decide (pBits2 ≤ 32)) (by kernel_rfl) hb56, gA 15 (by kernel_rfl) (by kernel_rfl), trivial⟩ (.bool ((bAndNot .u32 pAddr1 z57) == 0)) (fun _ _ => by kernel_rfl) rfl
    ·exact Owe.run (by kernel_rfl) [(19, (.bool ((bAndNot .u32 pAddr1 z57) == 0)))] ⟨gA 16 (by kernel_rfl) (by kernel_rfl), trivial⟩ (.bool ((bAndNot .u32 pAddr1 z57) == 0)) (fun _ _ => by kernel_rfl) rfl
    ·intro ρ' w' hs hf hP
     obtain ⟨hvl86, hs84⟩ := hP
     obtain ⟨q85, -⟩ := hvl86
     have e2 := hf 17 2 (by kernel_rfl)
     refine postKnown [(2, (.bool ((bAndNot .u32 pAddr1 z57) == 0)))] ⟨e2, trivial⟩ ?_
     obtain ⟨w87, hww87⟩ : ∃ x, w' = x := ⟨_, rfl⟩
     rw [hww87] at hs84 ⊢
     exact ⟨((bAndNot .u32 pAddr1 z57) == 0), ⟨(by kernel_rfl), trivial⟩, SP.sel hs84 [] rfl rfl, H⟩
   ·have H := cf H hb56
    refine At.stages (by kernel_rfl) (by kernel_rfl) (by kernel_rfl) (by kernel_rfl) (by kernel_rfl) [GEq (.pointer (some ⟨g3, 1, none⟩)), GEq (.int .i64 pBits2), GEq (.bool (decide (pBits2 ≥ 0))), GEq (.bool (decide (pBits2 ≥ 0))), GEq (.pointer (some ⟨g3, 1, none⟩)), GEq (.int .i64 pBits2), GEq (.bool (decide (pBits2 ≤ 32))), GEq (.bool (decide (pBits2 ≤ 32))), GEq (.bool (decide (pBits2 ≤ 32))), GEq undef, GEq undef, GEq undef, GEq undef, GEq undef, GEq undef, GEq undef, GEq (.bool false), GEq (.bool false)] [] [([], fun vs w => VL vs [] ∧ SP [] w0 w [boxE g3 24 #[(.int .u32 pAddr1), (.int .i64 pBits2)]])] (N := 18) (by kernel_rfl) ⟨by kernel_rfl, Nat.zero_lt_succ _⟩ (show VL [] [] ∧ SP [] w0 w4.drew [boxE g3 24 #[(.int .u32 pAddr1), (.int .i64 pBits2)]] from ⟨trivial, SP.drew hs6⟩) ⟨⟨⟨⟨⟨⟨⟨⟨⟨⟨⟨⟨⟨⟨⟨⟨⟨⟨trivial, ?_⟩, ?_⟩, ?_⟩, ?_⟩, ?_⟩, ?_⟩, ?_⟩, ?_⟩, ?_⟩, ?_⟩, ?_⟩, ?_⟩, ?_⟩, ?_⟩, ?_⟩, ?_⟩, ?_⟩, ?_⟩ (last := 0) (by kernel_rfl) ?_
    ·exact Owe.run (by kernel_rfl) [(1, (.pointer (some ⟨g3, 0, none⟩)))] ⟨gS (by kernel_rfl) (by kernel_rfl), trivial⟩ (.pointer (some ⟨g3, 1, none⟩)) (fun _ _ => by kernel_rfl) rfl
    ·refine Owe.light (by kernel_rfl) [0] (by kernel_rfl) (all_cons ?_ all_nil)
     ·intro ρ' w' hs hah hP
      obtain ⟨hvl89, hs88⟩ := hP
      have e3 := hah 0 3 (by kernel_rfl)
      have hkn : Known ρ' [(3, (.pointer (some ⟨g3, 1, none⟩)))] := ⟨e3, trivial⟩
      refine Step.known _ hkn ?_
      refine Step.load (t := 3) (x := (.tmp 3)) (g := g3) (off := 1) (i := 0) (v := (.int .i64 pBits2)) (d := (some 4)) (k := 1) (by kernel_rfl) rfl (by kernel_rfl) hs88 rfl (by kernel_rfl) ?_
      exact ⟨rfl, _, updO_known hkn, rfl⟩
    ·exact Owe.run (by kernel_rfl) [(4, (.int .i64 pBits2))] ⟨gA 1 (by kernel_rfl) (by kernel_rfl), trivial⟩ (.bool (decide (pBits2 ≥ 0))) (fun _ _ => by kernel_rfl) rfl
    ·exact Owe.run (by kernel_rfl) [(5, (.bool (decide (pBits2 ≥ 0))))] ⟨gA 2 (by kernel_rfl) (by kernel_rfl), trivial⟩ (.bool (decide (pBits2 ≥ 0))) (fun _ _ => by kernel_rfl) rfl
    ·exact Owe.run (by kernel_rfl) [(1, (.pointer (some ⟨g3, 0, none⟩))), (6, (.bool true))] ⟨gS (by kernel_rfl) (by kernel_rfl), gB 3 (by kernel_rfl) (decide (pBits2 ≥ 0)) (by kernel_rfl) hb55, trivial⟩ (.pointer (some ⟨g3, 1, none⟩)) (fun _ _ => by kernel_rfl) rfl
    ·refine Owe.light (by kernel_rfl) [0] (by kernel_rfl) (all_cons ?_ all_nil)
     ·intro ρ' w' hs hah hP
      obtain ⟨hvl91, hs90⟩ := hP
      have e7 := hah 4 7 (by kernel_rfl)
      have e6 := hah 3 6 (by kernel_rfl)
      have hkn : Known ρ' [(7, (.pointer (some ⟨g3, 1, none⟩))), (6, (.bool true))] := ⟨e7, (Eq.trans e6 (congrArg Value.bool hb55)), trivial⟩
      refine Step.known _ hkn ?_
      refine Step.load (t := 3) (x := (.tmp 7)) (g := g3) (off := 1) (i := 0) (v := (.int .i64 pBits2)) (d := (some 8)) (k := 5) (by kernel_rfl) rfl (by kernel_rfl) hs90 rfl (by kernel_rfl) ?_
      exact ⟨rfl, _, updO_known hkn, rfl⟩
    ·exact Owe.run (by kernel_rfl) [(8, (.int .i64 pBits2)), (6, (.bool true))] ⟨gA 5 (by kernel_rfl) (by kernel_rfl), gB 3 (by kernel_rfl) (decide (pBits2 ≥ 0)) (by kernel_rfl) hb55, trivial⟩ (.bool (decide (pBits2 ≤ 32))) (fun _ _ => by kernel_rfl) rfl
    ·exact Owe.run (by kernel_rfl) [(6, (.bool true)), (9, (.bool (decide (pBits2 ≤ 32))))] ⟨gB 3 (by kernel_rfl) (decide (pBits2 ≥ 0)) (by kernel_rfl) hb55, gA 6 (by kernel_rfl) (by kernel_rfl), trivial⟩ (.bool (decide (pBits2 ≤ 32))) (fun _ _ => by kernel_rfl) rfl
    ·exact Owe.run (by kernel_rfl) [(10, (.bool (decide (pBits2 ≤ 32))))] ⟨gA 7 (by kernel_rfl) (by kernel_rfl), trivial⟩ (.bool (decide (pBits2 ≤ 32))) (fun _ _ => by kernel_rfl) rfl
    ·exact Owe.skip (by kernel_rfl) [(11, (.bool false))] ⟨gB 8 (by kernel_rfl) (decide (pBits2 ≤ 32)) (by kernel_rfl) hb56, trivial⟩ (some 12) (fun _ => by kernel_rfl) (by kernel_rfl) rfl
    ·exact Owe.skip (by kernel_rfl) [(11, (.bool false))] ⟨gB 8 (by kernel_rfl) (decide (pBits2 ≤ 32)) (by kernel_rfl) hb56, trivial⟩ (some 13) (fun _ => by kernel_rfl) (by kernel_rfl) rfl
    ·exact Owe.skip (by kernel_rfl) [(11, (.bool false))] ⟨gB 8 (by kernel_rfl) (decide (pBits2 ≤ 32)) (by kernel_rfl) hb56, trivial⟩ (some 14) (fun _ => by kernel_rfl) (by kernel_rfl) rfl
    ·exact Owe.skip (by kernel_rfl) [(11, (.bool false))] ⟨gB 8 (by kernel_rfl) (decide (pBits2 ≤ 32)) (by kernel_rfl) hb56, trivial⟩ (some 15) (fun _ => by kernel_rfl) (by kernel_rfl) rfl
    ·exact Owe.skip (by kernel_rfl) [(11, (.bool false))] ⟨gB 8 (by kernel_rfl) (decide (pBits2 ≤ 32)) (by kernel_rfl) hb56, trivial⟩ (some 16) (fun _ => by kernel_rfl) (by kernel_rfl) rfl
    ·exact Owe.skip (by kernel_rfl) [(11, (.bool false))] ⟨gB 8 (by kernel_rfl) (decide (pBits2 ≤ 32)) (by kernel_rfl) hb56, trivial⟩ (some 17) (fun _ => by kernel_rfl) (by kernel_rfl) rfl
    ·exact Owe.skip (by kernel_rfl) [(11, (.bool false))] ⟨gB 8 (by kernel_rfl) (decide (pBits2 ≤ 32)) (by kernel_rfl) hb56, trivial⟩ (some 18) (fun _ => by kernel_rfl) (by kernel_rfl) rfl
    ·exact Owe.run (by kernel_rfl) [(11, (.bool false)), (18, undef)] ⟨gB 8 (by kernel_rfl) (decide (pBits2 ≤ 32)) (by kernel_rfl) hb56, gA 15 (by kernel_rfl) (by kernel_rfl), trivial⟩ (.bool false) (fun _ _ => by kernel_rfl) rfl
    ·exact Owe.run (by kernel_rfl) [(19, (.bool false))] ⟨gA 16 (by kernel_rfl) (by kernel_rfl), trivial⟩ (.bool false) (fun _ _ => by kernel_rfl) rfl
    ·intro ρ' w' hs hf hP
     obtain ⟨hvl93, hs92⟩ := hP
     have e2 := hf 17 2 (by kernel_rfl)
     refine postKnown [(2, (.bool false))] ⟨e2, trivial⟩ ?_
     obtain ⟨w94, hww94⟩ : ∃ x, w' = x := ⟨_, rfl⟩
     rw [hww94] at hs92 ⊢
     exact ⟨false, ⟨(by kernel_rfl), trivial⟩, SP.sel hs92 [] rfl rfl, H⟩
  ·have H := cf H hb55
   refine At.stages (by kernel_rfl) (by kernel_rfl) (by kernel_rfl) (by kernel_rfl) (by kernel_rfl) [GEq (.pointer (some ⟨g3, 1, none⟩)), GEq (.int .i64 pBits2), GEq (.bool (decide (pBits2 ≥ 0))), GEq (.bool (decide (pBits2 ≥ 0))), GEq undef, GEq undef, GEq undef, GEq (.bool false), GEq (.bool false), GEq undef, GEq undef, GEq undef, GEq undef, GEq undef, GEq undef, GEq undef, GEq (.bool false), GEq (.bool false)] [] [([], fun vs w => VL vs [] ∧ SP [] w0 w [boxE g3 24 #[(.int .u32 pAddr1), (.int .i64 pBits2)]])] (N := 18) (by kernel_rfl) ⟨by kernel_rfl, Nat.zero_lt_succ _⟩ (show VL [] [] ∧ SP [] w0 w4.drew [boxE g3 24 #[(.int .u32 pAddr1), (.int .i64 pBits2)]] from ⟨trivial, SP.drew hs6⟩) ⟨⟨⟨⟨⟨⟨⟨⟨⟨⟨⟨⟨⟨⟨⟨⟨⟨⟨trivial, ?_⟩, ?_⟩, ?_⟩, ?_⟩, ?_⟩, ?_⟩, ?_⟩, ?_⟩, ?_⟩, ?_⟩, ?_⟩, ?_⟩, ?_⟩, ?_⟩, ?_⟩, ?_⟩, ?_⟩, ?_⟩ (last := 0) (by kernel_rfl) ?_
   ·exact Owe.run (by kernel_rfl) [(1, (.pointer (some ⟨g3, 0, none⟩)))] ⟨gS (by kernel_rfl) (by kernel_rfl), trivial⟩ (.pointer (some ⟨g3, 1, none⟩)) (fun _ _ => by kernel_rfl) rfl
   ·refine Owe.light (by kernel_rfl) [0] (by kernel_rfl) (all_cons ?_ all_nil)
    ·intro ρ' w' hs hah hP
     obtain ⟨hvl96, hs95⟩ := hP
     have e3 := hah 0 3 (by kernel_rfl)
     have hkn : Known ρ' [(3, (.pointer (some ⟨g3, 1, none⟩)))] := ⟨e3, trivial⟩
     refine Step.known _ hkn ?_
     refine Step.load (t := 3) (x := (.tmp 3)) (g := g3) (off := 1) (i := 0) (v := (.int .i64 pBits2)) (d := (some 4)) (k := 1) (by kernel_rfl) rfl (by kernel_rfl) hs95 rfl (by kernel_rfl) ?_
     exact ⟨rfl, _, updO_known hkn, rfl⟩
   ·exact Owe.run (by kernel_rfl) [(4, (.int .i64 pBits2))] ⟨gA 1 (by kernel_rfl) (by kernel_rfl), trivial⟩ (.bool (decide (pBits2 ≥ 0))) (fun _ _ => by kernel_rfl) rfl
   ·exact Owe.run (by kernel_rfl) [(5, (.bool (decide (pBits2 ≥ 0))))] ⟨gA 2 (by kernel_rfl) (by kernel_rfl), trivial⟩ (.bool (decide (pBits2 ≥ 0))) (fun _ _ => by kernel_rfl) rfl
   ·exact Owe.skip (by kernel_rfl) [(6, (.bool false))] ⟨gB 3 (by kernel_rfl) (decide (pBits2 ≥ 0)) (by kernel_rfl) hb55, trivial⟩ (some 7) (fun _ => by kernel_rfl) (by kernel_rfl) rfl
   ·exact Owe.skip (by kernel_rfl) [(6, (.bool false))] ⟨gB 3 (by kernel_rfl) (decide (pBits2 ≥ 0)) (by kernel_rfl) hb55, trivial⟩ (some 8) (fun _ => by kernel_rfl) (by kernel_rfl) rfl
   ·exact Owe.skip (by kernel_rfl) [(6, (.bool false))] ⟨gB 3 (by kernel_rfl) (decide (pBits2 ≥ 0)) (by kernel_rfl) hb55, trivial⟩ (some 9) (fun _ => by kernel_rfl) (by kernel_rfl) rfl
   ·exact Owe.run (by kernel_rfl) [(6, (.bool false)), (9, undef)] ⟨gB 3 (by kernel_rfl) (decide (pBits2 ≥ 0)) (by kernel_rfl) hb55, gA 6 (by kernel_rfl) (by kernel_rfl), trivial⟩ (.bool false) (fun _ _ => by kernel_rfl) rfl
   ·exact Owe.run (by kernel_rfl) [(10, (.bool false))] ⟨gA 7 (by kernel_rfl) (by kernel_rfl), trivial⟩ (.bool false) (fun _ _ => by kernel_rfl) rfl
   ·exact Owe.skip (by kernel_rfl) [(11, (.bool false))] ⟨gA 8 (by kernel_rfl) (by kernel_rfl), trivial⟩ (some 12) (fun _ => by kernel_rfl) (by kernel_rfl) rfl
   ·exact Owe.skip (by kernel_rfl) [(11, (.bool false))] ⟨gA 8 (by kernel_rfl) (by kernel_rfl), trivial⟩ (some 13) (fun _ => by kernel_rfl) (by kernel_rfl) rfl
   ·exact Owe.skip (by kernel_rfl) [(11, (.bool false))] ⟨gA 8 (by kernel_rfl) (by kernel_rfl), trivial⟩ (some 14) (fun _ => by kernel_rfl) (by kernel_rfl) rfl
   ·exact Owe.skip (by kernel_rfl) [(11, (.bool false))] ⟨gA 8 (by kernel_rfl) (by kernel_rfl), trivial⟩ (some 15) (fun _ => by kernel_rfl) (by kernel_rfl) rfl
   ·exact Owe.skip (by kernel_rfl) [(11, (.bool false))] ⟨gA 8 (by kernel_rfl) (by kernel_rfl), trivial⟩ (some 16) (fun _ => by kernel_rfl) (by kernel_rfl) rfl
   ·exact Owe.skip (by kernel_rfl) [(11, (.bool false))] ⟨gA 8 (by kernel_rfl) (by kernel_rfl), trivial⟩ (some 17) (fun _ => by kernel_rfl) (by kernel_rfl) rfl
   ·exact Owe.skip (by kernel_rfl) [(11, (.bool false))] ⟨gA 8 (by kernel_rfl) (by kernel_rfl), trivial⟩ (some 18) (fun _ => by kernel_rfl) (by kernel_rfl) rfl
   ·exact Owe.run (by kernel_rfl) [(11, (.bool false)), (18, undef)] ⟨gA 8 (by kernel_rfl) (by kernel_rfl), gA 15 (by kernel_rfl) (by kernel_rfl), trivial⟩ (.bool false) (fun _ _ => by kernel_rfl) rfl
   ·exact Owe.run (by kernel_rfl) [(19, (.bool false))] ⟨gA 16 (by kernel_rfl) (by kernel_rfl), trivial⟩ (.bool false) (fun _ _ => by kernel_rfl) rfl
   ·intro ρ' w' hs hf hP
    obtain ⟨hvl98, hs97⟩ := hP
    have e2 := hf 17 2 (by kernel_rfl)
    refine postKnown [(2, (.bool false))] ⟨e2, trivial⟩ ?_
    obtain ⟨w99, hww99⟩ : ∃ x, w' = x := ⟨_, rfl⟩
    rw [hww99] at hs97 ⊢
    exact ⟨false, ⟨(by kernel_rfl), trivial⟩, SP.sel hs97 [] rfl rfl, H⟩
 ·rintro ρ w53 ⟨v52, hk, hs54, H⟩
  unfold L_syntax_right_k1 at H
  refine At.known [(2, (.bool v52))] hk ?_
  refine At.ret (by kernel_rfl) ?_
  refine ⟨(.bool v52), by kernel_rfl, ?_⟩
  obtain rfl := some_elim H
  exact ⟨rfl, SP.sel hs54 [] rfl rfl⟩
/-! L_syntax_Net -/
def L_syntax_Net_k1 (z12 : (Int × Bool)) (z18 : (Int × Bool)) (v34 : Bool) : Option (Int × Int × Bool) :=
  (cond v34 (some (0, 0, false)) (some (z12.1, z18.1, true)))
def L_syntax_Net (p1 : (List UInt8)) : Option (Int × Int × Bool) :=
  ((L_strings_Cut p1 ([47] : List UInt8)).bind fun z6 => ((L_syntax_Addr z6.1).bind fun z12 => ((L_num_Parse z6.2.1).bind fun z18 => (cond (!z6.2.2) (L_syntax_Net_k1 z12 z18 true) (cond (!z12.2) (L_syntax_Net_k1 z12 z18 true) (cond (!z18.2) (L_syntax_Net_k1 z12 z18 true) (cond (decide (z18.1 > 32)) (L_syntax_Net_k1 z12 z18 true) ((L_syntax_right z12.1 z18.1).bind fun z48 => (L_syntax_Net_k1 z12 z18 (!z48))))))))))
set_option maxRecDepth 100000 in
set_option maxHeartbeats 4000000 in
theorem L_syntax_Net_walk  (p1 : (List UInt8)) (w0 : World) (hL : LaidW w0)  (r : (Int × Int × Bool)) (H : L_syntax_Net p1 = some r) :
  Calls Tryd.prog 13 #[(.string ⟨List.toArray p1⟩)] w0 (fun e w' => e = .returned (.tuple #[(.agg #[(.int .u32 r.1), (.int .i64 r.2.1)]), (.bool r.2.2)]) ∧ SP [] w0 w' []) := by
 unfold L_syntax_Net at H
 refine calls_start (n := 52) Tryd.func13 (by kernel_rfl) (by kernel_rfl) (by kernel_rfl) ?_
 have hs0 := SP.start [] w0
 refine At.seq (by kernel_rfl) (p0 := [false]) (p1 := [true]) rfl rfl ?_
 refine At.region (by kernel_rfl) (by kernel_rfl) ?_
 refine In.step (k' := 1) rfl (by kernel_rfl) ?_
 refine Step.alloc (t := 24) (z := (.agg #[(.int .u32 0), (.int .i64 0)])) (d := (some 2)) (k := 0) (by kernel_rfl) rfl (by kernel_rfl) hs0 ?_
 intro g2 w3 hs4
 have hs5 : SP [] w0 w3 [boxE g2 24 #[(.int .u32 0), (.int .i64 0)]] := hs4
 clear hs4
 refine In.run' 1 (k' := 2) rfl [(3, (.bool false))] (by kernel_rfl) ?_
 refine In.fin (by kernel_rfl) ?_
 refine At.seq (by kernel_rfl) (p0 := [true, false]) (p1 := [true, true]) rfl rfl ?_
 refine At.region (by kernel_rfl) (by kernel_rfl) ?_
 refine In.run' 1 (k' := 1) rfl [(12, (.string ⟨List.toArray p1⟩))] (by kernel_rfl) ?_
 obtain ⟨z6, hz7, H⟩ := bind_elim H
 refine In.step (k' := 2) rfl (by kernel_rfl) ?_
 refine Step.callF (f := 28) (fo := (.func 28)) (xs := #[(.tmp 12), (.const (.string ⟨List.toArray ([47] : List UInt8)⟩))]) (tys := #[9, 9]) (first := #[]) (captured := #[]) (d := (some 13)) (k := 1) (by kernel_rfl) rfl (by kernel_rfl) (by kernel_rfl) Tryd.call28 (L_strings_Cut_walk  p1 ([47] : List UInt8) w3  z6 hz7) ?_
 rintro e w8 ⟨rfl, hs9⟩
 refine ⟨_, rfl, ?_⟩
 have hs10 := SP.call hs5 hs9
 clear hs9
 have hs11 : SP [] w0 w8 [boxE g2 24 #[(.int .u32 0), (.int .i64 0)]] := hs10
 clear hs10
 refine In.run' 7 (k' := 9) rfl [(11, (.tuple #[(.string ⟨List.toArray z6.1⟩), (.string ⟨List.toArray z6.2.1⟩), (.bool z6.2.2)])), (14, (.string ⟨List.toArray z6.1⟩)), (15, (.string ⟨List.toArray z6.2.1⟩)), (16, (.bool z6.2.2)), (4, (.string ⟨List.toArray z6.1⟩)), (5, (.string ⟨List.toArray z6.2.1⟩)), (6, (.bool z6.2.2))] (by kernel_rfl) ?_
 refine In.fin (by kernel_rfl) ?_
 refine At.seq (by kernel_rfl) (p0 := [true, true, false]) (p1 := [true, true, true]) rfl rfl ?_
 refine At.region (by kernel_rfl) (by kernel_rfl) ?_
 refine In.run' 1 (k' := 1) rfl [(18, (.string ⟨List.toArray z6.1⟩))] (by kernel_rfl) ?_
 obtain ⟨z12, hz13, H⟩ := bind_elim H
 refine In.step (k' := 2) rfl (by kernel_rfl) ?_
 refine Step.callF (f := 11) (fo := (.func 11)) (xs := #[(.tmp 18)]) (tys := #[9]) (first := #[]) (captured := #[]) (d := (some 19)) (k := 1) (by kernel_rfl) rfl (by kernel_rfl) (by kernel_rfl) Tryd.call11 (L_syntax_Addr_walk  z6.1 w8 (laid_below hL (SP.keeps hs11)) z12 hz13) ?_
 rintro e w14 ⟨rfl, hs15⟩
 refine ⟨_, rfl, ?_⟩
 have hs16 := SP.call hs11 hs15
 clear hs15
 have hs17 : SP [] w0 w14 [boxE g2 24 #[(.int .u32 0), (.int .i64 0)]] := hs16
 clear hs16
 refine In.run' 5 (k' := 7) rfl [(17, (.tuple #[(.int .u32 z12.1), (.bool z12.2)])), (20, (.int .u32 z12.1)), (21, (.bool z12.2)), (7, (.int .u32 z12.1)), (8, (.bool z12.2))] (by kernel_rfl) ?_
 refine In.fin (by kernel_rfl) ?_
 refine At.seq (by kernel_rfl) (p0 := [true, true, true, false]) (p1 := [true, true, true, true]) rfl rfl ?_
 refine At.region (by kernel_rfl) (by kernel_rfl) ?_
 refine In.run' 1 (k' := 1) rfl [(23, (.string ⟨List.toArray z6.2.1⟩))] (by kernel_rfl) ?_
 obtain ⟨z18, hz19, H⟩ := bind_elim H
 refine In.step (k' := 2) rfl (by kernel_rfl) ?_
 refine Step.callF (f := 25) (fo := (.func 25)) (xs := #[(.tmp 23)]) (tys := #[9]) (first := #[]) (captured := #[]) (d := (some 24)) (k := 1) (by kernel_rfl) rfl (by kernel_rfl) (by kernel_rfl) Tryd.call25 (L_num_Parse_walk  z6.2.1 w14 (laid_below hL (SP.keeps hs17)) z18 hz19) ?_
 rintro e w20 ⟨rfl, hs21⟩
 refine ⟨_, rfl, ?_⟩
 have hs22 := SP.call hs17 hs21
 clear hs21
 have hs23 : SP [] w0 w20 [boxE g2 24 #[(.int .u32 0), (.int .i64 0)]] := hs22
 clear hs22
 refine In.run' 5 (k' := 7) rfl [(22, (.tuple #[(.int .i64 z18.1), (.bool z18.2)])), (25, (.int .i64 z18.1)), (26, (.bool z18.2)), (9, (.int .i64 z18.1)), (10, (.bool z18.2))] (by kernel_rfl) ?_
 refine In.fin (by kernel_rfl) ?_
 refine At.seq (by kernel_rfl) (p0 := [true, true, true, true, false]) (p1 := [true, true, true, true, true]) rfl rfl ?_
 refine At.seq (by kernel_rfl) (p0 := [true, true, true, true, false, false]) (p1 := [true, true, true, true, false, true]) rfl rfl ?_
 refine At.join (fun ρ w => ∃ (v34 : Bool), Known ρ [(2, (.pointer (some ⟨g2, 0, none⟩))), (7, (.int .u32 z12.1)), (9, (.int .i64 z18.1)), (47, (.bool v34))] ∧ SP [] w0 w [boxE g2 24 #[(.int .u32 0), (.int .i64 0)]] ∧ L_syntax_Net_k1 z12 z18 v34 = some r) ?_ ?_
 ·refine At.region (by kernel_rfl) (by kernel_rfl) ?_
  refine In.run' 3 (k' := 3) rfl [(27, (.bool z6.2.2)), (28, (.bool (!z6.2.2))), (29, (.bool (!z6.2.2)))] (by kernel_rfl) ?_
  refine In.guard (t := 29) (b := (!z6.2.2)) (by kernel_rfl) (fun hb44 => ?_) (fun hb44 => ?_)
  ·have H := ct H hb44
   refine In.run' 18 (k' := 21) rfl [(30, undef), (31, undef), (32, (.bool true)), (33, (.bool true)), (34, undef), (35, undef), (36, (.bool true)), (37, (.bool true)), (38, undef), (39, undef), (40, (.bool true)), (41, (.bool true)), (42, undef), (43, undef), (44, undef), (45, undef), (46, undef), (47, (.bool true))] (by kernel_rfl) ?_
   refine In.fin (by kernel_rfl) ?_
   exact ⟨true, ⟨(by kernel_rfl), (by kernel_rfl), (by kernel_rfl), (by kernel_rfl), trivial⟩, SP.sel hs23 [0] rfl rfl, H⟩
  ·have H := cf H hb44
   refine In.run' 4 (k' := 7) rfl [(30, (.bool z12.2)), (31, (.bool (!z12.2))), (32, (.bool (!z12.2))), (33, (.bool (!z12.2)))] (by kernel_rfl) ?_
   refine In.guard (t := 33) (b := (!z12.2)) (by kernel_rfl) (fun hb45 => ?_) (fun hb45 => ?_)
   ·have H := ct H hb45
    refine In.run' 14 (k' := 21) rfl [(34, undef), (35, undef), (36, (.bool true)), (37, (.bool true)), (38, undef), (39, undef), (40, (.bool true)), (41, (.bool true)), (42, undef), (43, undef), (44, undef), (45, undef), (46, undef), (47, (.bool true))] (by kernel_rfl) ?_
    refine In.fin (by kernel_rfl) ?_
    exact ⟨true, ⟨(by kernel_rfl), (by kernel_rfl), (by kernel_rfl), (by kernel_rfl), trivial⟩, SP.sel hs23 [0] rfl rfl, H⟩
   ·have H := cf H hb45
    refine In.run' 4 (k' := 11) rfl [(34, (.bool z18.2)), (35, (.bool (!z18.2))), (36, (.bool (!z18.2))), (37, (.bool (!z18.2)))] (by kernel_rfl) ?_
    refine In.guard (t := 37) (b := (!z18.2)) (by kernel_rfl) (fun hb46 => ?_) (fun hb46 => ?_)
    ·have H := ct H hb46
     refine In.run' 10 (k' := 21) rfl [(38, undef), (39, undef), (40, (.bool true)), (41, (.bool true)), (42, undef), (43, undef), (44, undef), (45, undef), (46, undef), (47, (.bool true))] (by kernel_rfl) ?_
     refine In.fin (by kernel_rfl) ?_
     exact ⟨true, ⟨(by kernel_rfl), (by kernel_rfl), (by kernel_rfl), (by kernel_rfl), trivial⟩, SP.sel hs23 [0] rfl rfl, H⟩
    ·have H := cf H hb46
     refine In.run' 4 (k' := 15) rfl [(38, (.int .i64 z18.1)), (39, (.bool (decide (z18.1 > 32)))), (40, (.bool (decide (z18.1 > 32)))), (41, (.bool (decide (z18.1 > 32))))] (by kernel_rfl) ?_
     refine In.guard (t := 41) (b := (decide (z18.1 > 32))) (by kernel_rfl) (fun hb47 => ?_) (fun hb47 => ?_)
     ·have H := ct H hb47
      refine In.run' 6 (k' := 21) rfl [(42, undef), (43, undef), (44, undef), (45, undef), (46, undef), (47, (.bool true))] (by kernel_rfl) ?_
      refine In.fin (by kernel_rfl) ?_
      exact ⟨true, ⟨(by kernel_rfl), (by kernel_rfl), (by kernel_rfl), (by kernel_rfl), trivial⟩, SP.sel hs23 [0] rfl rfl, H⟩
     ·have H := cf H hb47
      refine In.run' 3 (k' := 18) rfl [(42, (.int .u32 z12.1)), (43, (.int .i64 z18.1)), (44, (.agg #[(.int .u32 z12.1), (.int .i64 z18.1)]))] (by kernel_rfl) ?_
      obtain ⟨z48, hz49, H⟩ := bind_elim H
      refine In.step (k' := 19) rfl (by kernel_rfl) ?_
      refine Step.callF (f := 29) (fo := (.func 29)) (xs := #[(.tmp 44)]) (tys := #[24]) (first := #[]) (captured := #[]) (d := (some 45)) (k := 18) (by kernel_rfl) rfl (by kernel_rfl) (by kernel_rfl) Tryd.call29 (L_syntax_right_walk  z12.1 z18.1 w20  z48 hz49) ?_
      rintro e w50 ⟨rfl, hs51⟩
      refine ⟨_, rfl, ?_⟩
      have hs52 := SP.call hs23 hs51
      clear hs51
      have hs53 : SP [] w0 w50 [boxE g2 24 #[(.int .u32 0), (.int .i64 0)]] := hs52
      clear hs52
      refine In.run' 2 (k' := 21) rfl [(46, (.bool (!z48))), (47, (.bool (!z48)))] (by kernel_rfl) ?_
      refine In.fin (by kernel_rfl) ?_
      exact ⟨(!z48), ⟨(by kernel_rfl), (by kernel_rfl), (by kernel_rfl), (by kernel_rfl), trivial⟩, SP.sel hs53 [0] rfl rfl, H⟩
 ·rintro ρ w35 ⟨v34, hk, hs36, H⟩
  unfold L_syntax_Net_k1 at H
  refine At.known [(2, (.pointer (some ⟨g2, 0, none⟩))), (7, (.int .u32 z12.1)), (9, (.int .i64 z18.1)), (47, (.bool v34))] hk ?_
  refine At.cond (by kernel_rfl) (o := (.tmp 47)) (by kernel_rfl) (b := v34) (by kernel_rfl) (p0 := [true, true, true, true, false, true, false]) (p1 := [true, true, true, true, false, true, true]) rfl rfl (fun hb37 => ?_) (fun hb37 => ?_)
  ·have H := ct H hb37
   refine At.seq (by kernel_rfl) (p0 := [true, true, true, true, false, true, false, false]) (p1 := [true, true, true, true, false, true, false, true]) rfl rfl ?_
   refine At.region (by kernel_rfl) (by kernel_rfl) ?_
   refine In.run' 1 (k' := 1) rfl [(48, (.agg #[(.int .u32 0), (.int .i64 0)]))] (by kernel_rfl) ?_
   refine In.step (k' := 2) rfl (by kernel_rfl) ?_
   refine Step.store (t := 24) (x := (.tmp 2)) (y := (.tmp 48)) (g := g2) (off := 0) (i := 0) (v := (.agg #[(.int .u32 0), (.int .i64 0)])) (cs' := #[(.int .u32 0), (.int .i64 0)]) (d := none) (k := 1) (by kernel_rfl) rfl (by kernel_rfl) (by kernel_rfl) hs36 rfl (by kernel_rfl) ?_
   intro w38 hs39
   have hs40 : SP [] w0 w38 [boxE g2 24 #[(.int .u32 0), (.int .i64 0)]] := hs39
   clear hs39
   refine In.run' 1 (k' := 3) rfl [(3, (.bool false))] (by kernel_rfl) ?_
   refine In.fin (by kernel_rfl) ?_
   refine At.ret (by kernel_rfl) ?_
   refine ⟨(.tuple #[(.agg #[(.int .u32 0), (.int .i64 0)]), (.bool false)]), res_2 (by kernel_rfl) (rv_cell (a := 2) (t := 24) (g := g2) (off := 0) (by kernel_rfl) (SP.get hs40 (i := 0) rfl) (by kernel_rfl)) (rv_tmp (t := 3) (by kernel_rfl)), ?_⟩
   obtain rfl := some_elim H
   exact ⟨rfl, SP.sel hs40 [] rfl rfl⟩
  ·have H := cf H hb37
   refine At.skip (by kernel_rfl) ?_
   refine At.seq (by kernel_rfl) (p0 := [true, true, true, true, true, false]) (p1 := [true, true, true, true, true, true]) rfl rfl ?_
   refine At.region (by kernel_rfl) (by kernel_rfl) ?_
   refine In.run' 3 (k' := 3) rfl [(49, (.int .u32 z12.1)), (50, (.int .i64 z18.1)), (51, (.agg #[(.int .u32 z12.1), (.int .i64 z18.1)]))] (by kernel_rfl) ?_
   refine In.step (k' := 4) rfl (by kernel_rfl) ?_
   refine Step.store (t := 24) (x := (.tmp 2)) (y := (.tmp 51)) (g := g2) (off := 0) (i := 0) (v := (.agg #[(.int .u32 z12.1), (.int .i64 z18.1)])) (cs' := #[(.int .u32 z12.1), (.int .i64 z18.1)]) (d := none) (k := 3) (by kernel_rfl) rfl (by kernel_rfl) (by kernel_rfl) hs36 rfl (by kernel_rfl) ?_
   intro w41 hs42
   have hs43 : SP [] w0 w41 [boxE g2 24 #[(.int .u32 z12.1), (.int .i64 z18.1)]] := hs42
   clear hs42
   refine In.run' 1 (k' := 5) rfl [(3, (.bool true))] (by kernel_rfl) ?_
   refine In.fin (by kernel_rfl) ?_
   refine At.ret (by kernel_rfl) ?_
   refine ⟨(.tuple #[(.agg #[(.int .u32 z12.1), (.int .i64 z18.1)]), (.bool true)]), res_2 (by kernel_rfl) (rv_cell (a := 2) (t := 24) (g := g2) (off := 0) (by kernel_rfl) (SP.get hs43 (i := 0) rfl) (by kernel_rfl)) (rv_tmp (t := 3) (by kernel_rfl)), ?_⟩
   obtain rfl := some_elim H
   exact ⟨rfl, SP.sel hs43 [] rfl rfl⟩
/-! L_syntax_Slash -/
def L_syntax_Slash (pAddr1 : Int) (pBits2 : Int) : Option ((List UInt8)) :=
  ((L_syntax_right pAddr1 pBits2).bind fun z7 => (cond (!z7) (some (([] : List UInt8))) ((L_syntax_Dots pAddr1).bind fun z14 => ((app z14 ([47] : List UInt8)).bind fun l20 => ((L_num_Decimal pBits2).bind fun z22 => ((app l20 z22).bind fun l28 => (some (l28))))))))
set_option maxRecDepth 100000 in
set_option maxHeartbeats 4000000 in
theorem L_syntax_Slash_walk  (pAddr1 : Int) (pBits2 : Int) (w0 : World) (hL : LaidW w0)  (r : ((List UInt8))) (H : L_syntax_Slash pAddr1 pBits2 = some r) :
  Calls Tryd.prog 19 #[(.agg #[(.int .u32 pAddr1), (.int .i64 pBits2)])] w0 (fun e w' => e = .returned (.string ⟨List.toArray r⟩) ∧ SP [] w0 w' []) := by
 unfold L_syntax_Slash at H
 refine calls_start (n := 14) Tryd.func19 (by kernel_rfl) (by kernel_rfl) (by kernel_rfl) ?_
 have hs0 := SP.start [] w0
 refine At.seq (by kernel_rfl) (p0 := [false]) (p1 := [true]) rfl rfl ?_
 refine At.region (by kernel_rfl) (by kernel_rfl) ?_
 refine In.step (k' := 1) rfl (by kernel_rfl) ?_
 refine Step.box (t := 24) (x := (.tmp 0)) (v := (.agg #[(.int .u32 pAddr1), (.int .i64 pBits2)])) (d := (some 1)) (k := 0) (by kernel_rfl) rfl (by kernel_rfl) hs0 ?_
 intro g3 w4 hs5
 have hs6 : SP [] w0 w4 [boxE g3 24 #[(.int .u32 pAddr1), (.int .i64 pBits2)]] := hs5
 clear hs5
 refine In.run' 1 (k' := 2) rfl [(2, (.string ⟨List.toArray ([] : List UInt8)⟩))] (by kernel_rfl) ?_
 refine In.fin (by kernel_rfl) ?_
 refine At.seq (by kernel_rfl) (p0 := [true, false]) (p1 := [true, true]) rfl rfl ?_
 refine At.seq (by kernel_rfl) (p0 := [true, false, false]) (p1 := [true, false, true]) rfl rfl ?_
 refine At.region (by kernel_rfl) (by kernel_rfl) ?_
 refine In.step (k' := 1) rfl (by kernel_rfl) ?_
 refine Step.load (t := 24) (x := (.tmp 1)) (g := g3) (off := 0) (i := 0) (v := (.agg #[(.int .u32 pAddr1), (.int .i64 pBits2)])) (d := (some 3)) (k := 0) (by kernel_rfl) rfl (by kernel_rfl) hs6 rfl (by kernel_rfl) ?_
 obtain ⟨z7, hz8, H⟩ := bind_elim H
 refine In.step (k' := 2) rfl (by kernel_rfl) ?_
 refine Step.callF (f := 29) (fo := (.func 29)) (xs := #[(.tmp 3)]) (tys := #[24]) (first := #[]) (captured := #[]) (d := (some 4)) (k := 1) (by kernel_rfl) rfl (by kernel_rfl) (by kernel_rfl) Tryd.call29 (L_syntax_right_walk  pAddr1 pBits2 w4  z7 hz8) ?_
 rintro e w9 ⟨rfl, hs10⟩
 refine ⟨_, rfl, ?_⟩
 have hs11 := SP.call hs6 hs10
 clear hs10
 have hs12 : SP [] w0 w9 [boxE g3 24 #[(.int .u32 pAddr1), (.int .i64 pBits2)]] := hs11
 clear hs11
 refine In.run' 1 (k' := 3) rfl [(5, (.bool (!z7)))] (by kernel_rfl) ?_
 refine In.fin (by kernel_rfl) ?_
 refine At.cond (by kernel_rfl) (o := (.tmp 5)) (by kernel_rfl) (b := (!z7)) (by kernel_rfl) (p0 := [true, false, true, false]) (p1 := [true, false, true, true]) rfl rfl (fun hb13 => ?_) (fun hb13 => ?_)
 ·have H := ct H hb13
  refine At.seq (by kernel_rfl) (p0 := [true, false, true, false, false]) (p1 := [true, false, true, false, true]) rfl rfl ?_
  refine At.region (by kernel_rfl) (by kernel_rfl) ?_
  refine In.run' 1 (k' := 1) rfl [(2, (.string ⟨List.toArray ([] : List UInt8)⟩))] (by kernel_rfl) ?_
  refine In.fin (by kernel_rfl) ?_
  refine At.ret (by kernel_rfl) ?_
  refine ⟨(.string ⟨List.toArray ([] : List UInt8)⟩), by kernel_rfl, ?_⟩
  obtain rfl := some_elim H
  exact ⟨rfl, SP.sel hs12 [] rfl rfl⟩
 ·have H := cf H hb13
  refine At.skip (by kernel_rfl) ?_
  refine At.seq (by kernel_rfl) (p0 := [true, true, false]) (p1 := [true, true, true]) rfl rfl ?_
  obtain ⟨z14, hz15, H⟩ := bind_elim H
  obtain ⟨hl21, H⟩ := app_elim H
  obtain ⟨l20, hyl20⟩ : ∃ y, z14 ++ ([47] : List UInt8) = y := ⟨_, rfl⟩
  rw [hyl20] at H
  obtain ⟨z22, hz23, H⟩ := bind_elim H
  obtain ⟨hl29, H⟩ := app_elim H
  obtain ⟨l28, hyl28⟩ : ∃ y, l20 ++ z22 = y := ⟨_, rfl⟩
  rw [hyl28] at H
  refine At.stages (by kernel_rfl) (by kernel_rfl) (by kernel_rfl) (by kernel_rfl) (by kernel_rfl) [GEq (.pointer (some ⟨g3, 0, none⟩)), GEq (.int .u32 pAddr1), GEq (.string ⟨List.toArray z14⟩), GEq (.string ⟨List.toArray l20⟩), GEq (.pointer (some ⟨g3, 1, none⟩)), GEq (.int .i64 pBits2), GEq (.string ⟨List.toArray z22⟩), GEq (.string ⟨List.toArray l28⟩), GEq (.string ⟨List.toArray l28⟩)] [2, 6] [([], fun vs w => VL vs [] ∧ SP [] w0 w [boxE g3 24 #[(.int .u32 pAddr1), (.int .i64 pBits2)]]), ([2], fun vs w => VL vs [(.string ⟨List.toArray z14⟩)] ∧ SP [] w0 w [boxE g3 24 #[(.int .u32 pAddr1), (.int .i64 pBits2)]]), ([2, 6], fun vs w => VL vs [(.string ⟨List.toArray z14⟩), (.string ⟨List.toArray z22⟩)] ∧ SP [] w0 w [boxE g3 24 #[(.int .u32 pAddr1), (.int .i64 pBits2)]])] (N := 9) (by kernel_rfl) ⟨by kernel_rfl, Nat.zero_lt_succ _⟩ (show VL [] [] ∧ SP [] w0 w9.drew [boxE g3 24 #[(.int .u32 pAddr1), (.int .i64 pBits2)]] from ⟨trivial, SP.drew hs12⟩) ⟨⟨⟨⟨⟨⟨⟨⟨⟨trivial, ?_⟩, ?_⟩, ?_⟩, ?_⟩, ?_⟩, ?_⟩, ?_⟩, ?_⟩, ?_⟩ (last := 2) (by kernel_rfl) ?_
  ·exact Owe.run (by kernel_rfl) [(1, (.pointer (some ⟨g3, 0, none⟩)))] ⟨gS (by kernel_rfl) (by kernel_rfl), trivial⟩ (.pointer (some ⟨g3, 0, none⟩)) (fun _ _ => by kernel_rfl) rfl
  ·refine Owe.light (by kernel_rfl) [0] (by kernel_rfl) (all_cons ?_ all_nil)
   ·intro ρ' w' hs hah hP
    obtain ⟨hvl43, hs42⟩ := hP
    have e6 := hah 0 6 (by kernel_rfl)
    have hkn : Known ρ' [(6, (.pointer (some ⟨g3, 0, none⟩)))] := ⟨e6, trivial⟩
    refine Step.known _ hkn ?_
    refine Step.load (t := 22) (x := (.tmp 6)) (g := g3) (off := 0) (i := 0) (v := (.int .u32 pAddr1)) (d := (some 7)) (k := 1) (by kernel_rfl) rfl (by kernel_rfl) hs42 rfl (by kernel_rfl) ?_
    exact ⟨rfl, _, updO_known hkn, rfl⟩
  ·refine Owe.heavy (by kernel_rfl) [(0, 1)] (by kernel_rfl) (all_cons ⟨by kernel_rfl, by kernel_rfl, ?_⟩ all_nil)
   ·intro ρ' w' hs hah hP
    obtain ⟨hvl45, hs44⟩ := hP
    have e7 := hah 1 7 (by kernel_rfl)
    have hkn : Known ρ' [(7, (.int .u32 pAddr1))] := ⟨e7, trivial⟩
    refine Step.known _ hkn ?_
    refine Step.callF (f := 17) (fo := (.func 17)) (xs := #[(.tmp 7)]) (tys := #[22]) (first := #[]) (captured := #[]) (d := (some 8)) (k := 2) (by kernel_rfl) rfl (by kernel_rfl) (by kernel_rfl) Tryd.call17 (L_syntax_Dots_walk  pAddr1 w' (laid_below hL (SP.keeps hs44)) z14 hz15) ?_
    rintro e w46 ⟨rfl, hs47⟩
    refine ⟨_, rfl, ?_⟩
    have hs48 := SP.call hs44 hs47
    clear hs47
    have hs49 : SP [] w0 w46 [boxE g3 24 #[(.int .u32 pAddr1), (.int .i64 pBits2)]] := hs48
    clear hs48
    refine ⟨_, updO_known hkn, rfl, ?_⟩
    exact (And.intro (And.intro rfl (trivial)) (hs49))
  ·refine Owe.light (by kernel_rfl) [1, 2] (by kernel_rfl) (all_cons ?_ (all_cons ?_ all_nil))
   ·intro ρ' w' hs hah hP
    obtain ⟨hvl52, hs50⟩ := hP
    obtain ⟨q51, -⟩ := hvl52
    have e8 : ρ' 8 = (.string ⟨List.toArray z14⟩) := (valF_eq (h := 2) (by kernel_rfl)).symm.trans q51
    have hkn : Known ρ' [(8, (.string ⟨List.toArray z14⟩))] := ⟨e8, trivial⟩
    refine Step.known _ hkn ?_
    refine Step.strCat (T := 9) (T' := 9) (x := (.tmp 8)) (y := (.const (.string ⟨List.toArray ([47] : List UInt8)⟩))) (a := z14) (b := ([47] : List UInt8)) (d := (some 9)) (k := 3) (by kernel_rfl) rfl (by kernel_rfl) (by kernel_rfl) hl21 ?_
    rw [hyl20]
    exact ⟨rfl, _, updO_known hkn, rfl⟩
   ·intro ρ' w' hs hah hP
    obtain ⟨hvl56, hs53⟩ := hP
    obtain ⟨q54, q55, -⟩ := hvl56
    have e8 : ρ' 8 = (.string ⟨List.toArray z14⟩) := (valF_eq (h := 2) (by kernel_rfl)).symm.trans q54
    have hkn : Known ρ' [(8, (.string ⟨List.toArray z14⟩))] := ⟨e8, trivial⟩
    refine Step.known _ hkn ?_
    refine Step.strCat (T := 9) (T' := 9) (x := (.tmp 8)) (y := (.const (.string ⟨List.toArray ([47] : List UInt8)⟩))) (a := z14) (b := ([47] : List UInt8)) (d := (some 9)) (k := 3) (by kernel_rfl) rfl (by kernel_rfl) (by kernel_rfl) hl21 ?_
    rw [hyl20]
    exact ⟨rfl, _, updO_known hkn, rfl⟩
  ·exact Owe.run (by kernel_rfl) [(1, (.pointer (some ⟨g3, 0, none⟩)))] ⟨gS (by kernel_rfl) (by kernel_rfl), trivial⟩ (.pointer (some ⟨g3, 1, none⟩)) (fun _ _ => by kernel_rfl) rfl
  ·refine Owe.light (by kernel_rfl) [0, 1] (by kernel_rfl) (all_cons ?_ (all_cons ?_ all_nil))
   ·intro ρ' w' hs hah hP
    obtain ⟨hvl58, hs57⟩ := hP
    have e10 := hah 4 10 (by kernel_rfl)
    have hkn : Known ρ' [(10, (.pointer (some ⟨g3, 1, none⟩)))] := ⟨e10, trivial⟩
    refine Step.known _ hkn ?_
    refine Step.load (t := 3) (x := (.tmp 10)) (g := g3) (off := 1) (i := 0) (v := (.int .i64 pBits2)) (d := (some 11)) (k := 5) (by kernel_rfl) rfl (by kernel_rfl) hs57 rfl (by kernel_rfl) ?_
    exact ⟨rfl, _, updO_known hkn, rfl⟩
   ·intro ρ' w' hs hah hP
    obtain ⟨hvl61, hs59⟩ := hP
    obtain ⟨q60, -⟩ := hvl61
    have e10 := hah 4 10 (by kernel_rfl)
    have hkn : Known ρ' [(10, (.pointer (some ⟨g3, 1, none⟩)))] := ⟨e10, trivial⟩
    refine Step.known _ hkn ?_
    refine Step.load (t := 3) (x := (.tmp 10)) (g := g3) (off := 1) (i := 0) (v := (.int .i64 pBits2)) (d := (some 11)) (k := 5) (by kernel_rfl) rfl (by kernel_rfl) hs59 rfl (by kernel_rfl) ?_
    exact ⟨rfl, _, updO_known hkn, rfl⟩
  ·refine Owe.heavy (by kernel_rfl) [(1, 2)] (by kernel_rfl) (all_cons ⟨by kernel_rfl, by kernel_rfl, ?_⟩ all_nil)
   ·intro ρ' w' hs hah hP
    obtain ⟨hvl64, hs62⟩ := hP
    obtain ⟨q63, -⟩ := hvl64
    have e11 := hah 5 11 (by kernel_rfl)
    have hkn : Known ρ' [(11, (.int .i64 pBits2))] := ⟨e11, trivial⟩
    refine Step.known _ hkn ?_
    refine Step.callF (f := 32) (fo := (.func 32)) (xs := #[(.tmp 11)]) (tys := #[2]) (first := #[]) (captured := #[]) (d := (some 12)) (k := 6) (by kernel_rfl) rfl (by kernel_rfl) (by kernel_rfl) Tryd.call32 (L_num_Decimal_walk  pBits2 w' (laid_below hL (SP.keeps hs62)) z22 hz23) ?_
    rintro e w65 ⟨rfl, hs66⟩
    refine ⟨_, rfl, ?_⟩
    have hs67 := SP.call hs62 hs66
    clear hs66
    have hs68 : SP [] w0 w65 [boxE g3 24 #[(.int .u32 pAddr1), (.int .i64 pBits2)]] := hs67
    clear hs67
    refine ⟨_, updO_known hkn, rfl, ?_⟩
    exact (And.intro (And.intro q63 (And.intro rfl (trivial))) (hs68))
  ·refine Owe.light (by kernel_rfl) [2] (by kernel_rfl) (all_cons ?_ all_nil)
   ·intro ρ' w' hs hah hP
    obtain ⟨hvl72, hs69⟩ := hP
    obtain ⟨q70, q71, -⟩ := hvl72
    have e9 := hah 3 9 (by kernel_rfl)
    have e12 : ρ' 12 = (.string ⟨List.toArray z22⟩) := (valF_eq (h := 6) (by kernel_rfl)).symm.trans q71
    have hkn : Known ρ' [(9, (.string ⟨List.toArray l20⟩)), (12, (.string ⟨List.toArray z22⟩))] := ⟨e9, e12, trivial⟩
    refine Step.known _ hkn ?_
    refine Step.strCat (T := 9) (T' := 9) (x := (.tmp 9)) (y := (.tmp 12)) (a := l20) (b := z22) (d := (some 13)) (k := 7) (by kernel_rfl) rfl (by kernel_rfl) (by kernel_rfl) hl29 ?_
    rw [hyl28]
    exact ⟨rfl, _, updO_known hkn, rfl⟩
  ·exact Owe.run (by kernel_rfl) [(13, (.string ⟨List.toArray l28⟩))] ⟨gA 7 (by kernel_rfl) (by kernel_rfl), trivial⟩ (.string ⟨List.toArray l28⟩) (fun _ _ => by kernel_rfl) rfl
  ·intro ρ' w' hs hf hP
   obtain ⟨hvl76, hs73⟩ := hP
   obtain ⟨q74, q75, -⟩ := hvl76
   have e2 := hf 8 2 (by kernel_rfl)
   refine postKnown [(2, (.string ⟨List.toArray l28⟩))] ⟨e2, trivial⟩ ?_
   obtain ⟨w77, hww77⟩ : ∃ x, w' = x := ⟨_, rfl⟩
   rw [hww77] at hs73 ⊢
   refine At.ret (by kernel_rfl) ?_
   refine ⟨(.string ⟨List.toArray l28⟩), by kernel_rfl, ?_⟩
   obtain rfl := some_elim H
   exact ⟨rfl, SP.sel hs73 [] rfl rfl⟩
/-! L_syntax_In -/
def L_syntax_In_k1 (v79 : Bool) : Option (Bool) :=
  (some (v79))
def L_syntax_In (pAddr1 : Int) (pBits2 : Int) (p3 : Int) : Option (Bool) :=
  ((L_syntax_right pAddr1 pBits2).bind fun z82 => (cond z82 ((L_syntax_mask pBits2).bind fun z89 => (L_syntax_In_k1 ((bAnd .u32 p3 z89) == pAddr1))) (L_syntax_In_k1 false)))
set_option maxRecDepth 100000 in
set_option maxHeartbeats 4000000 in
theorem L_syntax_In_walk  (pAddr1 : Int) (pBits2 : Int) (p3 : Int) (w0 : World)  (r : (Bool)) (H : L_syntax_In pAddr1 pBits2 p3 = some r) :
  Calls Tryd.prog 21 #[(.agg #[(.int .u32 pAddr1), (.int .i64 pBits2)]), (.int .u32 p3)] w0 (fun e w' => e = .returned (.bool r) ∧ SP [] w0 w' []) := by
 unfold L_syntax_In at H
 refine calls_start (n := 17) Tryd.func21 (by kernel_rfl) (by kernel_rfl) (by kernel_rfl) ?_
 have hs0 := SP.start [] w0
 refine At.seq (by kernel_rfl) (p0 := [false]) (p1 := [true]) rfl rfl ?_
 refine At.region (by kernel_rfl) (by kernel_rfl) ?_
 refine In.step (k' := 1) rfl (by kernel_rfl) ?_
 refine Step.box (t := 24) (x := (.tmp 0)) (v := (.agg #[(.int .u32 pAddr1), (.int .i64 pBits2)])) (d := (some 2)) (k := 0) (by kernel_rfl) rfl (by kernel_rfl) hs0 ?_
 intro g4 w5 hs6
 have hs7 : SP [] w0 w5 [boxE g4 24 #[(.int .u32 pAddr1), (.int .i64 pBits2)]] := hs6
 clear hs6
 refine In.run' 1 (k' := 2) rfl [(4, (.bool false))] (by kernel_rfl) ?_
 refine In.fin (by kernel_rfl) ?_
 refine At.seq (by kernel_rfl) (p0 := [true, false]) (p1 := [true, true]) rfl rfl ?_
 refine At.join (fun ρ w => ∃ (v79 : Bool), Known ρ [(4, (.bool v79))] ∧ SP [] w0 w [] ∧ L_syntax_In_k1 v79 = some r) ?_ ?_
 ·obtain ⟨z82, hz83, H⟩ := bind_elim H
  rcases Bool.eq_false_or_eq_true z82 with hb88 | hb88
  ·have H := ct H hb88
   obtain ⟨z89, hz90, H⟩ := bind_elim H
   refine At.stages (by kernel_rfl) (by kernel_rfl) (by kernel_rfl) (by kernel_rfl) (by kernel_rfl) [GEq (.agg #[(.int .u32 pAddr1), (.int .i64 pBits2)]), GEq (.bool z82), GEq (.bool z82), GEq (.int .u32 p3), GEq (.pointer (some ⟨g4, 1, none⟩)), GEq (.int .i64 pBits2), GEq (.int .u32 z89), GEq (.int .u32 (bAnd .u32 p3 z89)), GEq (.pointer (some ⟨g4, 0, none⟩)), GEq (.int .u32 pAddr1), GEq (.bool ((bAnd .u32 p3 z89) == pAddr1)), GEq (.bool ((bAnd .u32 p3 z89) == pAddr1)), GEq (.bool ((bAnd .u32 p3 z89) == pAddr1))] [1, 6] [([], fun vs w => VL vs [] ∧ SP [] w0 w [boxE g4 24 #[(.int .u32 pAddr1), (.int .i64 pBits2)]]), ([1], fun vs w => VL vs [(.bool z82)] ∧ SP [] w0 w [boxE g4 24 #[(.int .u32 pAddr1), (.int .i64 pBits2)]]), ([1, 6], fun vs w => VL vs [(.bool z82), (.int .u32 z89)] ∧ SP [] w0 w [boxE g4 24 #[(.int .u32 pAddr1), (.int .i64 pBits2)]])] (N := 13) (by kernel_rfl) ⟨by kernel_rfl, Nat.zero_lt_succ _⟩ (show VL [] [] ∧ SP [] w0 w5.drew [boxE g4 24 #[(.int .u32 pAddr1), (.int .i64 pBits2)]] from ⟨trivial, SP.drew hs7⟩) ⟨⟨⟨⟨⟨⟨⟨⟨⟨⟨⟨⟨⟨trivial, ?_⟩, ?_⟩, ?_⟩, ?_⟩, ?_⟩, ?_⟩, ?_⟩, ?_⟩, ?_⟩, ?_⟩, ?_⟩, ?_⟩, ?_⟩ (last := 2) (by kernel_rfl) ?_
   ·refine Owe.light (by kernel_rfl) [0] (by kernel_rfl) (all_cons ?_ all_nil)
    ·intro ρ' w' hs hah hP
     obtain ⟨hvl108, hs107⟩ := hP
     have e2 : ρ' 2 = (.pointer (some ⟨g4, 0, none⟩)) := (hs 2 (by kernel_rfl)).trans (by kernel_rfl)
     have hkn : Known ρ' [(2, (.pointer (some ⟨g4, 0, none⟩)))] := ⟨e2, trivial⟩
     refine Step.known _ hkn ?_
     refine Step.load (t := 24) (x := (.tmp 2)) (g := g4) (off := 0) (i := 0) (v := (.agg #[(.int .u32 pAddr1), (.int .i64 pBits2)])) (d := (some 5)) (k := 0) (by kernel_rfl) rfl (by kernel_rfl) hs107 rfl (by kernel_rfl) ?_
     exact ⟨rfl, _, updO_known hkn, rfl⟩
   ·refine Owe.heavy (by kernel_rfl) [(0, 1)] (by kernel_rfl) (all_cons ⟨by kernel_rfl, by kernel_rfl, ?_⟩ all_nil)
    ·intro ρ' w' hs hah hP
     obtain ⟨hvl110, hs109⟩ := hP
     have e5 := hah 0 5 (by kernel_rfl)
     have hkn : Known ρ' [(5, (.agg #[(.int .u32 pAddr1), (.int .i64 pBits2)]))] := ⟨e5, trivial⟩
     refine Step.known _ hkn ?_
     refine Step.callF (f := 29) (fo := (.func 29)) (xs := #[(.tmp 5)]) (tys := #[24]) (first := #[]) (captured := #[]) (d := (some 6)) (k := 1) (by kernel_rfl) rfl (by kernel_rfl) (by kernel_rfl) Tryd.call29 (L_syntax_right_walk  pAddr1 pBits2 w'  z82 hz83) ?_
     rintro e w111 ⟨rfl, hs112⟩
     refine ⟨_, rfl, ?_⟩
     have hs113 := SP.call hs109 hs112
     clear hs112
     have hs114 : SP [] w0 w111 [boxE g4 24 #[(.int .u32 pAddr1), (.int .i64 pBits2)]] := hs113
     clear hs113
     refine ⟨_, updO_known hkn, rfl, ?_⟩
     exact (And.intro (And.intro rfl (trivial)) (hs114))
   ·exact Owe.run (by kernel_rfl) [(6, (.bool z82))] ⟨gA 1 (by kernel_rfl) (by kernel_rfl), trivial⟩ (.bool z82) (fun _ _ => by kernel_rfl) rfl
   ·exact Owe.run (by kernel_rfl) [(1, (.int .u32 p3)), (7, (.bool true))] ⟨gS (by kernel_rfl) (by kernel_rfl), gB 2 (by kernel_rfl) z82 (by kernel_rfl) hb88, trivial⟩ (.int .u32 p3) (fun _ _ => by kernel_rfl) rfl
   ·exact Owe.run (by kernel_rfl) [(2, (.pointer (some ⟨g4, 0, none⟩))), (7, (.bool true))] ⟨gS (by kernel_rfl) (by kernel_rfl), gB 2 (by kernel_rfl) z82 (by kernel_rfl) hb88, trivial⟩ (.pointer (some ⟨g4, 1, none⟩)) (fun _ _ => by kernel_rfl) rfl
   ·refine Owe.light (by kernel_rfl) [1] (by kernel_rfl) (all_cons ?_ all_nil)
    ·intro ρ' w' hs hah hP
     obtain ⟨hvl117, hs115⟩ := hP
     obtain ⟨q116, -⟩ := hvl117
     have e9 := hah 4 9 (by kernel_rfl)
     have e7 := hah 2 7 (by kernel_rfl)
     have hkn : Known ρ' [(9, (.pointer (some ⟨g4, 1, none⟩))), (7, (.bool true))] := ⟨e9, (Eq.trans e7 (congrArg Value.bool hb88)), trivial⟩
     refine Step.known _ hkn ?_
     refine Step.load (t := 3) (x := (.tmp 9)) (g := g4) (off := 1) (i := 0) (v := (.int .i64 pBits2)) (d := (some 10)) (k := 5) (by kernel_rfl) rfl (by kernel_rfl) hs115 rfl (by kernel_rfl) ?_
     exact ⟨rfl, _, updO_known hkn, rfl⟩
   ·refine Owe.heavy (by kernel_rfl) [(1, 2)] (by kernel_rfl) (all_cons ⟨by kernel_rfl, by kernel_rfl, ?_⟩ all_nil)
    ·intro ρ' w' hs hah hP
     obtain ⟨hvl120, hs118⟩ := hP
     obtain ⟨q119, -⟩ := hvl120
     have e10 := hah 5 10 (by kernel_rfl)
     have e7 := hah 2 7 (by kernel_rfl)
     have hkn : Known ρ' [(10, (.int .i64 pBits2)), (7, (.bool true))] := ⟨e10, (Eq.trans e7 (congrArg Value.bool hb88)), trivial⟩
     refine Step.known _ hkn ?_
     refine Step.callF (f := 35) (fo := (.func 35)) (xs := #[(.tmp 10)]) (tys := #[3]) (first := #[]) (captured := #[]) (d := (some 11)) (k := 6) (by kernel_rfl) rfl (by kernel_rfl) (by kernel_rfl) Tryd.call35 (L_syntax_mask_walk  pBits2 w'  z89 hz90) ?_
     rintro e w121 ⟨rfl, hs122⟩
     refine ⟨_, rfl, ?_⟩
     have hs123 := SP.call hs118 hs122
     clear hs122
     have hs124 : SP [] w0 w121 [boxE g4 24 #[(.int .u32 pAddr1), (.int .i64 pBits2)]] := hs123
     clear hs123
     refine ⟨_, updO_known hkn, rfl, ?_⟩
     exact (And.intro (And.intro q119 (And.intro rfl (trivial))) (hs124))
   ·exact Owe.run (by kernel_rfl) [(8, (.int .u32 p3)), (11, (.int .u32 z89)), (7, (.bool true))] ⟨gA 3 (by kernel_rfl) (by kernel_rfl), gA 6 (by kernel_rfl) (by kernel_rfl), gB 2 (by kernel_rfl) z82 (by kernel_rfl) hb88, trivial⟩ (.int .u32 (bAnd .u32 p3 z89)) (fun _ _ => by kernel_rfl) rfl
   ·exact Owe.run (by kernel_rfl) [(2, (.pointer (some ⟨g4, 0, none⟩))), (7, (.bool true))] ⟨gS (by kernel_rfl) (by kernel_rfl), gB 2 (by kernel_rfl) z82 (by kernel_rfl) hb88, trivial⟩ (.pointer (some ⟨g4, 0, none⟩)) (fun _ _ => by kernel_rfl) rfl
   ·refine Owe.light (by kernel_rfl) [1, 2] (by kernel_rfl) (all_cons ?_ (all_cons ?_ all_nil))
    ·intro ρ' w' hs hah hP
     obtain ⟨hvl127, hs125⟩ := hP
     obtain ⟨q126, -⟩ := hvl127
     have e13 := hah 8 13 (by kernel_rfl)
     have e7 := hah 2 7 (by kernel_rfl)
     have hkn : Known ρ' [(13, (.pointer (some ⟨g4, 0, none⟩))), (7, (.bool true))] := ⟨e13, (Eq.trans e7 (congrArg Value.bool hb88)), trivial⟩
     refine Step.known _ hkn ?_
     refine Step.load (t := 22) (x := (.tmp 13)) (g := g4) (off := 0) (i := 0) (v := (.int .u32 pAddr1)) (d := (some 14)) (k := 9) (by kernel_rfl) rfl (by kernel_rfl) hs125 rfl (by kernel_rfl) ?_
     exact ⟨rfl, _, updO_known hkn, rfl⟩
    ·intro ρ' w' hs hah hP
     obtain ⟨hvl131, hs128⟩ := hP
     obtain ⟨q129, q130, -⟩ := hvl131
     have e13 := hah 8 13 (by kernel_rfl)
     have e7 := hah 2 7 (by kernel_rfl)
     have hkn : Known ρ' [(13, (.pointer (some ⟨g4, 0, none⟩))), (7, (.bool true))] := ⟨e13, (Eq.trans e7 (congrArg Value.bool hb88)), trivial⟩
     refine Step.known _ hkn ?_
     refine Step.load (t := 22) (x := (.tmp 13)) (g := g4) (off := 0) (i := 0) (v := (.int .u32 pAddr1)) (d := (some 14)) (k := 9) (by kernel_rfl) rfl (by kernel_rfl) hs128 rfl (by kernel_rfl) ?_
     exact ⟨rfl, _, updO_known hkn, rfl⟩
   ·exact Owe.run (by kernel_rfl) [(12, (.int .u32 (bAnd .u32 p3 z89))), (14, (.int .u32 pAddr1)), (7, (.bool true))] ⟨gA 7 (by kernel_rfl) (by kernel_rfl), gA 9 (by kernel_rfl) (by kernel_rfl), gB 2 (by kernel_rfl) z82 (by kernel_rfl) hb88, trivial⟩ (.bool ((bAnd .u32 p3 z89) == pAddr1)) (fun _ _ => by kernel_rfl) rfl
   ·exact Owe.run (by kernel_rfl) [(7, (.bool true)), (15, (.bool ((bAnd .u32 p3 z89) == pAddr1)))] ⟨gB 2 (by kernel_rfl) z82 (by kernel_rfl) hb88, gA 10 (by kernel_rfl) (by kernel_rfl), trivial⟩ (.bool ((bAnd .u32 p3 z89) == pAddr1)) (fun _ _ => by kernel_rfl) rfl
   ·exact Owe.run (by kernel_rfl) [(16, (.bool ((bAnd .u32 p3 z89) == pAddr1)))] ⟨gA 11 (by kernel_rfl) (by kernel_rfl), trivial⟩ (.bool ((bAnd .u32 p3 z89) == pAddr1)) (fun _ _ => by kernel_rfl) rfl
   ·intro ρ' w' hs hf hP
    obtain ⟨hvl135, hs132⟩ := hP
    obtain ⟨q133, q134, -⟩ := hvl135
    have e4 := hf 12 4 (by kernel_rfl)
    refine postKnown [(4, (.bool ((bAnd .u32 p3 z89) == pAddr1)))] ⟨e4, trivial⟩ ?_
    obtain ⟨w136, hww136⟩ : ∃ x, w' = x := ⟨_, rfl⟩
    rw [hww136] at hs132 ⊢
    exact ⟨((bAnd .u32 p3 z89) == pAddr1), ⟨(by kernel_rfl), trivial⟩, SP.sel hs132 [] rfl rfl, H⟩
  ·have H := cf H hb88
   refine At.stages (by kernel_rfl) (by kernel_rfl) (by kernel_rfl) (by kernel_rfl) (by kernel_rfl) [GEq (.agg #[(.int .u32 pAddr1), (.int .i64 pBits2)]), GEq (.bool z82), GEq (.bool z82), GEq undef, GEq undef, GEq undef, GEq undef, GEq undef, GEq undef, GEq undef, GEq undef, GEq (.bool false), GEq (.bool false)] [1] [([], fun vs w => VL vs [] ∧ SP [] w0 w [boxE g4 24 #[(.int .u32 pAddr1), (.int .i64 pBits2)]]), ([1], fun vs w => VL vs [(.bool z82)] ∧ SP [] w0 w [boxE g4 24 #[(.int .u32 pAddr1), (.int .i64 pBits2)]])] (N := 13) (by kernel_rfl) ⟨by kernel_rfl, Nat.zero_lt_succ _⟩ (show VL [] [] ∧ SP [] w0 w5.drew [boxE g4 24 #[(.int .u32 pAddr1), (.int .i64 pBits2)]] from ⟨trivial, SP.drew hs7⟩) ⟨⟨⟨⟨⟨⟨⟨⟨⟨⟨⟨⟨⟨trivial, ?_⟩, ?_⟩, ?_⟩, ?_⟩, ?_⟩, ?_⟩, ?_⟩, ?_⟩, ?_⟩, ?_⟩, ?_⟩, ?_⟩, ?_⟩ (last := 1) (by kernel_rfl) ?_
   ·refine Owe.light (by kernel_rfl) [0] (by kernel_rfl) (all_cons ?_ all_nil)
    ·intro ρ' w' hs hah hP
     obtain ⟨hvl142, hs141⟩ := hP
     have e2 : ρ' 2 = (.pointer (some ⟨g4, 0, none⟩)) := (hs 2 (by kernel_rfl)).trans (by kernel_rfl)
     have hkn : Known ρ' [(2, (.pointer (some ⟨g4, 0, none⟩)))] := ⟨e2, trivial⟩
     refine Step.known _ hkn ?_
     refine Step.load (t := 24) (x := (.tmp 2)) (g := g4) (off := 0) (i := 0) (v := (.agg #[(.int .u32 pAddr1), (.int .i64 pBits2)])) (d := (some 5)) (k := 0) (by kernel_rfl) rfl (by kernel_rfl) hs141 rfl (by kernel_rfl) ?_
     exact ⟨rfl, _, updO_known hkn, rfl⟩
   ·refine Owe.heavy (by kernel_rfl) [(0, 1)] (by kernel_rfl) (all_cons ⟨by kernel_rfl, by kernel_rfl, ?_⟩ all_nil)
    ·intro ρ' w' hs hah hP
     obtain ⟨hvl144, hs143⟩ := hP
     have e5 := hah 0 5 (by kernel_rfl)
     have hkn : Known ρ' [(5, (.agg #[(.int .u32 pAddr1), (.int .i64 pBits2)]))] := ⟨e5, trivial⟩
     refine Step.known _ hkn ?_
     refine Step.callF (f := 29) (fo := (.func 29)) (xs := #[(.tmp 5)]) (tys := #[24]) (first := #[]) (captured := #[]) (d := (some 6)) (k := 1) (by kernel_rfl) rfl (by kernel_rfl) (by kernel_rfl) Tryd.call29 (L_syntax_right_walk  pAddr1 pBits2 w'  z82 hz83) ?_
     rintro e w145 ⟨rfl, hs146⟩
     refine ⟨_, rfl, ?_⟩
     have hs147 := SP.call hs143 hs146
     clear hs146
     have hs148 : SP [] w0 w145 [boxE g4 24 #[(.int .u32 pAddr1), (.int .i64 pBits2)]] := hs147
     clear hs147
     refine ⟨_, updO_known hkn, rfl, ?_⟩
     exact (And.intro (And.intro rfl (trivial)) (hs148))
   ·exact Owe.run (by kernel_rfl) [(6, (.bool z82))] ⟨gA 1 (by kernel_rfl) (by kernel_rfl), trivial⟩ (.bool z82) (fun _ _ => by kernel_rfl) rfl
   ·exact Owe.skip (by kernel_rfl) [(7, (.bool false))] ⟨gB 2 (by kernel_rfl) z82 (by kernel_rfl) hb88, trivial⟩ (some 8) (fun _ => by kernel_rfl) (by kernel_rfl) rfl
   ·exact Owe.skip (by kernel_rfl) [(7, (.bool false))] ⟨gB 2 (by kernel_rfl) z82 (by kernel_rfl) hb88, trivial⟩ (some 9) (fun _ => by kernel_rfl) (by kernel_rfl) rfl
   ·exact Owe.skip (by kernel_rfl) [(7, (.bool false))] ⟨gB 2 (by kernel_rfl) z82 (by kernel_rfl) hb88, trivial⟩ (some 10) (fun _ => by kernel_rfl) (by kernel_rfl) rfl
   ·exact Owe.skip (by kernel_rfl) [(7, (.bool false))] ⟨gB 2 (by kernel_rfl) z82 (by kernel_rfl) hb88, trivial⟩ (some 11) (fun _ => by kernel_rfl) (by kernel_rfl) rfl
   ·exact Owe.skip (by kernel_rfl) [(7, (.bool false))] ⟨gB 2 (by kernel_rfl) z82 (by kernel_rfl) hb88, trivial⟩ (some 12) (fun _ => by kernel_rfl) (by kernel_rfl) rfl
   ·exact Owe.skip (by kernel_rfl) [(7, (.bool false))] ⟨gB 2 (by kernel_rfl) z82 (by kernel_rfl) hb88, trivial⟩ (some 13) (fun _ => by kernel_rfl) (by kernel_rfl) rfl
   ·exact Owe.skip (by kernel_rfl) [(7, (.bool false))] ⟨gB 2 (by kernel_rfl) z82 (by kernel_rfl) hb88, trivial⟩ (some 14) (fun _ => by kernel_rfl) (by kernel_rfl) rfl
   ·exact Owe.skip (by kernel_rfl) [(7, (.bool false))] ⟨gB 2 (by kernel_rfl) z82 (by kernel_rfl) hb88, trivial⟩ (some 15) (fun _ => by kernel_rfl) (by kernel_rfl) rfl
   ·exact Owe.run (by kernel_rfl) [(7, (.bool false)), (15, undef)] ⟨gB 2 (by kernel_rfl) z82 (by kernel_rfl) hb88, gA 10 (by kernel_rfl) (by kernel_rfl), trivial⟩ (.bool false) (fun _ _ => by kernel_rfl) rfl
   ·exact Owe.run (by kernel_rfl) [(16, (.bool false))] ⟨gA 11 (by kernel_rfl) (by kernel_rfl), trivial⟩ (.bool false) (fun _ _ => by kernel_rfl) rfl
   ·intro ρ' w' hs hf hP
    obtain ⟨hvl151, hs149⟩ := hP
    obtain ⟨q150, -⟩ := hvl151
    have e4 := hf 12 4 (by kernel_rfl)
    refine postKnown [(4, (.bool false))] ⟨e4, trivial⟩ ?_
    obtain ⟨w152, hww152⟩ : ∃ x, w' = x := ⟨_, rfl⟩
    rw [hww152] at hs149 ⊢
    exact ⟨false, ⟨(by kernel_rfl), trivial⟩, SP.sel hs149 [] rfl rfl, H⟩
 ·rintro ρ w80 ⟨v79, hk, hs81, H⟩
  unfold L_syntax_In_k1 at H
  refine At.known [(4, (.bool v79))] hk ?_
  refine At.ret (by kernel_rfl) ?_
  refine ⟨(.bool v79), by kernel_rfl, ?_⟩
  obtain rfl := some_elim H
  exact ⟨rfl, SP.sel hs81 [] rfl rfl⟩
end Go.Proofs.YthnakiihenbcjaaDoor
