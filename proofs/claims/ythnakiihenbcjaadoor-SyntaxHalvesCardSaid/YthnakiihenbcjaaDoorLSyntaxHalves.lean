/- LIFTED BY PROGRAM (tools/lift.py): what functions compute, and that they do. -/
import Derived.Test.YthnakiihenbcjaaDoorLSH
namespace Go.Proofs.YthnakiihenbcjaaDoor
set_option linter.unusedSimpArgs false
set_option linter.unusedVariables false
open Go.RowKit

/-! L_subwaylaw04_SyntaxHalves -/
def L_subwaylaw04_SyntaxHalves_k1 (v154 : Bool) : Option (Bool) :=
  (some (v154))
def L_subwaylaw04_SyntaxHalves (p1 : Int) (p2 : UInt8) (p3 : Int) : Option (Bool) :=
  ((L_subwaylaw04_head ).bind fun z4 => ((L_subwaylaw04_net p1 (IntKind.wrap .i64 (Int.tmod ((p2).toNat : Int) 32))).bind fun z10 => ((chk (decide (0 ≤ (IntKind.wrap .i64 (31 - (IntKind.wrap .i64 (Int.tmod ((p2).toNat : Int) 32))))))).bind fun _ => ((L_syntax_In z10.1 (IntKind.wrap .i64 ((IntKind.wrap .i64 (Int.tmod ((p2).toNat : Int) 32)) + 1)) p3).bind fun z76 => ((L_syntax_In (bOr .u32 z10.1 (bShl .u32 1 (IntKind.wrap .i64 (31 - (IntKind.wrap .i64 (Int.tmod ((p2).toNat : Int) 32)))))) (IntKind.wrap .i64 ((IntKind.wrap .i64 (Int.tmod ((p2).toNat : Int) 32)) + 1)) p3).bind fun z82 => (cond z4 ((L_syntax_In z10.1 z10.2 p3).bind fun z158 => (cond z76 (cond (z158 == true) (cond z76 (cond (!z82) ((L_syntax_In z10.1 z10.2 z10.1).bind fun z168 => (cond z168 ((L_syntax_In z10.1 z10.2 (bOr .u32 z10.1 (bShl .u32 1 (IntKind.wrap .i64 (31 - (IntKind.wrap .i64 (Int.tmod ((p2).toNat : Int) 32))))))).bind fun z175 => (L_subwaylaw04_SyntaxHalves_k1 z175)) (L_subwaylaw04_SyntaxHalves_k1 false))) (L_subwaylaw04_SyntaxHalves_k1 false)) ((L_syntax_In z10.1 z10.2 z10.1).bind fun z181 => (cond z181 ((L_syntax_In z10.1 z10.2 (bOr .u32 z10.1 (bShl .u32 1 (IntKind.wrap .i64 (31 - (IntKind.wrap .i64 (Int.tmod ((p2).toNat : Int) 32))))))).bind fun z188 => (L_subwaylaw04_SyntaxHalves_k1 z188)) (L_subwaylaw04_SyntaxHalves_k1 false)))) (L_subwaylaw04_SyntaxHalves_k1 false)) (cond (z158 == z82) (cond z76 (cond (!z82) ((L_syntax_In z10.1 z10.2 z10.1).bind fun z197 => (cond z197 ((L_syntax_In z10.1 z10.2 (bOr .u32 z10.1 (bShl .u32 1 (IntKind.wrap .i64 (31 - (IntKind.wrap .i64 (Int.tmod ((p2).toNat : Int) 32))))))).bind fun z204 => (L_subwaylaw04_SyntaxHalves_k1 z204)) (L_subwaylaw04_SyntaxHalves_k1 false))) (L_subwaylaw04_SyntaxHalves_k1 false)) ((L_syntax_In z10.1 z10.2 z10.1).bind fun z210 => (cond z210 ((L_syntax_In z10.1 z10.2 (bOr .u32 z10.1 (bShl .u32 1 (IntKind.wrap .i64 (31 - (IntKind.wrap .i64 (Int.tmod ((p2).toNat : Int) 32))))))).bind fun z217 => (L_subwaylaw04_SyntaxHalves_k1 z217)) (L_subwaylaw04_SyntaxHalves_k1 false)))) (L_subwaylaw04_SyntaxHalves_k1 false)))) (L_subwaylaw04_SyntaxHalves_k1 false)))))))
set_option maxRecDepth 100000 in
set_option maxHeartbeats 4000000 in
theorem L_subwaylaw04_SyntaxHalves_walk  (p1 : Int) (p2 : UInt8) (p3 : Int) (w0 : World) (hL : LaidW w0)  (r : (Bool)) (H : L_subwaylaw04_SyntaxHalves p1 p2 p3 = some r) :
  Calls Tryd.prog 8 #[(.int .u32 p1), (.int .u8 ((p2).toNat : Int)), (.int .u32 p3)] w0 (fun e w' => e = .returned (.bool r) ∧ SP [] w0 w' []) := by
 unfold L_subwaylaw04_SyntaxHalves at H
 refine calls_start (n := 71) Tryd.func8 (by kernel_rfl) (by kernel_rfl) (by kernel_rfl) ?_
 have hs0 := SP.start [] w0
 refine At.seq (by kernel_rfl) (p0 := [false]) (p1 := [true]) rfl rfl ?_
 refine At.region (by kernel_rfl) (by kernel_rfl) ?_
 refine In.run' 1 (k' := 1) rfl [(6, (.bool false))] (by kernel_rfl) ?_
 refine In.fin (by kernel_rfl) ?_
 refine At.seq (by kernel_rfl) (p0 := [true, false]) (p1 := [true, true]) rfl rfl ?_
 refine At.region (by kernel_rfl) (by kernel_rfl) ?_
 obtain ⟨z4, hz5, H⟩ := bind_elim H
 refine In.step (k' := 1) rfl (by kernel_rfl) ?_
 refine Step.callF (f := 10) (fo := (.func 10)) (xs := #[]) (tys := #[]) (first := #[]) (captured := #[]) (d := (some 14)) (k := 0) (by kernel_rfl) rfl (by kernel_rfl) (by kernel_rfl) Tryd.call10 (L_subwaylaw04_head_walk   w0 (laid_below hL (SP.keeps hs0)) z4 hz5) ?_
 rintro e w6 ⟨rfl, hs7⟩
 refine ⟨_, rfl, ?_⟩
 have hs8 := SP.call hs0 hs7
 clear hs7
 have hs9 : SP [] w0 w6 [] := hs8
 clear hs8
 refine In.run' 1 (k' := 2) rfl [(7, (.bool z4))] (by kernel_rfl) ?_
 refine In.fin (by kernel_rfl) ?_
 refine At.seq (by kernel_rfl) (p0 := [true, true, false]) (p1 := [true, true, true]) rfl rfl ?_
 refine At.region (by kernel_rfl) (by kernel_rfl) ?_
 refine In.run' 4 (k' := 4) rfl [(15, (.int .u8 ((p2).toNat : Int))), (16, (.int .u8 (Int.tmod ((p2).toNat : Int) 32))), (17, (.int .i64 (IntKind.wrap .i64 (Int.tmod ((p2).toNat : Int) 32)))), (8, (.int .i64 (IntKind.wrap .i64 (Int.tmod ((p2).toNat : Int) 32))))] (by kernel_rfl) ?_
 refine In.fin (by kernel_rfl) ?_
 refine At.seq (by kernel_rfl) (p0 := [true, true, true, false]) (p1 := [true, true, true, true]) rfl rfl ?_
 refine At.region (by kernel_rfl) (by kernel_rfl) ?_
 refine In.run' 2 (k' := 2) rfl [(18, (.int .u32 p1)), (19, (.int .i64 (IntKind.wrap .i64 (Int.tmod ((p2).toNat : Int) 32))))] (by kernel_rfl) ?_
 obtain ⟨z10, hz11, H⟩ := bind_elim H
 refine In.step (k' := 3) rfl (by kernel_rfl) ?_
 refine Step.callF (f := 23) (fo := (.func 23)) (xs := #[(.tmp 18), (.tmp 19)]) (tys := #[22, 3]) (first := #[]) (captured := #[]) (d := (some 20)) (k := 2) (by kernel_rfl) rfl (by kernel_rfl) (by kernel_rfl) Tryd.call23 (L_subwaylaw04_net_walk  p1 (IntKind.wrap .i64 (Int.tmod ((p2).toNat : Int) 32)) w6  z10 hz11) ?_
 rintro e w12 ⟨rfl, hs13⟩
 refine ⟨_, rfl, ?_⟩
 have hs14 := SP.call hs9 hs13
 clear hs13
 have hs15 : SP [] w0 w12 [] := hs14
 clear hs14
 refine In.step (k' := 4) rfl (by kernel_rfl) ?_
 refine Step.alloc (t := 24) (z := (.agg #[(.int .u32 0), (.int .i64 0)])) (d := (some 9)) (k := 3) (by kernel_rfl) rfl (by kernel_rfl) hs15 ?_
 intro g16 w17 hs18
 have hs19 : SP [] w0 w17 [boxE g16 24 #[(.int .u32 0), (.int .i64 0)]] := hs18
 clear hs18
 refine In.step (k' := 5) rfl (by kernel_rfl) ?_
 refine Step.store (t := 24) (x := (.tmp 9)) (y := (.tmp 20)) (g := g16) (off := 0) (i := 0) (v := (.agg #[(.int .u32 z10.1), (.int .i64 z10.2)])) (cs' := #[(.int .u32 z10.1), (.int .i64 z10.2)]) (d := none) (k := 4) (by kernel_rfl) rfl (by kernel_rfl) (by kernel_rfl) hs19 rfl (by kernel_rfl) ?_
 intro w20 hs21
 have hs22 : SP [] w0 w20 [boxE g16 24 #[(.int .u32 z10.1), (.int .i64 z10.2)]] := hs21
 clear hs21
 refine In.fin (by kernel_rfl) ?_
 refine At.seq (by kernel_rfl) (p0 := [true, true, true, true, false]) (p1 := [true, true, true, true, true]) rfl rfl ?_
 refine At.region (by kernel_rfl) (by kernel_rfl) ?_
 refine In.run' 1 (k' := 1) rfl [(21, (.pointer (some ⟨g16, 0, none⟩)))] (by kernel_rfl) ?_
 refine In.step (k' := 2) rfl (by kernel_rfl) ?_
 refine Step.load (t := 22) (x := (.tmp 21)) (g := g16) (off := 0) (i := 0) (v := (.int .u32 z10.1)) (d := (some 22)) (k := 1) (by kernel_rfl) rfl (by kernel_rfl) hs22 rfl (by kernel_rfl) ?_
 refine In.run' 3 (k' := 5) rfl [(23, (.int .i64 (IntKind.wrap .i64 (Int.tmod ((p2).toNat : Int) 32)))), (24, (.int .i64 (IntKind.wrap .i64 ((IntKind.wrap .i64 (Int.tmod ((p2).toNat : Int) 32)) + 1)))), (25, (.agg #[(.int .u32 z10.1), (.int .i64 (IntKind.wrap .i64 ((IntKind.wrap .i64 (Int.tmod ((p2).toNat : Int) 32)) + 1)))]))] (by kernel_rfl) ?_
 refine In.step (k' := 6) rfl (by kernel_rfl) ?_
 refine Step.alloc (t := 24) (z := (.agg #[(.int .u32 0), (.int .i64 0)])) (d := (some 10)) (k := 5) (by kernel_rfl) rfl (by kernel_rfl) hs22 ?_
 intro g23 w24 hs25
 have hs26 : SP [] w0 w24 [boxE g16 24 #[(.int .u32 z10.1), (.int .i64 z10.2)], boxE g23 24 #[(.int .u32 0), (.int .i64 0)]] := hs25
 clear hs25
 refine In.step (k' := 7) rfl (by kernel_rfl) ?_
 refine Step.store (t := 24) (x := (.tmp 10)) (y := (.tmp 25)) (g := g23) (off := 0) (i := 1) (v := (.agg #[(.int .u32 z10.1), (.int .i64 (IntKind.wrap .i64 ((IntKind.wrap .i64 (Int.tmod ((p2).toNat : Int) 32)) + 1)))])) (cs' := #[(.int .u32 z10.1), (.int .i64 (IntKind.wrap .i64 ((IntKind.wrap .i64 (Int.tmod ((p2).toNat : Int) 32)) + 1)))]) (d := none) (k := 6) (by kernel_rfl) rfl (by kernel_rfl) (by kernel_rfl) hs26 rfl (by kernel_rfl) ?_
 intro w27 hs28
 have hs29 : SP [] w0 w27 [boxE g16 24 #[(.int .u32 z10.1), (.int .i64 z10.2)], boxE g23 24 #[(.int .u32 z10.1), (.int .i64 (IntKind.wrap .i64 ((IntKind.wrap .i64 (Int.tmod ((p2).toNat : Int) 32)) + 1)))]] := hs28
 clear hs28
 refine In.fin (by kernel_rfl) ?_
 refine At.seq (by kernel_rfl) (p0 := [true, true, true, true, true, false]) (p1 := [true, true, true, true, true, true]) rfl rfl ?_
 obtain ⟨hl30, H⟩ := chk_elim H
 refine At.stages (by kernel_rfl) (by kernel_rfl) (by kernel_rfl) (by kernel_rfl) (by kernel_rfl) [GEq (.pointer (some ⟨g16, 0, none⟩)), GEq (.int .u32 z10.1), GEq (.int .i64 (IntKind.wrap .i64 (Int.tmod ((p2).toNat : Int) 32))), GEq (.int .i64 (IntKind.wrap .i64 (31 - (IntKind.wrap .i64 (Int.tmod ((p2).toNat : Int) 32))))), GEq (.int .u32 (bShl .u32 1 (IntKind.wrap .i64 (31 - (IntKind.wrap .i64 (Int.tmod ((p2).toNat : Int) 32)))))), GEq (.int .u32 (bOr .u32 z10.1 (bShl .u32 1 (IntKind.wrap .i64 (31 - (IntKind.wrap .i64 (Int.tmod ((p2).toNat : Int) 32))))))), GEq (.int .i64 (IntKind.wrap .i64 (Int.tmod ((p2).toNat : Int) 32))), GEq (.int .i64 (IntKind.wrap .i64 ((IntKind.wrap .i64 (Int.tmod ((p2).toNat : Int) 32)) + 1))), GEq (.agg #[(.int .u32 (bOr .u32 z10.1 (bShl .u32 1 (IntKind.wrap .i64 (31 - (IntKind.wrap .i64 (Int.tmod ((p2).toNat : Int) 32))))))), (.int .i64 (IntKind.wrap .i64 ((IntKind.wrap .i64 (Int.tmod ((p2).toNat : Int) 32)) + 1)))]), GAny, GAny] [9, 10] [([], fun vs w => VL vs [] ∧ SP [] w0 w [boxE g16 24 #[(.int .u32 z10.1), (.int .i64 z10.2)], boxE g23 24 #[(.int .u32 z10.1), (.int .i64 (IntKind.wrap .i64 ((IntKind.wrap .i64 (Int.tmod ((p2).toNat : Int) 32)) + 1)))]]), ([9], fun vs w => ∃ (g38 : Nat), VL vs [(.pointer (some ⟨g38, 0, none⟩))] ∧ SP [] w0 w [boxE g16 24 #[(.int .u32 z10.1), (.int .i64 z10.2)], boxE g23 24 #[(.int .u32 z10.1), (.int .i64 (IntKind.wrap .i64 ((IntKind.wrap .i64 (Int.tmod ((p2).toNat : Int) 32)) + 1)))], boxE g38 24 #[(.int .u32 0), (.int .i64 0)]]), ([9, 10], fun vs w => ∃ (g42 : Nat), VL vs [(.pointer (some ⟨g42, 0, none⟩)), undef] ∧ SP [] w0 w [boxE g16 24 #[(.int .u32 z10.1), (.int .i64 z10.2)], boxE g23 24 #[(.int .u32 z10.1), (.int .i64 (IntKind.wrap .i64 ((IntKind.wrap .i64 (Int.tmod ((p2).toNat : Int) 32)) + 1)))], boxE g42 24 #[(.int .u32 (bOr .u32 z10.1 (bShl .u32 1 (IntKind.wrap .i64 (31 - (IntKind.wrap .i64 (Int.tmod ((p2).toNat : Int) 32))))))), (.int .i64 (IntKind.wrap .i64 ((IntKind.wrap .i64 (Int.tmod ((p2).toNat : Int) 32)) + 1)))]])] (N := 11) (by kernel_rfl) ⟨by kernel_rfl, Nat.zero_lt_succ _⟩ (show VL [] [] ∧ SP [] w0 w27.drew [boxE g16 24 #[(.int .u32 z10.1), (.int .i64 z10.2)], boxE g23 24 #[(.int .u32 z10.1), (.int .i64 (IntKind.wrap .i64 ((IntKind.wrap .i64 (Int.tmod ((p2).toNat : Int) 32)) + 1)))]] from ⟨trivial, SP.drew hs29⟩) ⟨⟨⟨⟨⟨⟨⟨⟨⟨⟨⟨trivial, ?_⟩, ?_⟩, ?_⟩, ?_⟩, ?_⟩, ?_⟩, ?_⟩, ?_⟩, ?_⟩, ?_⟩, ?_⟩ (last := 2) (by kernel_rfl) ?_
 ·exact Owe.run (by kernel_rfl) [(9, (.pointer (some ⟨g16, 0, none⟩)))] ⟨gS (by kernel_rfl) (by kernel_rfl), trivial⟩ (.pointer (some ⟨g16, 0, none⟩)) (fun _ _ => by kernel_rfl) rfl
 ·refine Owe.light (by kernel_rfl) [0, 1] (by kernel_rfl) (all_cons ?_ (all_cons ?_ all_nil))
  ·intro ρ' w' hs hah hP
   obtain ⟨hvl50, hs49⟩ := hP
   have e26 := hah 0 26 (by kernel_rfl)
   have hkn : Known ρ' [(26, (.pointer (some ⟨g16, 0, none⟩)))] := ⟨e26, trivial⟩
   refine Step.known _ hkn ?_
   refine Step.load (t := 22) (x := (.tmp 26)) (g := g16) (off := 0) (i := 0) (v := (.int .u32 z10.1)) (d := (some 27)) (k := 1) (by kernel_rfl) rfl (by kernel_rfl) hs49 rfl (by kernel_rfl) ?_
   exact ⟨rfl, _, updO_known hkn, rfl⟩
  ·intro ρ' w' hs hah hP
   obtain ⟨g38, hvl53, hs51⟩ := hP
   obtain ⟨q52, -⟩ := hvl53
   have e26 := hah 0 26 (by kernel_rfl)
   have hkn : Known ρ' [(26, (.pointer (some ⟨g16, 0, none⟩)))] := ⟨e26, trivial⟩
   refine Step.known _ hkn ?_
   refine Step.load (t := 22) (x := (.tmp 26)) (g := g16) (off := 0) (i := 0) (v := (.int .u32 z10.1)) (d := (some 27)) (k := 1) (by kernel_rfl) rfl (by kernel_rfl) hs51 rfl (by kernel_rfl) ?_
   exact ⟨rfl, _, updO_known hkn, rfl⟩
 ·exact Owe.run (by kernel_rfl) [(8, (.int .i64 (IntKind.wrap .i64 (Int.tmod ((p2).toNat : Int) 32))))] ⟨gS (by kernel_rfl) (by kernel_rfl), trivial⟩ (.int .i64 (IntKind.wrap .i64 (Int.tmod ((p2).toNat : Int) 32))) (fun _ _ => by kernel_rfl) rfl
 ·exact Owe.run (by kernel_rfl) [(28, (.int .i64 (IntKind.wrap .i64 (Int.tmod ((p2).toNat : Int) 32))))] ⟨gA 2 (by kernel_rfl) (by kernel_rfl), trivial⟩ (.int .i64 (IntKind.wrap .i64 (31 - (IntKind.wrap .i64 (Int.tmod ((p2).toNat : Int) 32))))) (fun _ _ => by kernel_rfl) rfl
 ·refine Owe.light (by kernel_rfl) [0, 1] (by kernel_rfl) (all_cons ?_ (all_cons ?_ all_nil))
  ·intro ρ' w' hs hah hP
   obtain ⟨hvl55, hs54⟩ := hP
   have e29 := hah 3 29 (by kernel_rfl)
   have hkn : Known ρ' [(29, (.int .i64 (IntKind.wrap .i64 (31 - (IntKind.wrap .i64 (Int.tmod ((p2).toNat : Int) 32))))))] := ⟨e29, trivial⟩
   refine Step.known _ hkn ?_
   refine Step.shift (op := .shl) (T := 22) (T' := 3) (x := (.const (.int .u32 (1)))) (y := (.tmp 29)) (kx := .u32) (ky := .i64) (a := 1) (b := (IntKind.wrap .i64 (31 - (IntKind.wrap .i64 (Int.tmod ((p2).toNat : Int) 32))))) (v := (.int .u32 (bShl .u32 1 (IntKind.wrap .i64 (31 - (IntKind.wrap .i64 (Int.tmod ((p2).toNat : Int) 32))))))) (d := (some 30)) (k := 4) (by kernel_rfl) rfl (by kernel_rfl) (by kernel_rfl) (of_decide_eq_true hl30) rfl ?_
   exact ⟨rfl, _, updO_known hkn, rfl⟩
  ·intro ρ' w' hs hah hP
   obtain ⟨g38, hvl58, hs56⟩ := hP
   obtain ⟨q57, -⟩ := hvl58
   have e29 := hah 3 29 (by kernel_rfl)
   have hkn : Known ρ' [(29, (.int .i64 (IntKind.wrap .i64 (31 - (IntKind.wrap .i64 (Int.tmod ((p2).toNat : Int) 32))))))] := ⟨e29, trivial⟩
   refine Step.known _ hkn ?_
   refine Step.shift (op := .shl) (T := 22) (T' := 3) (x := (.const (.int .u32 (1)))) (y := (.tmp 29)) (kx := .u32) (ky := .i64) (a := 1) (b := (IntKind.wrap .i64 (31 - (IntKind.wrap .i64 (Int.tmod ((p2).toNat : Int) 32))))) (v := (.int .u32 (bShl .u32 1 (IntKind.wrap .i64 (31 - (IntKind.wrap .i64 (Int.tmod ((p2).toNat : Int) 32))))))) (d := (some 30)) (k := 4) (by kernel_rfl) rfl (by kernel_rfl) (by kernel_rfl) (of_decide_eq_true hl30) rfl ?_
   exact ⟨rfl, _, updO_known hkn, rfl⟩
 ·exact Owe.run (by kernel_rfl) [(27, (.int .u32 z10.1)), (30, (.int .u32 (bShl .u32 1 (IntKind.wrap .i64 (31 - (IntKind.wrap .i64 (Int.tmod ((p2).toNat : Int) 32)))))))] ⟨gA 1 (by kernel_rfl) (by kernel_rfl), gA 4 (by kernel_rfl) (by kernel_rfl), trivial⟩ (.int .u32 (bOr .u32 z10.1 (bShl .u32 1 (IntKind.wrap .i64 (31 - (IntKind.wrap .i64 (Int.tmod ((p2).toNat : Int) 32))))))) (fun _ _ => by kernel_rfl) rfl
 ·exact Owe.run (by kernel_rfl) [(8, (.int .i64 (IntKind.wrap .i64 (Int.tmod ((p2).toNat : Int) 32))))] ⟨gS (by kernel_rfl) (by kernel_rfl), trivial⟩ (.int .i64 (IntKind.wrap .i64 (Int.tmod ((p2).toNat : Int) 32))) (fun _ _ => by kernel_rfl) rfl
 ·exact Owe.run (by kernel_rfl) [(32, (.int .i64 (IntKind.wrap .i64 (Int.tmod ((p2).toNat : Int) 32))))] ⟨gA 6 (by kernel_rfl) (by kernel_rfl), trivial⟩ (.int .i64 (IntKind.wrap .i64 ((IntKind.wrap .i64 (Int.tmod ((p2).toNat : Int) 32)) + 1))) (fun _ _ => by kernel_rfl) rfl
 ·exact Owe.run (by kernel_rfl) [(31, (.int .u32 (bOr .u32 z10.1 (bShl .u32 1 (IntKind.wrap .i64 (31 - (IntKind.wrap .i64 (Int.tmod ((p2).toNat : Int) 32)))))))), (33, (.int .i64 (IntKind.wrap .i64 ((IntKind.wrap .i64 (Int.tmod ((p2).toNat : Int) 32)) + 1))))] ⟨gA 5 (by kernel_rfl) (by kernel_rfl), gA 7 (by kernel_rfl) (by kernel_rfl), trivial⟩ (.agg #[(.int .u32 (bOr .u32 z10.1 (bShl .u32 1 (IntKind.wrap .i64 (31 - (IntKind.wrap .i64 (Int.tmod ((p2).toNat : Int) 32))))))), (.int .i64 (IntKind.wrap .i64 ((IntKind.wrap .i64 (Int.tmod ((p2).toNat : Int) 32)) + 1)))]) (fun _ _ => by kernel_rfl) rfl
 ·refine Owe.heavy (by kernel_rfl) [(0, 1)] (by kernel_rfl) (all_cons ⟨by kernel_rfl, by kernel_rfl, ?_⟩ all_nil)
  ·intro ρ' w' hs hah hP
   obtain ⟨hvl60, hs59⟩ := hP
   have hkn : Known ρ' [] := trivial
   refine Step.known _ hkn ?_
   refine Step.alloc (t := 24) (z := (.agg #[(.int .u32 0), (.int .i64 0)])) (d := (some 11)) (k := 9) (by kernel_rfl) rfl (by kernel_rfl) hs59 ?_
   intro g61 w62 hs63
   have hs64 : SP [] w0 w62 [boxE g16 24 #[(.int .u32 z10.1), (.int .i64 z10.2)], boxE g23 24 #[(.int .u32 z10.1), (.int .i64 (IntKind.wrap .i64 ((IntKind.wrap .i64 (Int.tmod ((p2).toNat : Int) 32)) + 1)))], boxE g61 24 #[(.int .u32 0), (.int .i64 0)]] := hs63
   clear hs63
   refine ⟨_, updO_known hkn, trivial, ?_⟩
   exact (Exists.intro g61 (And.intro (And.intro rfl (trivial)) (hs64)))
 ·refine Owe.heavy (by kernel_rfl) [(1, 2)] (by kernel_rfl) (all_cons ⟨by kernel_rfl, by kernel_rfl, ?_⟩ all_nil)
  ·intro ρ' w' hs hah hP
   obtain ⟨g38, hvl67, hs65⟩ := hP
   obtain ⟨q66, -⟩ := hvl67
   have e11 : ρ' 11 = (.pointer (some ⟨g38, 0, none⟩)) := (valF_eq (h := 9) (by kernel_rfl)).symm.trans q66
   have e34 := hah 8 34 (by kernel_rfl)
   have hkn : Known ρ' [(11, (.pointer (some ⟨g38, 0, none⟩))), (34, (.agg #[(.int .u32 (bOr .u32 z10.1 (bShl .u32 1 (IntKind.wrap .i64 (31 - (IntKind.wrap .i64 (Int.tmod ((p2).toNat : Int) 32))))))), (.int .i64 (IntKind.wrap .i64 ((IntKind.wrap .i64 (Int.tmod ((p2).toNat : Int) 32)) + 1)))]))] := ⟨e11, e34, trivial⟩
   refine Step.known _ hkn ?_
   refine Step.store (t := 24) (x := (.tmp 11)) (y := (.tmp 34)) (g := g38) (off := 0) (i := 2) (v := (.agg #[(.int .u32 (bOr .u32 z10.1 (bShl .u32 1 (IntKind.wrap .i64 (31 - (IntKind.wrap .i64 (Int.tmod ((p2).toNat : Int) 32))))))), (.int .i64 (IntKind.wrap .i64 ((IntKind.wrap .i64 (Int.tmod ((p2).toNat : Int) 32)) + 1)))])) (cs' := #[(.int .u32 (bOr .u32 z10.1 (bShl .u32 1 (IntKind.wrap .i64 (31 - (IntKind.wrap .i64 (Int.tmod ((p2).toNat : Int) 32))))))), (.int .i64 (IntKind.wrap .i64 ((IntKind.wrap .i64 (Int.tmod ((p2).toNat : Int) 32)) + 1)))]) (d := none) (k := 10) (by kernel_rfl) rfl (by kernel_rfl) (by kernel_rfl) hs65 rfl (by kernel_rfl) ?_
   intro w68 hs69
   have hs70 : SP [] w0 w68 [boxE g16 24 #[(.int .u32 z10.1), (.int .i64 z10.2)], boxE g23 24 #[(.int .u32 z10.1), (.int .i64 (IntKind.wrap .i64 ((IntKind.wrap .i64 (Int.tmod ((p2).toNat : Int) 32)) + 1)))], boxE g38 24 #[(.int .u32 (bOr .u32 z10.1 (bShl .u32 1 (IntKind.wrap .i64 (31 - (IntKind.wrap .i64 (Int.tmod ((p2).toNat : Int) 32))))))), (.int .i64 (IntKind.wrap .i64 ((IntKind.wrap .i64 (Int.tmod ((p2).toNat : Int) 32)) + 1)))]] := hs69
   clear hs69
   refine ⟨_, updO_known hkn, trivial, ?_⟩
   exact (Exists.intro g38 (And.intro (And.intro q66 (And.intro rfl (trivial))) (hs70)))
 ·intro ρ' w' hs hf hP
  obtain ⟨g42, hvl74, hs71⟩ := hP
  obtain ⟨q72, q73, -⟩ := hvl74
  have e2 : ρ' 2 = (.int .u32 p3) := (hs 2 (by kernel_rfl)).trans (by kernel_rfl)
  have e7 : ρ' 7 = (.bool z4) := (hs 7 (by kernel_rfl)).trans (by kernel_rfl)
  have e9 : ρ' 9 = (.pointer (some ⟨g16, 0, none⟩)) := (hs 9 (by kernel_rfl)).trans (by kernel_rfl)
  have e10 : ρ' 10 = (.pointer (some ⟨g23, 0, none⟩)) := (hs 10 (by kernel_rfl)).trans (by kernel_rfl)
  have e11 : ρ' 11 = (.pointer (some ⟨g42, 0, none⟩)) := (valF_eq (h := 9) (by kernel_rfl)).symm.trans q72
  refine postKnown [(2, (.int .u32 p3)), (7, (.bool z4)), (9, (.pointer (some ⟨g16, 0, none⟩))), (10, (.pointer (some ⟨g23, 0, none⟩))), (11, (.pointer (some ⟨g42, 0, none⟩)))] ⟨e2, e7, e9, e10, e11, trivial⟩ ?_
  obtain ⟨w75, hww75⟩ : ∃ x, w' = x := ⟨_, rfl⟩
  rw [hww75] at hs71 ⊢
  refine At.seq (by kernel_rfl) (p0 := [true, true, true, true, true, true, false]) (p1 := [true, true, true, true, true, true, true]) rfl rfl ?_
  refine At.region (by kernel_rfl) (by kernel_rfl) ?_
  refine In.step (k' := 1) rfl (by kernel_rfl) ?_
  refine Step.load (t := 24) (x := (.tmp 10)) (g := g23) (off := 0) (i := 1) (v := (.agg #[(.int .u32 z10.1), (.int .i64 (IntKind.wrap .i64 ((IntKind.wrap .i64 (Int.tmod ((p2).toNat : Int) 32)) + 1)))])) (d := (some 35)) (k := 0) (by kernel_rfl) rfl (by kernel_rfl) hs71 rfl (by kernel_rfl) ?_
  refine In.run' 1 (k' := 2) rfl [(36, (.int .u32 p3))] (by kernel_rfl) ?_
  obtain ⟨z76, hz77, H⟩ := bind_elim H
  refine In.step (k' := 3) rfl (by kernel_rfl) ?_
  refine Step.callF (f := 21) (fo := (.func 21)) (xs := #[(.tmp 35), (.tmp 36)]) (tys := #[24, 22]) (first := #[]) (captured := #[]) (d := (some 37)) (k := 2) (by kernel_rfl) rfl (by kernel_rfl) (by kernel_rfl) Tryd.call21 (L_syntax_In_walk  z10.1 (IntKind.wrap .i64 ((IntKind.wrap .i64 (Int.tmod ((p2).toNat : Int) 32)) + 1)) p3 w75  z76 hz77) ?_
  rintro e w78 ⟨rfl, hs79⟩
  refine ⟨_, rfl, ?_⟩
  have hs80 := SP.call hs71 hs79
  clear hs79
  have hs81 : SP [] w0 w78 [boxE g16 24 #[(.int .u32 z10.1), (.int .i64 z10.2)], boxE g23 24 #[(.int .u32 z10.1), (.int .i64 (IntKind.wrap .i64 ((IntKind.wrap .i64 (Int.tmod ((p2).toNat : Int) 32)) + 1)))], boxE g42 24 #[(.int .u32 (bOr .u32 z10.1 (bShl .u32 1 (IntKind.wrap .i64 (31 - (IntKind.wrap .i64 (Int.tmod ((p2).toNat : Int) 32))))))), (.int .i64 (IntKind.wrap .i64 ((IntKind.wrap .i64 (Int.tmod ((p2).toNat : Int) 32)) + 1)))]] := hs80
  clear hs80
  refine In.run' 1 (k' := 4) rfl [(12, (.bool z76))] (by kernel_rfl) ?_
  refine In.fin (by kernel_rfl) ?_
  refine At.seq (by kernel_rfl) (p0 := [true, true, true, true, true, true, true, false]) (p1 := [true, true, true, true, true, true, true, true]) rfl rfl ?_
  refine At.region (by kernel_rfl) (by kernel_rfl) ?_
  refine In.step (k' := 1) rfl (by kernel_rfl) ?_
  refine Step.load (t := 24) (x := (.tmp 11)) (g := g42) (off := 0) (i := 2) (v := (.agg #[(.int .u32 (bOr .u32 z10.1 (bShl .u32 1 (IntKind.wrap .i64 (31 - (IntKind.wrap .i64 (Int.tmod ((p2).toNat : Int) 32))))))), (.int .i64 (IntKind.wrap .i64 ((IntKind.wrap .i64 (Int.tmod ((p2).toNat : Int) 32)) + 1)))])) (d := (some 38)) (k := 0) (by kernel_rfl) rfl (by kernel_rfl) hs81 rfl (by kernel_rfl) ?_
  refine In.run' 1 (k' := 2) rfl [(39, (.int .u32 p3))] (by kernel_rfl) ?_
  obtain ⟨z82, hz83, H⟩ := bind_elim H
  refine In.step (k' := 3) rfl (by kernel_rfl) ?_
  refine Step.callF (f := 21) (fo := (.func 21)) (xs := #[(.tmp 38), (.tmp 39)]) (tys := #[24, 22]) (first := #[]) (captured := #[]) (d := (some 40)) (k := 2) (by kernel_rfl) rfl (by kernel_rfl) (by kernel_rfl) Tryd.call21 (L_syntax_In_walk  (bOr .u32 z10.1 (bShl .u32 1 (IntKind.wrap .i64 (31 - (IntKind.wrap .i64 (Int.tmod ((p2).toNat : Int) 32)))))) (IntKind.wrap .i64 ((IntKind.wrap .i64 (Int.tmod ((p2).toNat : Int) 32)) + 1)) p3 w78  z82 hz83) ?_
  rintro e w84 ⟨rfl, hs85⟩
  refine ⟨_, rfl, ?_⟩
  have hs86 := SP.call hs81 hs85
  clear hs85
  have hs87 : SP [] w0 w84 [boxE g16 24 #[(.int .u32 z10.1), (.int .i64 z10.2)], boxE g23 24 #[(.int .u32 z10.1), (.int .i64 (IntKind.wrap .i64 ((IntKind.wrap .i64 (Int.tmod ((p2).toNat : Int) 32)) + 1)))], boxE g42 24 #[(.int .u32 (bOr .u32 z10.1 (bShl .u32 1 (IntKind.wrap .i64 (31 - (IntKind.wrap .i64 (Int.tmod ((p2).toNat : Int) 32))))))), (.int .i64 (IntKind.wrap .i64 ((IntKind.wrap .i64 (Int.tmod ((p2).toNat : Int) 32)) + 1)))]] := hs86
  clear hs86
  refine In.run' 1 (k' := 4) rfl [(13, (.bool z82))] (by kernel_rfl) ?_
  refine In.fin (by kernel_rfl) ?_
  refine At.seq (by kernel_rfl) (p0 := [true, true, true, true, true, true, true, true, false]) (p1 := [true, true, true, true, true, true, true, true, true]) rfl rfl ?_
  refine At.join (fun ρ w => ∃ (v154 : Bool), Known ρ [(6, (.bool v154))] ∧ SP [] w0 w [] ∧ L_subwaylaw04_SyntaxHalves_k1 v154 = some r) ?_ ?_
  ·refine At.region (by kernel_rfl) (by kernel_rfl) ?_
   refine In.run' 2 (k' := 2) rfl [(41, (.bool z4)), (42, (.bool z4))] (by kernel_rfl) ?_
   refine In.guard (t := 42) (b := z4) (by kernel_rfl) (fun hb157 => ?_) (fun hb157 => ?_)
   ·have H := ct H hb157
    refine In.step (k' := 3) rfl (by kernel_rfl) ?_
    refine Step.load (t := 24) (x := (.tmp 9)) (g := g16) (off := 0) (i := 0) (v := (.agg #[(.int .u32 z10.1), (.int .i64 z10.2)])) (d := (some 43)) (k := 2) (by kernel_rfl) rfl (by kernel_rfl) hs87 rfl (by kernel_rfl) ?_
    refine In.run' 1 (k' := 4) rfl [(44, (.int .u32 p3))] (by kernel_rfl) ?_
    obtain ⟨z158, hz159, H⟩ := bind_elim H
    refine In.step (k' := 5) rfl (by kernel_rfl) ?_
    refine Step.callF (f := 21) (fo := (.func 21)) (xs := #[(.tmp 43), (.tmp 44)]) (tys := #[24, 22]) (first := #[]) (captured := #[]) (d := (some 45)) (k := 4) (by kernel_rfl) rfl (by kernel_rfl) (by kernel_rfl) Tryd.call21 (L_syntax_In_walk  z10.1 z10.2 p3 w84  z158 hz159) ?_
    rintro e w160 ⟨rfl, hs161⟩
    refine ⟨_, rfl, ?_⟩
    have hs162 := SP.call hs87 hs161
    clear hs161
    have hs163 : SP [] w0 w160 [boxE g16 24 #[(.int .u32 z10.1), (.int .i64 z10.2)], boxE g23 24 #[(.int .u32 z10.1), (.int .i64 (IntKind.wrap .i64 ((IntKind.wrap .i64 (Int.tmod ((p2).toNat : Int) 32)) + 1)))], boxE g42 24 #[(.int .u32 (bOr .u32 z10.1 (bShl .u32 1 (IntKind.wrap .i64 (31 - (IntKind.wrap .i64 (Int.tmod ((p2).toNat : Int) 32))))))), (.int .i64 (IntKind.wrap .i64 ((IntKind.wrap .i64 (Int.tmod ((p2).toNat : Int) 32)) + 1)))]] := hs162
    clear hs162
    refine In.run' 2 (k' := 7) rfl [(46, (.bool z76)), (47, (.bool z76))] (by kernel_rfl) ?_
    refine In.guard (t := 47) (b := z76) (by kernel_rfl) (fun hb164 => ?_) (fun hb164 => ?_)
    ·have H := ct H hb164
     refine In.run' 5 (k' := 12) rfl [(48, undef), (49, (.bool true)), (50, (.bool (z158 == true))), (51, (.bool (z158 == true))), (52, (.bool (z158 == true)))] (by kernel_rfl) ?_
     refine In.guard (t := 52) (b := (z158 == true)) (by kernel_rfl) (fun hb165 => ?_) (fun hb165 => ?_)
     ·have H := ct H hb165
      refine In.run' 2 (k' := 14) rfl [(53, (.bool z76)), (54, (.bool z76))] (by kernel_rfl) ?_
      refine In.guard (t := 54) (b := z76) (by kernel_rfl) (fun hb166 => ?_) (fun hb166 => ?_)
      ·have H := ct H hb166
       refine In.run' 5 (k' := 19) rfl [(55, (.bool z82)), (56, (.bool z82)), (57, (.bool (!z82))), (58, (.bool (!z82))), (59, (.bool (!z82)))] (by kernel_rfl) ?_
       refine In.guard (t := 59) (b := (!z82)) (by kernel_rfl) (fun hb167 => ?_) (fun hb167 => ?_)
       ·have H := ct H hb167
        refine In.step (k' := 20) rfl (by kernel_rfl) ?_
        refine Step.load (t := 24) (x := (.tmp 9)) (g := g16) (off := 0) (i := 0) (v := (.agg #[(.int .u32 z10.1), (.int .i64 z10.2)])) (d := (some 60)) (k := 19) (by kernel_rfl) rfl (by kernel_rfl) hs163 rfl (by kernel_rfl) ?_
        refine In.run' 1 (k' := 21) rfl [(61, (.pointer (some ⟨g23, 0, none⟩)))] (by kernel_rfl) ?_
        refine In.step (k' := 22) rfl (by kernel_rfl) ?_
        refine Step.load (t := 22) (x := (.tmp 61)) (g := g23) (off := 0) (i := 1) (v := (.int .u32 z10.1)) (d := (some 62)) (k := 21) (by kernel_rfl) rfl (by kernel_rfl) hs163 rfl (by kernel_rfl) ?_
        obtain ⟨z168, hz169, H⟩ := bind_elim H
        refine In.step (k' := 23) rfl (by kernel_rfl) ?_
        refine Step.callF (f := 21) (fo := (.func 21)) (xs := #[(.tmp 60), (.tmp 62)]) (tys := #[24, 22]) (first := #[]) (captured := #[]) (d := (some 63)) (k := 22) (by kernel_rfl) rfl (by kernel_rfl) (by kernel_rfl) Tryd.call21 (L_syntax_In_walk  z10.1 z10.2 z10.1 w160  z168 hz169) ?_
        rintro e w170 ⟨rfl, hs171⟩
        refine ⟨_, rfl, ?_⟩
        have hs172 := SP.call hs163 hs171
        clear hs171
        have hs173 : SP [] w0 w170 [boxE g16 24 #[(.int .u32 z10.1), (.int .i64 z10.2)], boxE g23 24 #[(.int .u32 z10.1), (.int .i64 (IntKind.wrap .i64 ((IntKind.wrap .i64 (Int.tmod ((p2).toNat : Int) 32)) + 1)))], boxE g42 24 #[(.int .u32 (bOr .u32 z10.1 (bShl .u32 1 (IntKind.wrap .i64 (31 - (IntKind.wrap .i64 (Int.tmod ((p2).toNat : Int) 32))))))), (.int .i64 (IntKind.wrap .i64 ((IntKind.wrap .i64 (Int.tmod ((p2).toNat : Int) 32)) + 1)))]] := hs172
        clear hs172
        refine In.run' 2 (k' := 25) rfl [(64, (.bool z168)), (65, (.bool z168))] (by kernel_rfl) ?_
        refine In.guard (t := 65) (b := z168) (by kernel_rfl) (fun hb174 => ?_) (fun hb174 => ?_)
        ·have H := ct H hb174
         refine In.step (k' := 26) rfl (by kernel_rfl) ?_
         refine Step.load (t := 24) (x := (.tmp 9)) (g := g16) (off := 0) (i := 0) (v := (.agg #[(.int .u32 z10.1), (.int .i64 z10.2)])) (d := (some 66)) (k := 25) (by kernel_rfl) rfl (by kernel_rfl) hs173 rfl (by kernel_rfl) ?_
         refine In.run' 1 (k' := 27) rfl [(67, (.pointer (some ⟨g42, 0, none⟩)))] (by kernel_rfl) ?_
         refine In.step (k' := 28) rfl (by kernel_rfl) ?_
         refine Step.load (t := 22) (x := (.tmp 67)) (g := g42) (off := 0) (i := 2) (v := (.int .u32 (bOr .u32 z10.1 (bShl .u32 1 (IntKind.wrap .i64 (31 - (IntKind.wrap .i64 (Int.tmod ((p2).toNat : Int) 32)))))))) (d := (some 68)) (k := 27) (by kernel_rfl) rfl (by kernel_rfl) hs173 rfl (by kernel_rfl) ?_
         obtain ⟨z175, hz176, H⟩ := bind_elim H
         refine In.step (k' := 29) rfl (by kernel_rfl) ?_
         refine Step.callF (f := 21) (fo := (.func 21)) (xs := #[(.tmp 66), (.tmp 68)]) (tys := #[24, 22]) (first := #[]) (captured := #[]) (d := (some 69)) (k := 28) (by kernel_rfl) rfl (by kernel_rfl) (by kernel_rfl) Tryd.call21 (L_syntax_In_walk  z10.1 z10.2 (bOr .u32 z10.1 (bShl .u32 1 (IntKind.wrap .i64 (31 - (IntKind.wrap .i64 (Int.tmod ((p2).toNat : Int) 32)))))) w170  z175 hz176) ?_
         rintro e w177 ⟨rfl, hs178⟩
         refine ⟨_, rfl, ?_⟩
         have hs179 := SP.call hs173 hs178
         clear hs178
         have hs180 : SP [] w0 w177 [boxE g16 24 #[(.int .u32 z10.1), (.int .i64 z10.2)], boxE g23 24 #[(.int .u32 z10.1), (.int .i64 (IntKind.wrap .i64 ((IntKind.wrap .i64 (Int.tmod ((p2).toNat : Int) 32)) + 1)))], boxE g42 24 #[(.int .u32 (bOr .u32 z10.1 (bShl .u32 1 (IntKind.wrap .i64 (31 - (IntKind.wrap .i64 (Int.tmod ((p2).toNat : Int) 32))))))), (.int .i64 (IntKind.wrap .i64 ((IntKind.wrap .i64 (Int.tmod ((p2).toNat : Int) 32)) + 1)))]] := hs179
         clear hs179
         refine In.run' 2 (k' := 31) rfl [(70, (.bool z175)), (6, (.bool z175))] (by kernel_rfl) ?_
         refine In.fin (by kernel_rfl) ?_
         exact ⟨z175, ⟨(by kernel_rfl), trivial⟩, SP.sel hs180 [] rfl rfl, H⟩
        ·have H := cf H hb174
         refine In.run' 6 (k' := 31) rfl [(66, undef), (67, undef), (68, undef), (69, undef), (70, (.bool false)), (6, (.bool false))] (by kernel_rfl) ?_
         refine In.fin (by kernel_rfl) ?_
         exact ⟨false, ⟨(by kernel_rfl), trivial⟩, SP.sel hs173 [] rfl rfl, H⟩
       ·have H := cf H hb167
        refine In.run' 12 (k' := 31) rfl [(60, undef), (61, undef), (62, undef), (63, undef), (64, (.bool false)), (65, (.bool false)), (66, undef), (67, undef), (68, undef), (69, undef), (70, (.bool false)), (6, (.bool false))] (by kernel_rfl) ?_
        refine In.fin (by kernel_rfl) ?_
        exact ⟨false, ⟨(by kernel_rfl), trivial⟩, SP.sel hs163 [] rfl rfl, H⟩
      ·have H := cf H hb166
       refine In.run' 5 (k' := 19) rfl [(55, undef), (56, (.bool false)), (57, (.bool true)), (58, (.bool true)), (59, (.bool true))] (by kernel_rfl) ?_
       refine In.step (k' := 20) rfl (by kernel_rfl) ?_
       refine Step.load (t := 24) (x := (.tmp 9)) (g := g16) (off := 0) (i := 0) (v := (.agg #[(.int .u32 z10.1), (.int .i64 z10.2)])) (d := (some 60)) (k := 19) (by kernel_rfl) rfl (by kernel_rfl) hs163 rfl (by kernel_rfl) ?_
       refine In.run' 1 (k' := 21) rfl [(61, (.pointer (some ⟨g23, 0, none⟩)))] (by kernel_rfl) ?_
       refine In.step (k' := 22) rfl (by kernel_rfl) ?_
       refine Step.load (t := 22) (x := (.tmp 61)) (g := g23) (off := 0) (i := 1) (v := (.int .u32 z10.1)) (d := (some 62)) (k := 21) (by kernel_rfl) rfl (by kernel_rfl) hs163 rfl (by kernel_rfl) ?_
       obtain ⟨z181, hz182, H⟩ := bind_elim H
       refine In.step (k' := 23) rfl (by kernel_rfl) ?_
       refine Step.callF (f := 21) (fo := (.func 21)) (xs := #[(.tmp 60), (.tmp 62)]) (tys := #[24, 22]) (first := #[]) (captured := #[]) (d := (some 63)) (k := 22) (by kernel_rfl) rfl (by kernel_rfl) (by kernel_rfl) Tryd.call21 (L_syntax_In_walk  z10.1 z10.2 z10.1 w160  z181 hz182) ?_
       rintro e w183 ⟨rfl, hs184⟩
       refine ⟨_, rfl, ?_⟩
       have hs185 := SP.call hs163 hs184
       clear hs184
       have hs186 : SP [] w0 w183 [boxE g16 24 #[(.int .u32 z10.1), (.int .i64 z10.2)], boxE g23 24 #[(.int .u32 z10.1), (.int .i64 (IntKind.wrap .i64 ((IntKind.wrap .i64 (Int.tmod ((p2).toNat : Int) 32)) + 1)))], boxE g42 24 #[(.int .u32 (bOr .u32 z10.1 (bShl .u32 1 (IntKind.wrap .i64 (31 - (IntKind.wrap .i64 (Int.tmod ((p2).toNat : Int) 32))))))), (.int .i64 (IntKind.wrap .i64 ((IntKind.wrap .i64 (Int.tmod ((p2).toNat : Int) 32)) + 1)))]] := hs185
       clear hs185
       refine In.run' 2 (k' := 25) rfl [(64, (.bool z181)), (65, (.bool z181))] (by kernel_rfl) ?_
       refine In.guard (t := 65) (b := z181) (by kernel_rfl) (fun hb187 => ?_) (fun hb187 => ?_)
       ·have H := ct H hb187
        refine In.step (k' := 26) rfl (by kernel_rfl) ?_
        refine Step.load (t := 24) (x := (.tmp 9)) (g := g16) (off := 0) (i := 0) (v := (.agg #[(.int .u32 z10.1), (.int .i64 z10.2)])) (d := (some 66)) (k := 25) (by kernel_rfl) rfl (by kernel_rfl) hs186 rfl (by kernel_rfl) ?_
        refine In.run' 1 (k' := 27) rfl [(67, (.pointer (some ⟨g42, 0, none⟩)))] (by kernel_rfl) ?_
        refine In.step (k' := 28) rfl (by kernel_rfl) ?_
        refine Step.load (t := 22) (x := (.tmp 67)) (g := g42) (off := 0) (i := 2) (v := (.int .u32 (bOr .u32 z10.1 (bShl .u32 1 (IntKind.wrap .i64 (31 - (IntKind.wrap .i64 (Int.tmod ((p2).toNat : Int) 32)))))))) (d := (some 68)) (k := 27) (by kernel_rfl) rfl (by kernel_rfl) hs186 rfl (by kernel_rfl) ?_
        obtain ⟨z188, hz189, H⟩ := bind_elim H
        refine In.step (k' := 29) rfl (by kernel_rfl) ?_
        refine Step.callF (f := 21) (fo := (.func 21)) (xs := #[(.tmp 66), (.tmp 68)]) (tys := #[24, 22]) (first := #[]) (captured := #[]) (d := (some 69)) (k := 28) (by kernel_rfl) rfl (by kernel_rfl) (by kernel_rfl) Tryd.call21 (L_syntax_In_walk  z10.1 z10.2 (bOr .u32 z10.1 (bShl .u32 1 (IntKind.wrap .i64 (31 - (IntKind.wrap .i64 (Int.tmod ((p2).toNat : Int) 32)))))) w183  z188 hz189) ?_
        rintro e w190 ⟨rfl, hs191⟩
        refine ⟨_, rfl, ?_⟩
        have hs192 := SP.call hs186 hs191
        clear hs191
        have hs193 : SP [] w0 w190 [boxE g16 24 #[(.int .u32 z10.1), (.int .i64 z10.2)], boxE g23 24 #[(.int .u32 z10.1), (.int .i64 (IntKind.wrap .i64 ((IntKind.wrap .i64 (Int.tmod ((p2).toNat : Int) 32)) + 1)))], boxE g42 24 #[(.int .u32 (bOr .u32 z10.1 (bShl .u32 1 (IntKind.wrap .i64 (31 - (IntKind.wrap .i64 (Int.tmod ((p2).toNat : Int) 32))))))), (.int .i64 (IntKind.wrap .i64 ((IntKind.wrap .i64 (Int.tmod ((p2).toNat : Int) 32)) + 1)))]] := hs192
        clear hs192
        refine In.run' 2 (k' := 31) rfl [(70, (.bool z188)), (6, (.bool z188))] (by kernel_rfl) ?_
        refine In.fin (by kernel_rfl) ?_
        exact ⟨z188, ⟨(by kernel_rfl), trivial⟩, SP.sel hs193 [] rfl rfl, H⟩
       ·have H := cf H hb187
        refine In.run' 6 (k' := 31) rfl [(66, undef), (67, undef), (68, undef), (69, undef), (70, (.bool false)), (6, (.bool false))] (by kernel_rfl) ?_
        refine In.fin (by kernel_rfl) ?_
        exact ⟨false, ⟨(by kernel_rfl), trivial⟩, SP.sel hs186 [] rfl rfl, H⟩
     ·have H := cf H hb165
      refine In.run' 19 (k' := 31) rfl [(53, undef), (54, undef), (55, undef), (56, undef), (57, undef), (58, (.bool false)), (59, (.bool false)), (60, undef), (61, undef), (62, undef), (63, undef), (64, (.bool false)), (65, (.bool false)), (66, undef), (67, undef), (68, undef), (69, undef), (70, (.bool false)), (6, (.bool false))] (by kernel_rfl) ?_
      refine In.fin (by kernel_rfl) ?_
      exact ⟨false, ⟨(by kernel_rfl), trivial⟩, SP.sel hs163 [] rfl rfl, H⟩
    ·have H := cf H hb164
     refine In.run' 5 (k' := 12) rfl [(48, (.bool z82)), (49, (.bool z82)), (50, (.bool (z158 == z82))), (51, (.bool (z158 == z82))), (52, (.bool (z158 == z82)))] (by kernel_rfl) ?_
     refine In.guard (t := 52) (b := (z158 == z82)) (by kernel_rfl) (fun hb194 => ?_) (fun hb194 => ?_)
     ·have H := ct H hb194
      refine In.run' 2 (k' := 14) rfl [(53, (.bool z76)), (54, (.bool z76))] (by kernel_rfl) ?_
      refine In.guard (t := 54) (b := z76) (by kernel_rfl) (fun hb195 => ?_) (fun hb195 => ?_)
      ·have H := ct H hb195
       refine In.run' 5 (k' := 19) rfl [(55, (.bool z82)), (56, (.bool z82)), (57, (.bool (!z82))), (58, (.bool (!z82))), (59, (.bool (!z82)))] (by kernel_rfl) ?_
       refine In.guard (t := 59) (b := (!z82)) (by kernel_rfl) (fun hb196 => ?_) (fun hb196 => ?_)
       ·have H := ct H hb196
        refine In.step (k' := 20) rfl (by kernel_rfl) ?_
        refine Step.load (t := 24) (x := (.tmp 9)) (g := g16) (off := 0) (i := 0) (v := (.agg #[(.int .u32 z10.1), (.int .i64 z10.2)])) (d := (some 60)) (k := 19) (by kernel_rfl) rfl (by kernel_rfl) hs163 rfl (by kernel_rfl) ?_
        refine In.run' 1 (k' := 21) rfl [(61, (.pointer (some ⟨g23, 0, none⟩)))] (by kernel_rfl) ?_
        refine In.step (k' := 22) rfl (by kernel_rfl) ?_
        refine Step.load (t := 22) (x := (.tmp 61)) (g := g23) (off := 0) (i := 1) (v := (.int .u32 z10.1)) (d := (some 62)) (k := 21) (by kernel_rfl) rfl (by kernel_rfl) hs163 rfl (by kernel_rfl) ?_
        obtain ⟨z197, hz198, H⟩ := bind_elim H
        refine In.step (k' := 23) rfl (by kernel_rfl) ?_
        refine Step.callF (f := 21) (fo := (.func 21)) (xs := #[(.tmp 60), (.tmp 62)]) (tys := #[24, 22]) (first := #[]) (captured := #[]) (d := (some 63)) (k := 22) (by kernel_rfl) rfl (by kernel_rfl) (by kernel_rfl) Tryd.call21 (L_syntax_In_walk  z10.1 z10.2 z10.1 w160  z197 hz198) ?_
        rintro e w199 ⟨rfl, hs200⟩
        refine ⟨_, rfl, ?_⟩
        have hs201 := SP.call hs163 hs200
        clear hs200
        have hs202 : SP [] w0 w199 [boxE g16 24 #[(.int .u32 z10.1), (.int .i64 z10.2)], boxE g23 24 #[(.int .u32 z10.1), (.int .i64 (IntKind.wrap .i64 ((IntKind.wrap .i64 (Int.tmod ((p2).toNat : Int) 32)) + 1)))], boxE g42 24 #[(.int .u32 (bOr .u32 z10.1 (bShl .u32 1 (IntKind.wrap .i64 (31 - (IntKind.wrap .i64 (Int.tmod ((p2).toNat : Int) 32))))))), (.int .i64 (IntKind.wrap .i64 ((IntKind.wrap .i64 (Int.tmod ((p2).toNat : Int) 32)) + 1)))]] := hs201
        clear hs201
        refine In.run' 2 (k' := 25) rfl [(64, (.bool z197)), (65, (.bool z197))] (by kernel_rfl) ?_
        refine In.guard (t := 65) (b := z197) (by kernel_rfl) (fun hb203 => ?_) (fun hb203 => ?_)
        ·have H := ct H hb203
         refine In.step (k' := 26) rfl (by kernel_rfl) ?_
         refine Step.load (t := 24) (x := (.tmp 9)) (g := g16) (off := 0) (i := 0) (v := (.agg #[(.int .u32 z10.1), (.int .i64 z10.2)])) (d := (some 66)) (k := 25) (by kernel_rfl) rfl (by kernel_rfl) hs202 rfl (by kernel_rfl) ?_
         refine In.run' 1 (k' := 27) rfl [(67, (.pointer (some ⟨g42, 0, none⟩)))] (by kernel_rfl) ?_
         refine In.step (k' := 28) rfl (by kernel_rfl) ?_
         refine Step.load (t := 22) (x := (.tmp 67)) (g := g42) (off := 0) (i := 2) (v := (.int .u32 (bOr .u32 z10.1 (bShl .u32 1 (IntKind.wrap .i64 (31 - (IntKind.wrap .i64 (Int.tmod ((p2).toNat : Int) 32)))))))) (d := (some 68)) (k := 27) (by kernel_rfl) rfl (by kernel_rfl) hs202 rfl (by kernel_rfl) ?_
         obtain ⟨z204, hz205, H⟩ := bind_elim H
         refine In.step (k' := 29) rfl (by kernel_rfl) ?_
         refine Step.callF (f := 21) (fo := (.func 21)) (xs := #[(.tmp 66), (.tmp 68)]) (tys := #[24, 22]) (first := #[]) (captured := #[]) (d := (some 69)) (k := 28) (by kernel_rfl) rfl (by kernel_rfl) (by kernel_rfl) Tryd.call21 (L_syntax_In_walk  z10.1 z10.2 (bOr .u32 z10.1 (bShl .u32 1 (IntKind.wrap .i64 (31 - (IntKind.wrap .i64 (Int.tmod ((p2).toNat : Int) 32)))))) w199  z204 hz205) ?_
         rintro e w206 ⟨rfl, hs207⟩
         refine ⟨_, rfl, ?_⟩
         have hs208 := SP.call hs202 hs207
         clear hs207
         have hs209 : SP [] w0 w206 [boxE g16 24 #[(.int .u32 z10.1), (.int .i64 z10.2)], boxE g23 24 #[(.int .u32 z10.1), (.int .i64 (IntKind.wrap .i64 ((IntKind.wrap .i64 (Int.tmod ((p2).toNat : Int) 32)) + 1)))], boxE g42 24 #[(.int .u32 (bOr .u32 z10.1 (bShl .u32 1 (IntKind.wrap .i64 (31 - (IntKind.wrap .i64 (Int.tmod ((p2).toNat : Int) 32))))))), (.int .i64 (IntKind.wrap .i64 ((IntKind.wrap .i64 (Int.tmod ((p2).toNat : Int) 32)) + 1)))]] := hs208
         clear hs208
         refine In.run' 2 (k' := 31) rfl [(70, (.bool z204)), (6, (.bool z204))] (by kernel_rfl) ?_
         refine In.fin (by kernel_rfl) ?_
         exact ⟨z204, ⟨(by kernel_rfl), trivial⟩, SP.sel hs209 [] rfl rfl, H⟩
        ·have H := cf H hb203
         refine In.run' 6 (k' := 31) rfl [(66, undef), (67, undef), (68, undef), (69, undef), (70, (.bool false)), (6, (.bool false))] (by kernel_rfl) ?_
         refine In.fin (by kernel_rfl) ?_
         exact ⟨false, ⟨(by kernel_rfl), trivial⟩, SP.sel hs202 [] rfl rfl, H⟩
       ·have H := cf H hb196
        refine In.run' 12 (k' := 31) rfl [(60, undef), (61, undef), (62, undef), (63, undef), (64, (.bool false)), (65, (.bool false)), (66, undef), (67, undef), (68, undef), (69, undef), (70, (.bool false)), (6, (.bool false))] (by kernel_rfl) ?_
        refine In.fin (by kernel_rfl) ?_
        exact ⟨false, ⟨(by kernel_rfl), trivial⟩, SP.sel hs163 [] rfl rfl, H⟩
      ·have H := cf H hb195
       refine In.run' 5 (k' := 19) rfl [(55, undef), (56, (.bool false)), (57, (.bool true)), (58, (.bool true)), (59, (.bool true))] (by kernel_rfl) ?_
       refine In.step (k' := 20) rfl (by kernel_rfl) ?_
       refine Step.load (t := 24) (x := (.tmp 9)) (g := g16) (off := 0) (i := 0) (v := (.agg #[(.int .u32 z10.1), (.int .i64 z10.2)])) (d := (some 60)) (k := 19) (by kernel_rfl) rfl (by kernel_rfl) hs163 rfl (by kernel_rfl) ?_
       refine In.run' 1 (k' := 21) rfl [(61, (.pointer (some ⟨g23, 0, none⟩)))] (by kernel_rfl) ?_
       refine In.step (k' := 22) rfl (by kernel_rfl) ?_
       refine Step.load (t := 22) (x := (.tmp 61)) (g := g23) (off := 0) (i := 1) (v := (.int .u32 z10.1)) (d := (some 62)) (k := 21) (by kernel_rfl) rfl (by kernel_rfl) hs163 rfl (by kernel_rfl) ?_
       obtain ⟨z210, hz211, H⟩ := bind_elim H
       refine In.step (k' := 23) rfl (by kernel_rfl) ?_
       refine Step.callF (f := 21) (fo := (.func 21)) (xs := #[(.tmp 60), (.tmp 62)]) (tys := #[24, 22]) (first := #[]) (captured := #[]) (d := (some 63)) (k := 22) (by kernel_rfl) rfl (by kernel_rfl) (by kernel_rfl) Tryd.call21 (L_syntax_In_walk  z10.1 z10.2 z10.1 w160  z210 hz211) ?_
       rintro e w212 ⟨rfl, hs213⟩
       refine ⟨_, rfl, ?_⟩
       have hs214 := SP.call hs163 hs213
       clear hs213
       have hs215 : SP [] w0 w212 [boxE g16 24 #[(.int .u32 z10.1), (.int .i64 z10.2)], boxE g23 24 #[(.int .u32 z10.1), (.int .i64 (IntKind.wrap .i64 ((IntKind.wrap .i64 (Int.tmod ((p2).toNat : Int) 32)) + 1)))], boxE g42 24 #[(.int .u32 (bOr .u32 z10.1 (bShl .u32 1 (IntKind.wrap .i64 (31 - (IntKind.wrap .i64 (Int.tmod ((p2).toNat : Int) 32))))))), (.int .i64 (IntKind.wrap .i64 ((IntKind.wrap .i64 (Int.tmod ((p2).toNat : Int) 32)) + 1)))]] := hs214
       clear hs214
       refine In.run' 2 (k' := 25) rfl [(64, (.bool z210)), (65, (.bool z210))] (by kernel_rfl) ?_
       refine In.guard (t := 65) (b := z210) (by kernel_rfl) (fun hb216 => ?_) (fun hb216 => ?_)
       ·have H := ct H hb216
        refine In.step (k' := 26) rfl (by kernel_rfl) ?_
        refine Step.load (t := 24) (x := (.tmp 9)) (g := g16) (off := 0) (i := 0) (v := (.agg #[(.int .u32 z10.1), (.int .i64 z10.2)])) (d := (some 66)) (k := 25) (by kernel_rfl) rfl (by kernel_rfl) hs215 rfl (by kernel_rfl) ?_
        refine In.run' 1 (k' := 27) rfl [(67, (.pointer (some ⟨g42, 0, none⟩)))] (by kernel_rfl) ?_
        refine In.step (k' := 28) rfl (by kernel_rfl) ?_
        refine Step.load (t := 22) (x := (.tmp 67)) (g := g42) (off := 0) (i := 2) (v := (.int .u32 (bOr .u32 z10.1 (bShl .u32 1 (IntKind.wrap .i64 (31 - (IntKind.wrap .i64 (Int.tmod ((p2).toNat : Int) 32)))))))) (d := (some 68)) (k := 27) (by kernel_rfl) rfl (by kernel_rfl) hs215 rfl (by kernel_rfl) ?_
        obtain ⟨z217, hz218, H⟩ := bind_elim H
        refine In.step (k' := 29) rfl (by kernel_rfl) ?_
        refine Step.callF (f := 21) (fo := (.func 21)) (xs := #[(.tmp 66), (.tmp 68)]) (tys := #[24, 22]) (first := #[]) (captured := #[]) (d := (some 69)) (k := 28) (by kernel_rfl) rfl (by kernel_rfl) (by kernel_rfl) Tryd.call21 (L_syntax_In_walk  z10.1 z10.2 (bOr .u32 z10.1 (bShl .u32 1 (IntKind.wrap .i64 (31 - (IntKind.wrap .i64 (Int.tmod ((p2).toNat : Int) 32)))))) w212  z217 hz218) ?_
        rintro e w219 ⟨rfl, hs220⟩
        refine ⟨_, rfl, ?_⟩
        have hs221 := SP.call hs215 hs220
        clear hs220
        have hs222 : SP [] w0 w219 [boxE g16 24 #[(.int .u32 z10.1), (.int .i64 z10.2)], boxE g23 24 #[(.int .u32 z10.1), (.int .i64 (IntKind.wrap .i64 ((IntKind.wrap .i64 (Int.tmod ((p2).toNat : Int) 32)) + 1)))], boxE g42 24 #[(.int .u32 (bOr .u32 z10.1 (bShl .u32 1 (IntKind.wrap .i64 (31 - (IntKind.wrap .i64 (Int.tmod ((p2).toNat : Int) 32))))))), (.int .i64 (IntKind.wrap .i64 ((IntKind.wrap .i64 (Int.tmod ((p2).toNat : Int) 32)) + 1)))]] := hs221
        clear hs221
        refine In.run' 2 (k' := 31) rfl [(70, (.bool z217)), (6, (.bool z217))] (by kernel_rfl) ?_
        refine In.fin (by kernel_rfl) ?_
        exact ⟨z217, ⟨(by kernel_rfl), trivial⟩, SP.sel hs222 [] rfl rfl, H⟩
       ·have H := cf H hb216
        refine In.run' 6 (k' := 31) rfl [(66, undef), (67, undef), (68, undef), (69, undef), (70, (.bool false)), (6, (.bool false))] (by kernel_rfl) ?_
        refine In.fin (by kernel_rfl) ?_
        exact ⟨false, ⟨(by kernel_rfl), trivial⟩, SP.sel hs215 [] rfl rfl, H⟩
     ·have H := cf H hb194
      refine In.run' 19 (k' := 31) rfl [(53, undef), (54, undef), (55, undef), (56, undef), (57, undef), (58, (.bool false)), (59, (.bool false)), (60, undef), (61, undef), (62, undef), (63, undef), (64, (.bool false)), (65, (.bool false)), (66, undef), (67, undef), (68, undef), (69, undef), (70, (.bool false)), (6, (.bool false))] (by kernel_rfl) ?_
      refine In.fin (by kernel_rfl) ?_
      exact ⟨false, ⟨(by kernel_rfl), trivial⟩, SP.sel hs163 [] rfl rfl, H⟩
   ·have H := cf H hb157
    refine In.run' 29 (k' := 31) rfl [(43, undef), (44, undef), (45, undef), (46, undef), (47, undef), (48, undef), (49, undef), (50, undef), (51, (.bool false)), (52, (.bool false)), (53, undef), (54, undef), (55, undef), (56, undef), (57, undef), (58, (.bool false)), (59, (.bool false)), (60, undef), (61, undef), (62, undef), (63, undef), (64, (.bool false)), (65, (.bool false)), (66, undef), (67, undef), (68, undef), (69, undef), (70, (.bool false)), (6, (.bool false))] (by kernel_rfl) ?_
    refine In.fin (by kernel_rfl) ?_
    exact ⟨false, ⟨(by kernel_rfl), trivial⟩, SP.sel hs87 [] rfl rfl, H⟩
  ·rintro ρ w155 ⟨v154, hk, hs156, H⟩
   unfold L_subwaylaw04_SyntaxHalves_k1 at H
   refine At.known [(6, (.bool v154))] hk ?_
   refine At.ret (by kernel_rfl) ?_
   refine ⟨(.bool v154), by kernel_rfl, ?_⟩
   obtain rfl := some_elim H
   exact ⟨rfl, SP.sel hs156 [] rfl rfl⟩
end Go.Proofs.YthnakiihenbcjaaDoor
