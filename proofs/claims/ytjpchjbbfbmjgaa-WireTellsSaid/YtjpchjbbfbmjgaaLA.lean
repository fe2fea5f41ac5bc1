/- LIFTED BY PROGRAM (tools/lift.py): what functions compute, and that they do. -/
import Derived.Test.YtjpchjbbfbmjgaaWireHand
import Derived.Test.YtjpchjbbfbmjgaaLR5
namespace Go.Proofs.Ytjpchjbbfbmjgaa
set_option linter.unusedSimpArgs false
set_option linter.unusedVariables false
open Go.RowKit

/-! L_subwaylaw05_Great -/
def L_subwaylaw05_Great (pKind1 : Int) (pA2 : (List UInt8)) (pB3 : (List UInt8)) (pN4 : Int) (pM5 : Int) : Option (Bool) :=
  (some ((decide ((IntKind.wrap .i64 (((List.length pA2 : Nat) : Int) + ((List.length pB3 : Nat) : Int))) > 9000))))
set_option maxRecDepth 100000 in
set_option maxHeartbeats 4000000 in
theorem L_subwaylaw05_Great_walk  (pKind1 : Int) (pA2 : (List UInt8)) (pB3 : (List UInt8)) (pN4 : Int) (pM5 : Int) (w0 : World)  (r : (Bool)) (H : L_subwaylaw05_Great pKind1 pA2 pB3 pN4 pM5 = some r) :
    Calls Try.prog 10 #[(.agg #[(.int .i64 pKind1), (.string ⟨List.toArray pA2⟩), (.string ⟨List.toArray pB3⟩), (.int .i64 pN4), (.int .i64 pM5)])] w0 (fun e w' => e = .returned (.bool r) ∧ SP [] w0 w' []) := by
  unfold L_subwaylaw05_Great at H
  refine calls_start (n := 11) Try.func10 (by kernel_rfl) (by kernel_rfl) (by kernel_rfl) ?_
  have hs0 := SP.start [] w0
  refine At.seq (by kernel_rfl) (p0 := [false]) (p1 := [true]) rfl rfl ?_
  refine At.region (by kernel_rfl) (by kernel_rfl) ?_
  refine In.step (k' := 1) rfl (by kernel_rfl) ?_
  refine Step.box (t := 23) (x := (.tmp 0)) (v := (.agg #[(.int .i64 pKind1), (.string ⟨List.toArray pA2⟩), (.string ⟨List.toArray pB3⟩), (.int .i64 pN4), (.int .i64 pM5)])) (d := (some 1)) (k := 0) (by kernel_rfl) rfl (by kernel_rfl) hs0 ?_
  intro g6 w7 hs8
  have hs9 : SP [] w0 w7 [boxE g6 23 #[(.int .i64 pKind1), (.string ⟨List.toArray pA2⟩), (.string ⟨List.toArray pB3⟩), (.int .i64 pN4), (.int .i64 pM5)]] := hs8
  clear hs8
  refine In.run' 1 (k' := 2) rfl [(2, (.bool false))] (by kernel_rfl) ?_
  refine In.fin (by kernel_rfl) ?_
  refine At.seq (by kernel_rfl) (p0 := [true, false]) (p1 := [true, true]) rfl rfl ?_
  refine At.region (by kernel_rfl) (by kernel_rfl) ?_
  refine In.run' 1 (k' := 1) rfl [(3, (.pointer (some ⟨g6, 1, none⟩)))] (by kernel_rfl) ?_
  refine In.step (k' := 2) rfl (by kernel_rfl) ?_
  refine Step.load (t := 9) (x := (.tmp 3)) (g := g6) (off := 1) (i := 0) (v := (.string ⟨List.toArray pA2⟩)) (d := (some 4)) (k := 1) (by kernel_rfl) rfl (by kernel_rfl) hs9 rfl (by kernel_rfl) ?_
  refine In.run' 2 (k' := 4) rfl [(5, (.int .i64 ((List.length pA2 : Nat) : Int))), (6, (.pointer (some ⟨g6, 2, none⟩)))] (by kernel_rfl) ?_
  refine In.step (k' := 5) rfl (by kernel_rfl) ?_
  refine Step.load (t := 9) (x := (.tmp 6)) (g := g6) (off := 2) (i := 0) (v := (.string ⟨List.toArray pB3⟩)) (d := (some 7)) (k := 4) (by kernel_rfl) rfl (by kernel_rfl) hs9 rfl (by kernel_rfl) ?_
  refine In.run' 4 (k' := 9) rfl [(8, (.int .i64 ((List.length pB3 : Nat) : Int))), (9, (.int .i64 (IntKind.wrap .i64 (((List.length pA2 : Nat) : Int) + ((List.length pB3 : Nat) : Int))))), (10, (.bool (decide ((IntKind.wrap .i64 (((List.length pA2 : Nat) : Int) + ((List.length pB3 : Nat) : Int))) > 9000)))), (2, (.bool (decide ((IntKind.wrap .i64 (((List.length pA2 : Nat) : Int) + ((List.length pB3 : Nat) : Int))) > 9000))))] (by kernel_rfl) ?_
  refine In.fin (by kernel_rfl) ?_
  refine At.ret (by kernel_rfl) ?_
  refine ⟨(.bool (decide ((IntKind.wrap .i64 (((List.length pA2 : Nat) : Int) + ((List.length pB3 : Nat) : Int))) > 9000))), by kernel_rfl, ?_⟩
  obtain rfl := some_elim H
  exact ⟨rfl, SP.sel hs9 [] rfl rfl⟩
/-! L_subwaylaw05_head -/
def L_subwaylaw05_head_k1 (v80 : Bool) : Option (Bool) :=
  (some (v80))
def L_subwaylaw05_head  : Option (Bool) :=
  ((L_wire_Put 6 ([119, 101, 98] : List UInt8) ([] : List UInt8) 10 0).bind fun z8 => ((L_wire_Get ([(7 : UInt8), (1 : UInt8), (97 : UInt8), (2 : UInt8), (131 : UInt8), (0 : UInt8)] : List UInt8)).bind fun z23 => ((L_wire_Get ([(13 : UInt8), (0 : UInt8)] : List UInt8)).bind fun z43 => (cond (z8 == ([6, 3, 119, 101, 98, 10] : List UInt8)) (cond z23.2.2.2.2.2 (cond ((z23.1 == 7) && ((z23.2.1 == ([97] : List UInt8)) && ((z23.2.2.1 == ([] : List UInt8)) && ((z23.2.2.2.1 == 2) && (z23.2.2.2.2.1 == 384))))) (cond (!z43.2.2.2.2.2) ((L_wire_Right 6 ([119, 101, 98] : List UInt8) ([] : List UInt8) 10 0).bind fun z87 => (cond z87 ((L_wire_Right 13 ([] : List UInt8) ([] : List UInt8) 1 0).bind fun z94 => (cond (!z94) ((L_wire_Right 0 ([] : List UInt8) ([] : List UInt8) 0 0).bind fun z101 => (L_subwaylaw05_head_k1 (!z101))) (L_subwaylaw05_head_k1 false))) (L_subwaylaw05_head_k1 false))) (L_subwaylaw05_head_k1 false)) (L_subwaylaw05_head_k1 false)) (L_subwaylaw05_head_k1 false)) (L_subwaylaw05_head_k1 false)))))
set_option maxRecDepth 100000 in
set_option maxHeartbeats 4000000 in
theorem L_subwaylaw05_head_walk   (w0 : World)  (r : (Bool)) (H : L_subwaylaw05_head  = some r) :
    Calls Try.prog 9 #[] w0 (fun e w' => e = .returned (.bool r) ∧ SP [] w0 w' []) := by
  unfold L_subwaylaw05_head at H
  refine calls_start (n := 51) Try.func9 (by kernel_rfl) (by kernel_rfl) (by kernel_rfl) ?_
  have hs0 := SP.start [] w0
  refine At.seq (by kernel_rfl) (p0 := [false]) (p1 := [true]) rfl rfl ?_
  refine At.region (by kernel_rfl) (by kernel_rfl) ?_
  refine In.run' 1 (k' := 1) rfl [(0, (.bool false))] (by kernel_rfl) ?_
  refine In.fin (by kernel_rfl) ?_
  refine At.seq (by kernel_rfl) (p0 := [true, false]) (p1 := [true, true]) rfl rfl ?_
  refine At.region (by kernel_rfl) (by kernel_rfl) ?_
  refine In.run' 1 (k' := 1) rfl [(7, (.agg #[(.int .i64 6), (.string ⟨List.toArray ([119, 101, 98] : List UInt8)⟩), (.string ⟨List.toArray ([] : List UInt8)⟩), (.int .i64 10), (.int .i64 0)]))] (by kernel_rfl) ?_
  refine In.step (k' := 2) rfl (by kernel_rfl) ?_
  refine Step.alloc (t := 23) (z := (.agg #[(.int .i64 0), (.string ⟨List.toArray ([] : List UInt8)⟩), (.string ⟨List.toArray ([] : List UInt8)⟩), (.int .i64 0), (.int .i64 0)])) (d := (some 1)) (k := 1) (by kernel_rfl) rfl (by kernel_rfl) hs0 ?_
  intro g1 w2 hs3
  have hs4 : SP [] w0 w2 [boxE g1 23 #[(.int .i64 0), (.string ⟨List.toArray ([] : List UInt8)⟩), (.string ⟨List.toArray ([] : List UInt8)⟩), (.int .i64 0), (.int .i64 0)]] := hs3
  clear hs3
  refine In.step (k' := 3) rfl (by kernel_rfl) ?_
  refine Step.store (t := 23) (x := (.tmp 1)) (y := (.tmp 7)) (g := g1) (off := 0) (i := 0) (v := (.agg #[(.int .i64 6), (.string ⟨List.toArray ([119, 101, 98] : List UInt8)⟩), (.string ⟨List.toArray ([] : List UInt8)⟩), (.int .i64 10), (.int .i64 0)])) (cs' := #[(.int .i64 6), (.string ⟨List.toArray ([119, 101, 98] : List UInt8)⟩), (.string ⟨List.toArray ([] : List UInt8)⟩), (.int .i64 10), (.int .i64 0)]) (d := none) (k := 2) (by kernel_rfl) rfl (by kernel_rfl) (by kernel_rfl) hs4 rfl (by kernel_rfl) ?_
  intro w5 hs6
  have hs7 : SP [] w0 w5 [boxE g1 23 #[(.int .i64 6), (.string ⟨List.toArray ([119, 101, 98] : List UInt8)⟩), (.string ⟨List.toArray ([] : List UInt8)⟩), (.int .i64 10), (.int .i64 0)]] := hs6
  clear hs6
  refine In.fin (by kernel_rfl) ?_
  refine At.seq (by kernel_rfl) (p0 := [true, true, false]) (p1 := [true, true, true]) rfl rfl ?_
  refine At.region (by kernel_rfl) (by kernel_rfl) ?_
  refine In.step (k' := 1) rfl (by kernel_rfl) ?_
  refine Step.load (t := 23) (x := (.tmp 1)) (g := g1) (off := 0) (i := 0) (v := (.agg #[(.int .i64 6), (.string ⟨List.toArray ([119, 101, 98] : List UInt8)⟩), (.string ⟨List.toArray ([] : List UInt8)⟩), (.int .i64 10), (.int .i64 0)])) (d := (some 8)) (k := 0) (by kernel_rfl) rfl (by kernel_rfl) hs7 rfl (by kernel_rfl) ?_
  obtain ⟨z8, hz9, H⟩ := bind_elim H
  refine In.step (k' := 2) rfl (by kernel_rfl) ?_
  refine Step.callF (f := 15) (fo := (.func 15)) (xs := #[(.tmp 8)]) (tys := #[23]) (first := #[]) (captured := #[]) (d := (some 9)) (k := 1) (by kernel_rfl) rfl (by kernel_rfl) (by kernel_rfl) Try.call15 (L_wire_Put_walk  6 ([119, 101, 98] : List UInt8) ([] : List UInt8) 10 0 w5  z8 hz9) ?_
  rintro e w10 ⟨A12, c13, rfl, hs11⟩
  refine ⟨_, rfl, ?_⟩
  have hs14 := SP.call hs7 hs11
  clear hs11
  have hs15 : SP [] w0 w10 [boxE g1 23 #[(.int .i64 6), (.string ⟨List.toArray ([119, 101, 98] : List UInt8)⟩), (.string ⟨List.toArray ([] : List UInt8)⟩), (.int .i64 10), (.int .i64 0)], rowT 5 eU8 A12 c13 z8] := hs14
  clear hs14
  refine In.run' 1 (k' := 3) rfl [(2, (.slice A12 (List.length z8) c13))] (by kernel_rfl) ?_
  refine In.fin (by kernel_rfl) ?_
  refine At.seq (by kernel_rfl) (p0 := [true, true, true, false]) (p1 := [true, true, true, true]) rfl rfl ?_
  refine At.region (by kernel_rfl) (by kernel_rfl) ?_
  refine In.step (k' := 1) rfl (by kernel_rfl) ?_
  refine Step.newSlice (e := eU8) (T := 24) (E := 5) (len := 6) (parts := #[(0, (.const (.int .u8 (7)))), (1, (.const (.int .u8 (1)))), (2, (.const (.int .u8 (97)))), (3, (.const (.int .u8 (2)))), (4, (.const (.int .u8 (131)))), (5, (.const (.int .u8 (0))))]) (cs := #[(.int .u8 7), (.int .u8 1), (.int .u8 97), (.int .u8 2), (.int .u8 131), (.int .u8 0)]) ([(7 : UInt8), (1 : UInt8), (97 : UInt8), (2 : UInt8), (131 : UInt8), (0 : UInt8)] : List UInt8) (d := (some 11)) (k := 0) (by kernel_rfl) rfl (fun _ => by kernel_rfl) hs15 (cells_cons8 (Or.inl rfl) (cells_cons8 (Or.inl rfl) (cells_cons8 (Or.inl rfl) (cells_cons8 (Or.inl rfl) (cells_cons8 (Or.inl rfl) (cells_cons8 (Or.inl rfl) rfl)))))) rfl rfl rfl ?_
  intro g16 w17 hs18
  have hs19 : SP [] w0 w17 [boxE g1 23 #[(.int .i64 6), (.string ⟨List.toArray ([119, 101, 98] : List UInt8)⟩), (.string ⟨List.toArray ([] : List UInt8)⟩), (.int .i64 10), (.int .i64 0)], rowT 5 eU8 A12 c13 z8, rowT 5 eU8 (some ⟨g16, 0, none⟩) (List.length ([(7 : UInt8), (1 : UInt8), (97 : UInt8), (2 : UInt8), (131 : UInt8), (0 : UInt8)] : List UInt8)) ([(7 : UInt8), (1 : UInt8), (97 : UInt8), (2 : UInt8), (131 : UInt8), (0 : UInt8)] : List UInt8)] := hs18
  clear hs18
  refine In.step (k' := 2) rfl (by kernel_rfl) ?_
  refine Step.mark (T := 24) (E := 5) (x := (.tmp 11)) (g := g16) (c := (List.length ([(7 : UInt8), (1 : UInt8), (97 : UInt8), (2 : UInt8), (131 : UInt8), (0 : UInt8)] : List UInt8))) (i := 2) (l := ([(7 : UInt8), (1 : UInt8), (97 : UInt8), (2 : UInt8), (131 : UInt8), (0 : UInt8)] : List UInt8)) (d := (some 12)) (k := 1) (by kernel_rfl) rfl (by kernel_rfl) (by kernel_rfl) (by kernel_rfl) hs19 rfl ?_
  intro w20 hs21
  have hs22 : SP [] w0 w20 [boxE g1 23 #[(.int .i64 6), (.string ⟨List.toArray ([119, 101, 98] : List UInt8)⟩), (.string ⟨List.toArray ([] : List UInt8)⟩), (.int .i64 10), (.int .i64 0)], rowT 5 eU8 A12 c13 z8, rdE eU8 (some ⟨g16, 0, none⟩) (List.length ([(7 : UInt8), (1 : UInt8), (97 : UInt8), (2 : UInt8), (131 : UInt8), (0 : UInt8)] : List UInt8)) ([(7 : UInt8), (1 : UInt8), (97 : UInt8), (2 : UInt8), (131 : UInt8), (0 : UInt8)] : List UInt8)] := hs21
  clear hs21
  obtain ⟨z23, hz24, H⟩ := bind_elim H
  refine In.step (k' := 3) rfl (by kernel_rfl) ?_
  refine Step.callF (f := 11) (fo := (.func 11)) (xs := #[(.tmp 12)]) (tys := #[24]) (first := #[]) (captured := #[]) (d := (some 13)) (k := 2) (by kernel_rfl) rfl (by kernel_rfl) (by kernel_rfl) Try.call11 (L_wire_Get_walk (some ⟨g16, 0, none⟩) (List.length ([(7 : UInt8), (1 : UInt8), (97 : UInt8), (2 : UInt8), (131 : UInt8), (0 : UInt8)] : List UInt8)) ([(7 : UInt8), (1 : UInt8), (97 : UInt8), (2 : UInt8), (131 : UInt8), (0 : UInt8)] : List UInt8) w20 (rdE_rd (SP.get hs22 (i := 2) rfl)) z23 hz24) ?_
  rintro e w25 ⟨rfl, hs26⟩
  refine ⟨_, rfl, ?_⟩
  have hs27 := SP.call hs22 hs26
  clear hs26
  have hs28 : SP [] w0 w25 [boxE g1 23 #[(.int .i64 6), (.string ⟨List.toArray ([119, 101, 98] : List UInt8)⟩), (.string ⟨List.toArray ([] : List UInt8)⟩), (.int .i64 10), (.int .i64 0)], rowT 5 eU8 A12 c13 z8, rdE eU8 (some ⟨g16, 0, none⟩) (List.length ([(7 : UInt8), (1 : UInt8), (97 : UInt8), (2 : UInt8), (131 : UInt8), (0 : UInt8)] : List UInt8)) ([(7 : UInt8), (1 : UInt8), (97 : UInt8), (2 : UInt8), (131 : UInt8), (0 : UInt8)] : List UInt8)] := hs27
  clear hs27
  refine In.run' 3 (k' := 6) rfl [(10, (.tuple #[(.agg #[(.int .i64 z23.1), (.string ⟨List.toArray z23.2.1⟩), (.string ⟨List.toArray z23.2.2.1⟩), (.int .i64 z23.2.2.2.1), (.int .i64 z23.2.2.2.2.1)]), (.bool z23.2.2.2.2.2)])), (14, (.agg #[(.int .i64 z23.1), (.string ⟨List.toArray z23.2.1⟩), (.string ⟨List.toArray z23.2.2.1⟩), (.int .i64 z23.2.2.2.1), (.int .i64 z23.2.2.2.2.1)])), (15, (.bool z23.2.2.2.2.2))] (by kernel_rfl) ?_
  refine In.step (k' := 7) rfl (by kernel_rfl) ?_
  refine Step.alloc (t := 23) (z := (.agg #[(.int .i64 0), (.string ⟨List.toArray ([] : List UInt8)⟩), (.string ⟨List.toArray ([] : List UInt8)⟩), (.int .i64 0), (.int .i64 0)])) (d := (some 3)) (k := 6) (by kernel_rfl) rfl (by kernel_rfl) hs28 ?_
  intro g29 w30 hs31
  have hs32 : SP [] w0 w30 [boxE g1 23 #[(.int .i64 6), (.string ⟨List.toArray ([119, 101, 98] : List UInt8)⟩), (.string ⟨List.toArray ([] : List UInt8)⟩), (.int .i64 10), (.int .i64 0)], rowT 5 eU8 A12 c13 z8, rdE eU8 (some ⟨g16, 0, none⟩) (List.length ([(7 : UInt8), (1 : UInt8), (97 : UInt8), (2 : UInt8), (131 : UInt8), (0 : UInt8)] : List UInt8)) ([(7 : UInt8), (1 : UInt8), (97 : UInt8), (2 : UInt8), (131 : UInt8), (0 : UInt8)] : List UInt8), boxE g29 23 #[(.int .i64 0), (.string ⟨List.toArray ([] : List UInt8)⟩), (.string ⟨List.toArray ([] : List UInt8)⟩), (.int .i64 0), (.int .i64 0)]] := hs31
  clear hs31
  refine In.step (k' := 8) rfl (by kernel_rfl) ?_
  refine Step.store (t := 23) (x := (.tmp 3)) (y := (.tmp 14)) (g := g29) (off := 0) (i := 3) (v := (.agg #[(.int .i64 z23.1), (.string ⟨List.toArray z23.2.1⟩), (.string ⟨List.toArray z23.2.2.1⟩), (.int .i64 z23.2.2.2.1), (.int .i64 z23.2.2.2.2.1)])) (cs' := #[(.int .i64 z23.1), (.string ⟨List.toArray z23.2.1⟩), (.string ⟨List.toArray z23.2.2.1⟩), (.int .i64 z23.2.2.2.1), (.int .i64 z23.2.2.2.2.1)]) (d := none) (k := 7) (by kernel_rfl) rfl (by kernel_rfl) (by kernel_rfl) hs32 rfl (by kernel_rfl) ?_
  intro w33 hs34
  have hs35 : SP [] w0 w33 [boxE g1 23 #[(.int .i64 6), (.string ⟨List.toArray ([119, 101, 98] : List UInt8)⟩), (.string ⟨List.toArray ([] : List UInt8)⟩), (.int .i64 10), (.int .i64 0)], rowT 5 eU8 A12 c13 z8, rdE eU8 (some ⟨g16, 0, none⟩) (List.length ([(7 : UInt8), (1 : UInt8), (97 : UInt8), (2 : UInt8), (131 : UInt8), (0 : UInt8)] : List UInt8)) ([(7 : UInt8), (1 : UInt8), (97 : UInt8), (2 : UInt8), (131 : UInt8), (0 : UInt8)] : List UInt8), boxE g29 23 #[(.int .i64 z23.1), (.string ⟨List.toArray z23.2.1⟩), (.string ⟨List.toArray z23.2.2.1⟩), (.int .i64 z23.2.2.2.1), (.int .i64 z23.2.2.2.2.1)]] := hs34
  clear hs34
  refine In.run' 1 (k' := 9) rfl [(4, (.bool z23.2.2.2.2.2))] (by kernel_rfl) ?_
  refine In.fin (by kernel_rfl) ?_
  refine At.seq (by kernel_rfl) (p0 := [true, true, true, true, false]) (p1 := [true, true, true, true, true]) rfl rfl ?_
  refine At.region (by kernel_rfl) (by kernel_rfl) ?_
  refine In.step (k' := 1) rfl (by kernel_rfl) ?_
  refine Step.newSlice (e := eU8) (T := 24) (E := 5) (len := 2) (parts := #[(0, (.const (.int .u8 (13)))), (1, (.const (.int .u8 (0))))]) (cs := #[(.int .u8 13), (.int .u8 0)]) ([(13 : UInt8), (0 : UInt8)] : List UInt8) (d := (some 17)) (k := 0) (by kernel_rfl) rfl (fun _ => by kernel_rfl) hs35 (cells_cons8 (Or.inl rfl) (cells_cons8 (Or.inl rfl) rfl)) rfl rfl rfl ?_
  intro g36 w37 hs38
  have hs39 : SP [] w0 w37 [boxE g1 23 #[(.int .i64 6), (.string ⟨List.toArray ([119, 101, 98] : List UInt8)⟩), (.string ⟨List.toArray ([] : List UInt8)⟩), (.int .i64 10), (.int .i64 0)], rowT 5 eU8 A12 c13 z8, rdE eU8 (some ⟨g16, 0, none⟩) (List.length ([(7 : UInt8), (1 : UInt8), (97 : UInt8), (2 : UInt8), (131 : UInt8), (0 : UInt8)] : List UInt8)) ([(7 : UInt8), (1 : UInt8), (97 : UInt8), (2 : UInt8), (131 : UInt8), (0 : UInt8)] : List UInt8), boxE g29 23 #[(.int .i64 z23.1), (.string ⟨List.toArray z23.2.1⟩), (.string ⟨List.toArray z23.2.2.1⟩), (.int .i64 z23.2.2.2.1), (.int .i64 z23.2.2.2.2.1)], rowT 5 eU8 (some ⟨g36, 0, none⟩) (List.length ([(13 : UInt8), (0 : UInt8)] : List UInt8)) ([(13 : UInt8), (0 : UInt8)] : List UInt8)] := hs38
  clear hs38
  refine In.step (k' := 2) rfl (by kernel_rfl) ?_
  refine Step.mark (T := 24) (E := 5) (x := (.tmp 17)) (g := g36) (c := (List.length ([(13 : UInt8), (0 : UInt8)] : List UInt8))) (i := 4) (l := ([(13 : UInt8), (0 : UInt8)] : List UInt8)) (d := (some 18)) (k := 1) (by kernel_rfl) rfl (by kernel_rfl) (by kernel_rfl) (by kernel_rfl) hs39 rfl ?_
  intro w40 hs41
  have hs42 : SP [] w0 w40 [boxE g1 23 #[(.int .i64 6), (.string ⟨List.toArray ([119, 101, 98] : List UInt8)⟩), (.string ⟨List.toArray ([] : List UInt8)⟩), (.int .i64 10), (.int .i64 0)], rowT 5 eU8 A12 c13 z8, rdE eU8 (some ⟨g16, 0, none⟩) (List.length ([(7 : UInt8), (1 : UInt8), (97 : UInt8), (2 : UInt8), (131 : UInt8), (0 : UInt8)] : List UInt8)) ([(7 : UInt8), (1 : UInt8), (97 : UInt8), (2 : UInt8), (131 : UInt8), (0 : UInt8)] : List UInt8), boxE g29 23 #[(.int .i64 z23.1), (.string ⟨List.toArray z23.2.1⟩), (.string ⟨List.toArray z23.2.2.1⟩), (.int .i64 z23.2.2.2.1), (.int .i64 z23.2.2.2.2.1)], rdE eU8 (some ⟨g36, 0, none⟩) (List.length ([(13 : UInt8), (0 : UInt8)] : List UInt8)) ([(13 : UInt8), (0 : UInt8)] : List UInt8)] := hs41
  clear hs41
  obtain ⟨z43, hz44, H⟩ := bind_elim H
  refine In.step (k' := 3) rfl (by kernel_rfl) ?_
  refine Step.callF (f := 11) (fo := (.func 11)) (xs := #[(.tmp 18)]) (tys := #[24]) (first := #[]) (captured := #[]) (d := (some 19)) (k := 2) (by kernel_rfl) rfl (by kernel_rfl) (by kernel_rfl) Try.call11 (L_wire_Get_walk (some ⟨g36, 0, none⟩) (List.length ([(13 : UInt8), (0 : UInt8)] : List UInt8)) ([(13 : UInt8), (0 : UInt8)] : List UInt8) w40 (rdE_rd (SP.get hs42 (i := 4) rfl)) z43 hz44) ?_
  rintro e w45 ⟨rfl, hs46⟩
  refine ⟨_, rfl, ?_⟩
  have hs47 := SP.call hs42 hs46
  clear hs46
  have hs48 : SP [] w0 w45 [boxE g1 23 #[(.int .i64 6), (.string ⟨List.toArray ([119, 101, 98] : List UInt8)⟩), (.string ⟨List.toArray ([] : List UInt8)⟩), (.int .i64 10), (.int .i64 0)], rowT 5 eU8 A12 c13 z8, rdE eU8 (some ⟨g16, 0, none⟩) (List.length ([(7 : UInt8), (1 : UInt8), (97 : UInt8), (2 : UInt8), (131 : UInt8), (0 : UInt8)] : List UInt8)) ([(7 : UInt8), (1 : UInt8), (97 : UInt8), (2 : UInt8), (131 : UInt8), (0 : UInt8)] : List UInt8), boxE g29 23 #[(.int .i64 z23.1), (.string ⟨List.toArray z23.2.1⟩), (.string ⟨List.toArray z23.2.2.1⟩), (.int .i64 z23.2.2.2.1), (.int .i64 z23.2.2.2.2.1)], rdE eU8 (some ⟨g36, 0, none⟩) (List.length ([(13 : UInt8), (0 : UInt8)] : List UInt8)) ([(13 : UInt8), (0 : UInt8)] : List UInt8)] := hs47
  clear hs47
  refine In.run' 3 (k' := 6) rfl [(16, (.tuple #[(.agg #[(.int .i64 z43.1), (.string ⟨List.toArray z43.2.1⟩), (.string ⟨List.toArray z43.2.2.1⟩), (.int .i64 z43.2.2.2.1), (.int .i64 z43.2.2.2.2.1)]), (.bool z43.2.2.2.2.2)])), (20, (.agg #[(.int .i64 z43.1), (.string ⟨List.toArray z43.2.1⟩), (.string ⟨List.toArray z43.2.2.1⟩), (.int .i64 z43.2.2.2.1), (.int .i64 z43.2.2.2.2.1)])), (21, (.bool z43.2.2.2.2.2))] (by kernel_rfl) ?_
  refine In.step (k' := 7) rfl (by kernel_rfl) ?_
  refine Step.alloc (t := 23) (z := (.agg #[(.int .i64 0), (.string ⟨List.toArray ([] : List UInt8)⟩), (.string ⟨List.toArray ([] : List UInt8)⟩), (.int .i64 0), (.int .i64 0)])) (d := (some 5)) (k := 6) (by kernel_rfl) rfl (by kernel_rfl) hs48 ?_
  intro g49 w50 hs51
  have hs52 : SP [] w0 w50 [boxE g1 23 #[(.int .i64 6), (.string ⟨List.toArray ([119, 101, 98] : List UInt8)⟩), (.string ⟨List.toArray ([] : List UInt8)⟩), (.int .i64 10), (.int .i64 0)], rowT 5 eU8 A12 c13 z8, rdE eU8 (some ⟨g16, 0, none⟩) (List.length ([(7 : UInt8), (1 : UInt8), (97 : UInt8), (2 : UInt8), (131 : UInt8), (0 : UInt8)] : List UInt8)) ([(7 : UInt8), (1 : UInt8), (97 : UInt8), (2 : UInt8), (131 : UInt8), (0 : UInt8)] : List UInt8), boxE g29 23 #[(.int .i64 z23.1), (.string ⟨List.toArray z23.2.1⟩), (.string ⟨List.toArray z23.2.2.1⟩), (.int .i64 z23.2.2.2.1), (.int .i64 z23.2.2.2.2.1)], rdE eU8 (some ⟨g36, 0, none⟩) (List.length ([(13 : UInt8), (0 : UInt8)] : List UInt8)) ([(13 : UInt8), (0 : UInt8)] : List UInt8), boxE g49 23 #[(.int .i64 0), (.string ⟨List.toArray ([] : List UInt8)⟩), (.string ⟨List.toArray ([] : List UInt8)⟩), (.int .i64 0), (.int .i64 0)]] := hs51
  clear hs51
  refine In.step (k' := 8) rfl (by kernel_rfl) ?_
  refine Step.store (t := 23) (x := (.tmp 5)) (y := (.tmp 20)) (g := g49) (off := 0) (i := 5) (v := (.agg #[(.int .i64 z43.1), (.string ⟨List.toArray z43.2.1⟩), (.string ⟨List.toArray z43.2.2.1⟩), (.int .i64 z43.2.2.2.1), (.int .i64 z43.2.2.2.2.1)])) (cs' := #[(.int .i64 z43.1), (.string ⟨List.toArray z43.2.1⟩), (.string ⟨List.toArray z43.2.2.1⟩), (.int .i64 z43.2.2.2.1), (.int .i64 z43.2.2.2.2.1)]) (d := none) (k := 7) (by kernel_rfl) rfl (by kernel_rfl) (by kernel_rfl) hs52 rfl (by kernel_rfl) ?_
  intro w53 hs54
  have hs55 : SP [] w0 w53 [boxE g1 23 #[(.int .i64 6), (.string ⟨List.toArray ([119, 101, 98] : List UInt8)⟩), (.string ⟨List.toArray ([] : List UInt8)⟩), (.int .i64 10), (.int .i64 0)], rowT 5 eU8 A12 c13 z8, rdE eU8 (some ⟨g16, 0, none⟩) (List.length ([(7 : UInt8), (1 : UInt8), (97 : UInt8), (2 : UInt8), (131 : UInt8), (0 : UInt8)] : List UInt8)) ([(7 : UInt8), (1 : UInt8), (97 : UInt8), (2 : UInt8), (131 : UInt8), (0 : UInt8)] : List UInt8), boxE g29 23 #[(.int .i64 z23.1), (.string ⟨List.toArray z23.2.1⟩), (.string ⟨List.toArray z23.2.2.1⟩), (.int .i64 z23.2.2.2.1), (.int .i64 z23.2.2.2.2.1)], rdE eU8 (some ⟨g36, 0, none⟩) (List.length ([(13 : UInt8), (0 : UInt8)] : List UInt8)) ([(13 : UInt8), (0 : UInt8)] : List UInt8), boxE g49 23 #[(.int .i64 z43.1), (.string ⟨List.toArray z43.2.1⟩), (.string ⟨List.toArray z43.2.2.1⟩), (.int .i64 z43.2.2.2.1), (.int .i64 z43.2.2.2.2.1)]] := hs54
  clear hs54
  refine In.run' 1 (k' := 9) rfl [(6, (.bool z43.2.2.2.2.2))] (by kernel_rfl) ?_
  refine In.fin (by kernel_rfl) ?_
  refine At.seq (by kernel_rfl) (p0 := [true, true, true, true, true, false]) (p1 := [true, true, true, true, true, true]) rfl rfl ?_
  refine At.join (fun ρ w => ∃ (v80 : Bool), Known ρ [(0, (.bool v80))] ∧ SP [] w0 w [] ∧ L_subwaylaw05_head_k1 v80 = some r) ?_ ?_
  · refine At.region (by kernel_rfl) (by kernel_rfl) ?_
    refine In.run' 1 (k' := 1) rfl [(22, (.slice A12 (List.length z8) c13))] (by kernel_rfl) ?_
    refine In.step (k' := 2) rfl (by kernel_rfl) ?_
    refine Step.toStr (T := 24) (S' := 9) (E := 5) (x := (.tmp 22)) (A := A12) (c := c13) (l := z8) (d := (some 23)) (k := 1) (by kernel_rfl) rfl (by kernel_rfl) (by kernel_rfl) (by kernel_rfl) (by kernel_rfl) (rowT_rd (SP.get hs55 (i := 1) rfl)) ?_
    refine In.step (k' := 3) rfl (by kernel_rfl) ?_
    refine Step.strOp (op := .eql) (T := 9) (T' := 9) (x := (.tmp 23)) (y := (.const (.string ⟨List.toArray ([6, 3, 119, 101, 98, 10] : List UInt8)⟩))) (a := z8) (b := ([6, 3, 119, 101, 98, 10] : List UInt8)) (r := (.bool (z8 == ([6, 3, 119, 101, 98, 10] : List UInt8)))) (d := (some 24)) (k := 2) (by kernel_rfl) rfl (by kernel_rfl) (by kernel_rfl) rfl ?_
    refine In.run' 1 (k' := 4) rfl [(25, (.bool (z8 == ([6, 3, 119, 101, 98, 10] : List UInt8))))] (by kernel_rfl) ?_
    refine In.guard (t := 25) (b := (z8 == ([6, 3, 119, 101, 98, 10] : List UInt8))) (by kernel_rfl) (fun hb83 => ?_) (fun hb83 => ?_)
    · have H := ct H hb83
      refine In.run' 3 (k' := 7) rfl [(26, (.bool z23.2.2.2.2.2)), (27, (.bool z23.2.2.2.2.2)), (28, (.bool z23.2.2.2.2.2))] (by kernel_rfl) ?_
      refine In.guard (t := 28) (b := z23.2.2.2.2.2) (by kernel_rfl) (fun hb84 => ?_) (fun hb84 => ?_)
      · have H := ct H hb84
        refine In.step (k' := 8) rfl (by kernel_rfl) ?_
        refine Step.load (t := 23) (x := (.tmp 3)) (g := g29) (off := 0) (i := 3) (v := (.agg #[(.int .i64 z23.1), (.string ⟨List.toArray z23.2.1⟩), (.string ⟨List.toArray z23.2.2.1⟩), (.int .i64 z23.2.2.2.1), (.int .i64 z23.2.2.2.2.1)])) (d := (some 29)) (k := 7) (by kernel_rfl) rfl (by kernel_rfl) hs55 rfl (by kernel_rfl) ?_
        refine In.run' 1 (k' := 9) rfl [(30, (.agg #[(.int .i64 7), (.string ⟨List.toArray ([97] : List UInt8)⟩), (.string ⟨List.toArray ([] : List UInt8)⟩), (.int .i64 2), (.int .i64 384)]))] (by kernel_rfl) ?_
        refine In.step (k' := 10) rfl (by kernel_rfl) ?_
        refine Step.bin (op := .eql) (T := 23) (T' := 23) (x := (.tmp 29)) (y := (.tmp 30)) (vx := (.agg #[(.int .i64 z23.1), (.string ⟨List.toArray z23.2.1⟩), (.string ⟨List.toArray z23.2.2.1⟩), (.int .i64 z23.2.2.2.1), (.int .i64 z23.2.2.2.2.1)])) (vy := (.agg #[(.int .i64 7), (.string ⟨List.toArray ([97] : List UInt8)⟩), (.string ⟨List.toArray ([] : List UInt8)⟩), (.int .i64 2), (.int .i64 384)])) (v := (.bool ((z23.1 == 7) && ((z23.2.1 == ([97] : List UInt8)) && ((z23.2.2.1 == ([] : List UInt8)) && ((z23.2.2.2.1 == 2) && (z23.2.2.2.2.1 == 384))))))) (d := (some 31)) (k := 9) (by kernel_rfl) rfl (by kernel_rfl) (by kernel_rfl) (by clear H; intro w; simp only [beq_dec]; go_simp; simp only [struct_ifn, struct_ifn0, struct_if, beq_dec, Bool.and_true] <;> simp only [Bool.not_and]) ?_
        refine In.run' 2 (k' := 12) rfl [(32, (.bool ((z23.1 == 7) && ((z23.2.1 == ([97] : List UInt8)) && ((z23.2.2.1 == ([] : List UInt8)) && ((z23.2.2.2.1 == 2) && (z23.2.2.2.2.1 == 384))))))), (33, (.bool ((z23.1 == 7) && ((z23.2.1 == ([97] : List UInt8)) && ((z23.2.2.1 == ([] : List UInt8)) && ((z23.2.2.2.1 == 2) && (z23.2.2.2.2.1 == 384)))))))] (by kernel_rfl) ?_
        refine In.guard (t := 33) (b := ((z23.1 == 7) && ((z23.2.1 == ([97] : List UInt8)) && ((z23.2.2.1 == ([] : List UInt8)) && ((z23.2.2.2.1 == 2) && (z23.2.2.2.2.1 == 384)))))) (by kernel_rfl) (fun hb85 => ?_) (fun hb85 => ?_)
        · have H := ct H hb85
          refine In.run' 4 (k' := 16) rfl [(34, (.bool z43.2.2.2.2.2)), (35, (.bool (!z43.2.2.2.2.2))), (36, (.bool (!z43.2.2.2.2.2))), (37, (.bool (!z43.2.2.2.2.2)))] (by kernel_rfl) ?_
          refine In.guard (t := 37) (b := (!z43.2.2.2.2.2)) (by kernel_rfl) (fun hb86 => ?_) (fun hb86 => ?_)
          · have H := ct H hb86
            refine In.step (k' := 17) rfl (by kernel_rfl) ?_
            refine Step.load (t := 23) (x := (.tmp 1)) (g := g1) (off := 0) (i := 0) (v := (.agg #[(.int .i64 6), (.string ⟨List.toArray ([119, 101, 98] : List UInt8)⟩), (.string ⟨List.toArray ([] : List UInt8)⟩), (.int .i64 10), (.int .i64 0)])) (d := (some 38)) (k := 16) (by kernel_rfl) rfl (by kernel_rfl) hs55 rfl (by kernel_rfl) ?_
            obtain ⟨z87, hz88, H⟩ := bind_elim H
            refine In.step (k' := 18) rfl (by kernel_rfl) ?_
            refine Step.callF (f := 13) (fo := (.func 13)) (xs := #[(.tmp 38)]) (tys := #[23]) (first := #[]) (captured := #[]) (d := (some 39)) (k := 17) (by kernel_rfl) rfl (by kernel_rfl) (by kernel_rfl) Try.call13 (L_wire_Right_walk  6 ([119, 101, 98] : List UInt8) ([] : List UInt8) 10 0 w53  z87 hz88) ?_
            rintro e w89 ⟨rfl, hs90⟩
            refine ⟨_, rfl, ?_⟩
            have hs91 := SP.call hs55 hs90
            clear hs90
            have hs92 : SP [] w0 w89 [boxE g1 23 #[(.int .i64 6), (.string ⟨List.toArray ([119, 101, 98] : List UInt8)⟩), (.string ⟨List.toArray ([] : List UInt8)⟩), (.int .i64 10), (.int .i64 0)], rowT 5 eU8 A12 c13 z8, rdE eU8 (some ⟨g16, 0, none⟩) (List.length ([(7 : UInt8), (1 : UInt8), (97 : UInt8), (2 : UInt8), (131 : UInt8), (0 : UInt8)] : List UInt8)) ([(7 : UInt8), (1 : UInt8), (97 : UInt8), (2 : UInt8), (131 : UInt8), (0 : UInt8)] : List UInt8), boxE g29 23 #[(.int .i64 z23.1), (.string ⟨List.toArray z23.2.1⟩), (.string ⟨List.toArray z23.2.2.1⟩), (.int .i64 z23.2.2.2.1), (.int .i64 z23.2.2.2.2.1)], rdE eU8 (some ⟨g36, 0, none⟩) (List.length ([(13 : UInt8), (0 : UInt8)] : List UInt8)) ([(13 : UInt8), (0 : UInt8)] : List UInt8), boxE g49 23 #[(.int .i64 z43.1), (.string ⟨List.toArray z43.2.1⟩), (.string ⟨List.toArray z43.2.2.1⟩), (.int .i64 z43.2.2.2.1), (.int .i64 z43.2.2.2.2.1)]] := hs91
            clear hs91
            refine In.run' 2 (k' := 20) rfl [(40, (.bool z87)), (41, (.bool z87))] (by kernel_rfl) ?_
            refine In.guard (t := 41) (b := z87) (by kernel_rfl) (fun hb93 => ?_) (fun hb93 => ?_)
            · have H := ct H hb93
              refine In.run' 1 (k' := 21) rfl [(42, (.agg #[(.int .i64 13), (.string ⟨List.toArray ([] : List UInt8)⟩), (.string ⟨List.toArray ([] : List UInt8)⟩), (.int .i64 1), (.int .i64 0)]))] (by kernel_rfl) ?_
              obtain ⟨z94, hz95, H⟩ := bind_elim H
              refine In.step (k' := 22) rfl (by kernel_rfl) ?_
              refine Step.callF (f := 13) (fo := (.func 13)) (xs := #[(.tmp 42)]) (tys := #[23]) (first := #[]) (captured := #[]) (d := (some 43)) (k := 21) (by kernel_rfl) rfl (by kernel_rfl) (by kernel_rfl) Try.call13 (L_wire_Right_walk  13 ([] : List UInt8) ([] : List UInt8) 1 0 w89  z94 hz95) ?_
              rintro e w96 ⟨rfl, hs97⟩
              refine ⟨_, rfl, ?_⟩
              have hs98 := SP.call hs92 hs97
              clear hs97
              have hs99 : SP [] w0 w96 [boxE g1 23 #[(.int .i64 6), (.string ⟨List.toArray ([119, 101, 98] : List UInt8)⟩), (.string ⟨List.toArray ([] : List UInt8)⟩), (.int .i64 10), (.int .i64 0)], rowT 5 eU8 A12 c13 z8, rdE eU8 (some ⟨g16, 0, none⟩) (List.length ([(7 : UInt8), (1 : UInt8), (97 : UInt8), (2 : UInt8), (131 : UInt8), (0 : UInt8)] : List UInt8)) ([(7 : UInt8), (1 : UInt8), (97 : UInt8), (2 : UInt8), (131 : UInt8), (0 : UInt8)] : List UInt8), boxE g29 23 #[(.int .i64 z23.1), (.string ⟨List.toArray z23.2.1⟩), (.string ⟨List.toArray z23.2.2.1⟩), (.int .i64 z23.2.2.2.1), (.int .i64 z23.2.2.2.2.1)], rdE eU8 (some ⟨g36, 0, none⟩) (List.length ([(13 : UInt8), (0 : UInt8)] : List UInt8)) ([(13 : UInt8), (0 : UInt8)] : List UInt8), boxE g49 23 #[(.int .i64 z43.1), (.string ⟨List.toArray z43.2.1⟩), (.string ⟨List.toArray z43.2.2.1⟩), (.int .i64 z43.2.2.2.1), (.int .i64 z43.2.2.2.2.1)]] := hs98
              clear hs98
              refine In.run' 3 (k' := 25) rfl [(44, (.bool (!z94))), (45, (.bool (!z94))), (46, (.bool (!z94)))] (by kernel_rfl) ?_
              refine In.guard (t := 46) (b := (!z94)) (by kernel_rfl) (fun hb100 => ?_) (fun hb100 => ?_)
              · have H := ct H hb100
                refine In.run' 1 (k' := 26) rfl [(47, (.agg #[(.int .i64 0), (.string ⟨List.toArray ([] : List UInt8)⟩), (.string ⟨List.toArray ([] : List UInt8)⟩), (.int .i64 0), (.int .i64 0)]))] (by kernel_rfl) ?_
                obtain ⟨z101, hz102, H⟩ := bind_elim H
                refine In.step (k' := 27) rfl (by kernel_rfl) ?_
                refine Step.callF (f := 13) (fo := (.func 13)) (xs := #[(.tmp 47)]) (tys := #[23]) (first := #[]) (captured := #[]) (d := (some 48)) (k := 26) (by kernel_rfl) rfl (by kernel_rfl) (by kernel_rfl) Try.call13 (L_wire_Right_walk  0 ([] : List UInt8) ([] : List UInt8) 0 0 w96  z101 hz102) ?_
                rintro e w103 ⟨rfl, hs104⟩
                refine ⟨_, rfl, ?_⟩
                have hs105 := SP.call hs99 hs104
                clear hs104
                have hs106 : SP [] w0 w103 [boxE g1 23 #[(.int .i64 6), (.string ⟨List.toArray ([119, 101, 98] : List UInt8)⟩), (.string ⟨List.toArray ([] : List UInt8)⟩), (.int .i64 10), (.int .i64 0)], rowT 5 eU8 A12 c13 z8, rdE eU8 (some ⟨g16, 0, none⟩) (List.length ([(7 : UInt8), (1 : UInt8), (97 : UInt8), (2 : UInt8), (131 : UInt8), (0 : UInt8)] : List UInt8)) ([(7 : UInt8), (1 : UInt8), (97 : UInt8), (2 : UInt8), (131 : UInt8), (0 : UInt8)] : List UInt8), boxE g29 23 #[(.int .i64 z23.1), (.string ⟨List.toArray z23.2.1⟩), (.string ⟨List.toArray z23.2.2.1⟩), (.int .i64 z23.2.2.2.1), (.int .i64 z23.2.2.2.2.1)], rdE eU8 (some ⟨g36, 0, none⟩) (List.length ([(13 : UInt8), (0 : UInt8)] : List UInt8)) ([(13 : UInt8), (0 : UInt8)] : List UInt8), boxE g49 23 #[(.int .i64 z43.1), (.string ⟨List.toArray z43.2.1⟩), (.string ⟨List.toArray z43.2.2.1⟩), (.int .i64 z43.2.2.2.1), (.int .i64 z43.2.2.2.2.1)]] := hs105
                clear hs105
                refine In.run' 3 (k' := 30) rfl [(49, (.bool (!z101))), (50, (.bool (!z101))), (0, (.bool (!z101)))] (by kernel_rfl) ?_
                refine In.fin (by kernel_rfl) ?_
                exact ⟨(!z101), ⟨(by kernel_rfl), trivial⟩, SP.sel hs106 [] rfl rfl, H⟩
              · have H := cf H hb100
                refine In.run' 5 (k' := 30) rfl [(47, undef), (48, undef), (49, undef), (50, (.bool false)), (0, (.bool false))] (by kernel_rfl) ?_
                refine In.fin (by kernel_rfl) ?_
                exact ⟨false, ⟨(by kernel_rfl), trivial⟩, SP.sel hs99 [] rfl rfl, H⟩
            · have H := cf H hb93
              refine In.run' 10 (k' := 30) rfl [(42, undef), (43, undef), (44, undef), (45, (.bool false)), (46, (.bool false)), (47, undef), (48, undef), (49, undef), (50, (.bool false)), (0, (.bool false))] (by kernel_rfl) ?_
              refine In.fin (by kernel_rfl) ?_
              exact ⟨false, ⟨(by kernel_rfl), trivial⟩, SP.sel hs92 [] rfl rfl, H⟩
          · have H := cf H hb86
            refine In.run' 14 (k' := 30) rfl [(38, undef), (39, undef), (40, (.bool false)), (41, (.bool false)), (42, undef), (43, undef), (44, undef), (45, (.bool false)), (46, (.bool false)), (47, undef), (48, undef), (49, undef), (50, (.bool false)), (0, (.bool false))] (by kernel_rfl) ?_
            refine In.fin (by kernel_rfl) ?_
            exact ⟨false, ⟨(by kernel_rfl), trivial⟩, SP.sel hs55 [] rfl rfl, H⟩
        · have H := cf H hb85
          refine In.run' 18 (k' := 30) rfl [(34, undef), (35, undef), (36, (.bool false)), (37, (.bool false)), (38, undef), (39, undef), (40, (.bool false)), (41, (.bool false)), (42, undef), (43, undef), (44, undef), (45, (.bool false)), (46, (.bool false)), (47, undef), (48, undef), (49, undef), (50, (.bool false)), (0, (.bool false))] (by kernel_rfl) ?_
          refine In.fin (by kernel_rfl) ?_
          exact ⟨false, ⟨(by kernel_rfl), trivial⟩, SP.sel hs55 [] rfl rfl, H⟩
      · have H := cf H hb84
        refine In.run' 23 (k' := 30) rfl [(29, undef), (30, undef), (31, undef), (32, (.bool false)), (33, (.bool false)), (34, undef), (35, undef), (36, (.bool false)), (37, (.bool false)), (38, undef), (39, undef), (40, (.bool false)), (41, (.bool false)), (42, undef), (43, undef), (44, undef), (45, (.bool false)), (46, (.bool false)), (47, undef), (48, undef), (49, undef), (50, (.bool false)), (0, (.bool false))] (by kernel_rfl) ?_
        refine In.fin (by kernel_rfl) ?_
        exact ⟨false, ⟨(by kernel_rfl), trivial⟩, SP.sel hs55 [] rfl rfl, H⟩
    · have H := cf H hb83
      refine In.run' 26 (k' := 30) rfl [(26, undef), (27, (.bool false)), (28, (.bool false)), (29, undef), (30, undef), (31, undef), (32, (.bool false)), (33, (.bool false)), (34, undef), (35, undef), (36, (.bool false)), (37, (.bool false)), (38, undef), (39, undef), (40, (.bool false)), (41, (.bool false)), (42, undef), (43, undef), (44, undef), (45, (.bool false)), (46, (.bool false)), (47, undef), (48, undef), (49, undef), (50, (.bool false)), (0, (.bool false))] (by kernel_rfl) ?_
      refine In.fin (by kernel_rfl) ?_
      exact ⟨false, ⟨(by kernel_rfl), trivial⟩, SP.sel hs55 [] rfl rfl, H⟩
  · rintro ρ w81 ⟨v80, hk, hs82, H⟩
    unfold L_subwaylaw05_head_k1 at H
    refine At.known [(0, (.bool v80))] hk ?_
    refine At.ret (by kernel_rfl) ?_
    refine ⟨(.bool v80), by kernel_rfl, ?_⟩
    obtain rfl := some_elim H
    exact ⟨rfl, SP.sel hs82 [] rfl rfl⟩
end Go.Proofs.Ytjpchjbbfbmjgaa
