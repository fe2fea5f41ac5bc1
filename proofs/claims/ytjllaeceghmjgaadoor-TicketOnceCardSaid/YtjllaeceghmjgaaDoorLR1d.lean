/- LIFTED BY PROGRAM (tools/lift.py): what functions compute, and that they do. -/
import Derived.Test.YtjllaeceghmjgaaDoorStage
namespace Go.Proofs.YtjllaeceghmjgaaDoor
set_option linter.unusedSimpArgs false
set_option linter.unusedVariables false
open Go.RowKit

/-! L_subwayref01_Decimal -/
def L_subwayref01_Decimal_b2 (rec2 : Int → (List UInt8) → Option ((List UInt8))) (v22 : Int) (v23 : (List UInt8)) : Option ((List UInt8)) :=
  (cond (decide (v22 > 0)) ((app ([(toU8 (IntKind.wrap .u8 (IntKind.wrap .i64 (48 + (Int.tmod v22 10)))))] : List UInt8) v23).bind fun l36 => (rec2 (IntKind.wrap .i64 (Int.tdiv v22 10)) l36)) (some (v23)))
def L_subwayref01_Decimal_l2  : Nat → Int → (List UInt8) → Option ((List UInt8))
  | 0, _, _ => none
  | f + 1, v22, v23 => L_subwayref01_Decimal_b2  (L_subwayref01_Decimal_l2  f) v22 v23
def L_subwayref01_Decimal_k1 (p1 : Int) (v3 : Bool) : Option ((List UInt8)) :=
  (cond v3 (some (([] : List UInt8))) (L_subwayref01_Decimal_l2  fuel (IntKind.wrap .i64 (Int.tdiv p1 10)) ([(toU8 (IntKind.wrap .u8 (IntKind.wrap .i64 (48 + (Int.tmod p1 10)))))] : List UInt8)))
def L_subwayref01_Decimal (p1 : Int) : Option ((List UInt8)) :=
  (cond (decide (p1 < 0)) (L_subwayref01_Decimal_k1 p1 true) (L_subwayref01_Decimal_k1 p1 (decide (p1 > 1099511627776))))
set_option maxRecDepth 100000 in
set_option maxHeartbeats 4000000 in
theorem L_subwayref01_Decimal_walk  (p1 : Int) (w0 : World)  (r : ((List UInt8))) (H : L_subwayref01_Decimal p1 = some r) :
  Calls Tryd.prog 29 #[(.int .i64 p1)] w0 (fun e w' => e = .returned (.string ⟨List.toArray r⟩) ∧ SP [] w0 w' []) := by
 unfold L_subwayref01_Decimal at H
 refine calls_go (n := 31) Tryd.func29 K K K ?_
 have hs0 := SP.start [] w0
 refine At.sq K ?_
 refine At.region K K ?_
 refine In.run' 1 (k' := 1) rfl [(2, (.string ⟨List.toArray ([] : List UInt8)⟩))] K ?_
 refine In.fin K ?_
 refine At.sq K ?_
 refine At.sq K ?_
 refine At.join (fun ρ w => ∃ (v3 : Bool), Known ρ [(0, (.int .i64 p1)), (9, (.bool v3))] ∧ SP [] w0 w [] ∧ L_subwayref01_Decimal_k1 p1 v3 = some r) ?_ ?_
 ·refine At.region K K ?_
  refine In.run' 3 (k' := 3) rfl [(4, (.int .i64 p1)), (5, (.bool (decide (p1 < 0)))), (6, (.bool (decide (p1 < 0))))] K ?_
  refine In.guard (t := 6) (b := (decide (p1 < 0))) K (fun hb38 => ?_) (fun hb38 => ?_)
  ·have H := ct H hb38
   refine In.run' 3 (k' := 6) rfl [(7, undef), (8, undef), (9, (.bool true))] K ?_
   refine In.fin K ?_
   exact ⟨true, ⟨K, K, trivial⟩, SP.sel hs0 [] rfl rfl, H⟩
  ·have H := cf H hb38
   refine In.run' 3 (k' := 6) rfl [(7, (.int .i64 p1)), (8, (.bool (decide (p1 > 1099511627776)))), (9, (.bool (decide (p1 > 1099511627776))))] K ?_
   refine In.fin K ?_
   exact ⟨(decide (p1 > 1099511627776)), ⟨K, K, trivial⟩, SP.sel hs0 [] rfl rfl, H⟩
 ·rintro ρ w4 ⟨v3, hk, hs5, H⟩
  unfold L_subwayref01_Decimal_k1 at H
  first | refine At.known [(0, (.int .i64 p1)), (9, (.bool v3))] hk ?_ | rw [← known_updL (l := [(0, (.int .i64 p1)), (9, (.bool v3))]) hk]
  refine At.cd K (o := (.tmp 9)) K (b := v3) K (fun hb6 => ?_) (fun hb6 => ?_)
  ·have H := ct H hb6
   refine At.sq K ?_
   refine At.region K K ?_
   refine In.run' 1 (k' := 1) rfl [(2, (.string ⟨List.toArray ([] : List UInt8)⟩))] K ?_
   refine In.fin K ?_
   refine At.ret K ?_
   refine ⟨(.string ⟨List.toArray ([] : List UInt8)⟩), K, ?_⟩
   obtain rfl := some_elim H
   exact ⟨rfl, SP.sel hs5 [] rfl rfl⟩
  ·have H := cf H hb6
   refine At.skip K ?_
   refine At.sq K ?_
   refine At.region K K ?_
   refine In.run' 4 (k' := 4) rfl [(10, (.int .i64 p1)), (11, (.int .i64 (Int.tmod p1 10))), (12, (.int .i64 (IntKind.wrap .i64 (48 + (Int.tmod p1 10))))), (13, (.int .u8 (IntKind.wrap .u8 (IntKind.wrap .i64 (48 + (Int.tmod p1 10))))))] K ?_
   refine In.step (k' := 5) rfl K ?_
   refine Step.newSlice (e := eU8) (T := 50) (E := 5) (len := 1) (parts := #[(0, (.tmp 13))]) (cs := #[(.int .u8 (IntKind.wrap .u8 (IntKind.wrap .i64 (48 + (Int.tmod p1 10)))))]) ([(toU8 (IntKind.wrap .u8 (IntKind.wrap .i64 (48 + (Int.tmod p1 10)))))] : List UInt8) (d := (some 14)) (k := 4) K rfl (fun _ => K) hs5 (cells_cons8 (Or.inr ⟨rfl, (u8_wrap _)⟩) rfl) rfl rfl rfl ?_
   intro g7 w8 (hs10 : SP [] w0 w8 [rowT 5 eU8 (some ⟨g7, 0, none⟩) (List.length ([(toU8 (IntKind.wrap .u8 (IntKind.wrap .i64 (48 + (Int.tmod p1 10)))))] : List UInt8)) ([(toU8 (IntKind.wrap .u8 (IntKind.wrap .i64 (48 + (Int.tmod p1 10)))))] : List UInt8)])
   refine In.step (k' := 6) rfl K ?_
   refine Step.toStr (T := 50) (S' := 9) (E := 5) (x := (.tmp 14)) (A := (some ⟨g7, 0, none⟩)) (c := (List.length ([(toU8 (IntKind.wrap .u8 (IntKind.wrap .i64 (48 + (Int.tmod p1 10)))))] : List UInt8))) (l := ([(toU8 (IntKind.wrap .u8 (IntKind.wrap .i64 (48 + (Int.tmod p1 10)))))] : List UInt8)) (d := (some 15)) (k := 5) K rfl K K K K (rowT_rd (SP.get hs10 (i := 0) rfl)) ?_
   refine In.run' 1 (k' := 7) rfl [(3, (.string ⟨List.toArray ([(toU8 (IntKind.wrap .u8 (IntKind.wrap .i64 (48 + (Int.tmod p1 10)))))] : List UInt8)⟩))] K ?_
   refine In.fin K ?_
   refine At.sq K ?_
   refine At.sq K ?_
   refine At.region K K ?_
   refine In.run' 3 (k' := 3) rfl [(16, (.int .i64 p1)), (17, (.int .i64 (IntKind.wrap .i64 (Int.tdiv p1 10)))), (0, (.int .i64 (IntKind.wrap .i64 (Int.tdiv p1 10))))] K ?_
   refine In.fin K ?_
   refine At.bk K (id := 0) K ?_
   refine At.lp K (fun f2 ρ w => ∃ (v22 : Int) (v23 : (List UInt8)), Known ρ [(0, (.int .i64 v22)), (3, (.string ⟨List.toArray v23⟩))] ∧ SP [] w0 w [] ∧ L_subwayref01_Decimal_l2  f2 v22 v23 = some r) (by rintro ρ w ⟨v22, v23, hk, hs, H⟩; cases H) ?_ fuel ?_
   ·rintro f2 ρ w20 ⟨v22, v23, hk, hs21, H⟩
    refine At.known [(0, (.int .i64 v22)), (3, (.string ⟨List.toArray v23⟩))] hk ?_
    replace H := (show L_subwayref01_Decimal_b2 (L_subwayref01_Decimal_l2 f2) v22 v23 = some r from H)
    unfold L_subwayref01_Decimal_b2 at H
    refine At.sq K ?_
    refine At.sq K ?_
    refine At.region K K ?_
    refine In.run' 2 (k' := 2) rfl [(18, (.int .i64 v22)), (19, (.bool (decide (v22 > 0))))] K ?_
    refine In.fin K ?_
    refine At.cd K (o := (.tmp 19)) K (b := (decide (v22 > 0))) K (fun hb31 => ?_) (fun hb31 => ?_)
    ·have H := ct H hb31
     refine At.skip K ?_
     refine At.sq K ?_
     refine At.bk K (id := 1) K ?_
     refine At.region K K ?_
     refine In.run' 4 (k' := 4) rfl [(22, (.int .i64 v22)), (23, (.int .i64 (Int.tmod v22 10))), (24, (.int .i64 (IntKind.wrap .i64 (48 + (Int.tmod v22 10))))), (25, (.int .u8 (IntKind.wrap .u8 (IntKind.wrap .i64 (48 + (Int.tmod v22 10))))))] K ?_
     refine In.step (k' := 5) rfl K ?_
     refine Step.newSlice (e := eU8) (T := 50) (E := 5) (len := 1) (parts := #[(0, (.tmp 25))]) (cs := #[(.int .u8 (IntKind.wrap .u8 (IntKind.wrap .i64 (48 + (Int.tmod v22 10)))))]) ([(toU8 (IntKind.wrap .u8 (IntKind.wrap .i64 (48 + (Int.tmod v22 10)))))] : List UInt8) (d := (some 26)) (k := 4) K rfl (fun _ => K) hs21 (cells_cons8 (Or.inr ⟨rfl, (u8_wrap _)⟩) rfl) rfl rfl rfl ?_
     intro g32 w33 (hs35 : SP [] w0 w33 [rowT 5 eU8 (some ⟨g32, 0, none⟩) (List.length ([(toU8 (IntKind.wrap .u8 (IntKind.wrap .i64 (48 + (Int.tmod v22 10)))))] : List UInt8)) ([(toU8 (IntKind.wrap .u8 (IntKind.wrap .i64 (48 + (Int.tmod v22 10)))))] : List UInt8)])
     refine In.step (k' := 6) rfl K ?_
     refine Step.toStr (T := 50) (S' := 9) (E := 5) (x := (.tmp 26)) (A := (some ⟨g32, 0, none⟩)) (c := (List.length ([(toU8 (IntKind.wrap .u8 (IntKind.wrap .i64 (48 + (Int.tmod v22 10)))))] : List UInt8))) (l := ([(toU8 (IntKind.wrap .u8 (IntKind.wrap .i64 (48 + (Int.tmod v22 10)))))] : List UInt8)) (d := (some 27)) (k := 5) K rfl K K K K (rowT_rd (SP.get hs35 (i := 0) rfl)) ?_
     refine In.run' 1 (k' := 7) rfl [(28, (.string ⟨List.toArray v23⟩))] K ?_
     obtain ⟨hl37, H⟩ := app_elim H
     obtain ⟨l36, hyl36⟩ : ∃ y, ([(toU8 (IntKind.wrap .u8 (IntKind.wrap .i64 (48 + (Int.tmod v22 10)))))] : List UInt8) ++ v23 = y := ⟨_, rfl⟩
     rw [hyl36] at H
     refine In.step (k' := 8) rfl K ?_
     refine Step.strCat (T := 9) (T' := 9) (x := (.tmp 27)) (y := (.tmp 28)) (a := ([(toU8 (IntKind.wrap .u8 (IntKind.wrap .i64 (48 + (Int.tmod v22 10)))))] : List UInt8)) (b := v23) (d := (some 29)) (k := 7) K rfl K K hl37 ?_
     rw [hyl36]
     refine In.run' 1 (k' := 9) rfl [(3, (.string ⟨List.toArray l36⟩))] K ?_
     refine In.fin K ?_
     refine At.region K K ?_
     refine In.run' 3 (k' := 3) rfl [(20, (.int .i64 v22)), (21, (.int .i64 (IntKind.wrap .i64 (Int.tdiv v22 10)))), (0, (.int .i64 (IntKind.wrap .i64 (Int.tdiv v22 10))))] K ?_
     refine In.fin K ?_
     exact ⟨(IntKind.wrap .i64 (Int.tdiv v22 10)), l36, ⟨K, K, trivial⟩, SP.sel hs35 [] rfl rfl, H⟩
    ·have H := cf H hb31
     refine At.exit K (id := 0) K ?_
     refine At.sq K ?_
     refine At.region K K ?_
     refine In.run' 2 (k' := 2) rfl [(30, (.string ⟨List.toArray v23⟩)), (2, (.string ⟨List.toArray v23⟩))] K ?_
     refine In.fin K ?_
     refine At.ret K ?_
     refine ⟨(.string ⟨List.toArray v23⟩), K, ?_⟩
     obtain rfl := some_elim H
     exact ⟨rfl, SP.sel hs21 [] rfl rfl⟩
   ·exact ⟨(IntKind.wrap .i64 (Int.tdiv p1 10)), ([(toU8 (IntKind.wrap .u8 (IntKind.wrap .i64 (48 + (Int.tmod p1 10)))))] : List UInt8), ⟨K, K, trivial⟩, SP.sel hs10 [] rfl rfl, H⟩
end Go.Proofs.YtjllaeceghmjgaaDoor
