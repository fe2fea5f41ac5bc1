/- LIFTED BY PROGRAM (tools/lift.py): what functions compute, and that they do. -/
import Derived.Test.YthnakiihenbcjaaDoorStage
namespace Go.Proofs.YthnakiihenbcjaaDoor
set_option linter.unusedSimpArgs false
set_option linter.unusedVariables false
open Go.RowKit

/-! L_subwayref01_Decimal -/
def L_subwayref01_Decimal_b2 (rec2 : Int → (List UInt8) → Option ((List UInt8))) (v22 : Int) (v23 : (List UInt8)) : Option ((List UInt8)) :=
  (cond (decide (v22 > 0)) ((app ([(toU8 (IntKind.wrap .u8 (IntKind.wrap .i64 (48 + (Int.tmod v22 10)))))] : List UInt8) v23).bind fun l36 => (rec2 (IntKind.wrap .i64 (Int.tdiv v22 10)) l36)) (some (v23)))
def L_subwayref01_Decimal_l2  : Nat → Int → (List UInt8) → Option ((List UInt8))
  | 0, _, _ => none
  | f + 1, v22, v23 => L_subwayref01_Decimal_b2  (L_subwayref01_Decimal_l2  f) v22 v23
def L_subwayref01_Decimal_k1 (p1 : Int) (v3 : Bool) : Option ((List UInt8)) :=
  (cond v3 (some (([] : List UInt8))) (L_subwayref01_Decimal_l2  fuel (IntKind.wrap .i64 (Int.tdiv p1 10)) ([(toU8 (IntKind.wrap .u8 (IntKind.wrap .i64 (48 + (Int.tmod p1 10)))))] : List UInt8)))
def L_subwayref01_Decimal (p1 : Int) : Option ((List UInt8)) :=
  (cond (decide (p1 < 0)) (L_subwayref01_Decimal_k1 p1 true) (L_subwayref01_Decimal_k1 p1 (decide (p1 > 1099511627776))))
set_option maxRecDepth 100000 in
set_option maxHeartbeats 4000000 in
theorem L_subwayref01_Decimal_walk  (p1 : Int) (w0 : World)  (r : ((List UInt8))) (H : L_subwayref01_Decimal p1 = some r) :
  Calls Tryd.prog 34 #[(.int .i64 p1)] w0 (fun e w' => e = .returned (.string ⟨List.toArray r⟩) ∧ SP [] w0 w' []) := by
 unfold L_subwayref01_Decimal at H
 refine calls_start (n := 31) Tryd.func34 (by kernel_rfl) (by kernel_rfl) (by kernel_rfl) ?_
 have hs0 := SP.start [] w0
 refine At.seq (by kernel_rfl) (p0 := [false]) (p1 := [true]) rfl rfl ?_
 refine At.region (by kernel_rfl) (by kernel_rfl) ?_
 refine In.run' 1 (k' := 1) rfl [(2, (.string ⟨List.toArray ([] : List UInt8)⟩))] (by kernel_rfl) ?_
 refine In.fin (by kernel_rfl) ?_
 refine At.seq (by kernel_rfl) (p0 := [true, false]) (p1 := [true, true]) rfl rfl ?_
 refine At.seq (by kernel_rfl) (p0 := [true, false, false]) (p1 := [true, false, true]) rfl rfl ?_
 refine At.join (fun ρ w => ∃ (v3 : Bool), Known ρ [(0, (.int .i64 p1)), (9, (.bool v3))] ∧ SP [] w0 w [] ∧ L_subwayref01_Decimal_k1 p1 v3 = some r) ?_ ?_
 ·refine At.region (by kernel_rfl) (by kernel_rfl) ?_
  refine In.run' 3 (k' := 3) rfl [(4, (.int .i64 p1)), (5, (.bool (decide (p1 < 0)))), (6, (.bool (decide (p1 < 0))))] (by kernel_rfl) ?_
  refine In.guard (t := 6) (b := (decide (p1 < 0))) (by kernel_rfl) (fun hb38 => ?_) (fun hb38 => ?_)
  ·have H := ct H hb38
   refine In.run' 3 (k' := 6) rfl [(7, undef), (8, undef), (9, (.bool true))] (by kernel_rfl) ?_
   refine In.fin (by kernel_rfl) ?_
   exact ⟨true, ⟨(by kernel_rfl), (by kernel_rfl), trivial⟩, SP.sel hs0 [] rfl rfl, H⟩
  ·have H := cf H hb38
   refine In.run' 3 (k' := 6) rfl [(7, (.int .i64 p1)), (8, (.bool (decide (p1 > 1099511627776)))), (9, (.bool (decide (p1 > 1099511627776))))] (by kernel_rfl) ?_
   refine In.fin (by kernel_rfl) ?_
   exact ⟨(decide (p1 > 1099511627776)), ⟨(by kernel_rfl), (by kernel_rfl), trivial⟩, SP.sel hs0 [] rfl rfl, H⟩
 ·rintro ρ w4 ⟨v3, hk, hs5, H⟩
  unfold L_subwayref01_Decimal_k1 at H
  refine At.known [(0, (.int .i64 p1)), (9, (.bool v3))] hk ?_
  refine At.cond (by kernel_rfl) (o := (.tmp 9)) (by kernel_rfl) (b := v3) (by kernel_rfl) (p0 := [true, false, true, false]) (p1 := [true, false, true, true]) rfl rfl (fun hb6 => ?_) (fun hb6 => ?_)
  ·have H := ct H hb6
   refine At.seq (by kernel_rfl) (p0 := [true, false, true, false, false]) (p1 := [true, false, true, false, true]) rfl rfl ?_
   refine At.region (by kernel_rfl) (by kernel_rfl) ?_
   refine In.run' 1 (k' := 1) rfl [(2, (.string ⟨List.toArray ([] : List UInt8)⟩))] (by kernel_rfl) ?_
   refine In.fin (by kernel_rfl) ?_
   refine At.ret (by kernel_rfl) ?_
   refine ⟨(.string ⟨List.toArray ([] : List UInt8)⟩), by kernel_rfl, ?_⟩
   obtain rfl := some_elim H
   exact ⟨rfl, SP.sel hs5 [] rfl rfl⟩
  ·have H := cf H hb6
   refine At.skip (by kernel_rfl) ?_
   refine At.seq (by kernel_rfl) (p0 := [true, true, false]) (p1 := [true, true, true]) rfl rfl ?_
   refine At.region (by kernel_rfl) (by kernel_rfl) ?_
   refine In.run' 4 (k' := 4) rfl [(10, (.int .i64 p1)), (11, (.int .i64 (Int.tmod p1 10))), (12, (.int .i64 (IntKind.wrap .i64 (48 + (Int.tmod p1 10))))), (13, (.int .u8 (IntKind.wrap .u8 (IntKind.wrap .i64 (48 + (Int.tmod p1 10))))))] (by kernel_rfl) ?_
   refine In.step (k' := 5) rfl (by kernel_rfl) ?_
   refine Step.newSlice (e := eU8) (T := 39) (E := 5) (len := 1) (parts := #[(0, (.tmp 13))]) (cs := #[(.int .u8 (IntKind.wrap .u8 (IntKind.wrap .i64 (48 + (Int.tmod p1 10)))))]) ([(toU8 (IntKind.wrap .u8 (IntKind.wrap .i64 (48 + (Int.tmod p1 10)))))] : List UInt8) (d := (some 14)) (k := 4) (by kernel_rfl) rfl (fun _ => by kernel_rfl) hs5 (cells_cons8 (Or.inr ⟨rfl, (u8_wrap _)⟩) rfl) rfl rfl rfl ?_
   intro g7 w8 hs9
   have hs10 : SP [] w0 w8 [rowT 5 eU8 (some ⟨g7, 0, none⟩) (List.length ([(toU8 (IntKind.wrap .u8 (IntKind.wrap .i64 (48 + (Int.tmod p1 10)))))] : List UInt8)) ([(toU8 (IntKind.wrap .u8 (IntKind.wrap .i64 (48 + (Int.tmod p1 10)))))] : List UInt8)] := hs9
   clear hs9
   refine In.step (k' := 6) rfl (by kernel_rfl) ?_
   refine Step.toStr (T := 39) (S' := 9) (E := 5) (x := (.tmp 14)) (A := (some ⟨g7, 0, none⟩)) (c := (List.length ([(toU8 (IntKind.wrap .u8 (IntKind.wrap .i64 (48 + (Int.tmod p1 10)))))] : List UInt8))) (l := ([(toU8 (IntKind.wrap .u8 (IntKind.wrap .i64 (48 + (Int.tmod p1 10)))))] : List UInt8)) (d := (some 15)) (k := 5) (by kernel_rfl) rfl (by kernel_rfl) (by kernel_rfl) (by kernel_rfl) (by kernel_rfl) (rowT_rd (SP.get hs10 (i := 0) rfl)) ?_
   refine In.run' 1 (k' := 7) rfl [(3, (.string ⟨List.toArray ([(toU8 (IntKind.wrap .u8 (IntKind.wrap .i64 (48 + (Int.tmod p1 10)))))] : List UInt8)⟩))] (by kernel_rfl) ?_
   refine In.fin (by kernel_rfl) ?_
   refine At.seq (by kernel_rfl) (p0 := [true, true, true, false]) (p1 := [true, true, true, true]) rfl rfl ?_
   refine At.seq (by kernel_rfl) (p0 := [true, true, true, false, false]) (p1 := [true, true, true, false, true]) rfl rfl ?_
   refine At.region (by kernel_rfl) (by kernel_rfl) ?_
   refine In.run' 3 (k' := 3) rfl [(16, (.int .i64 p1)), (17, (.int .i64 (IntKind.wrap .i64 (Int.tdiv p1 10)))), (0, (.int .i64 (IntKind.wrap .i64 (Int.tdiv p1 10))))] (by kernel_rfl) ?_
   refine In.fin (by kernel_rfl) ?_
   refine At.block (by kernel_rfl) (id := 0) (by kernel_rfl) (p0 := [true, true, true, false, true, false]) rfl ?_
   refine At.loop (by kernel_rfl) (p0 := [true, true, true, false, true, false, false]) rfl (fun f2 ρ w => ∃ (v22 : Int) (v23 : (List UInt8)), Known ρ [(0, (.int .i64 v22)), (3, (.string ⟨List.toArray v23⟩))] ∧ SP [] w0 w [] ∧ L_subwayref01_Decimal_l2  f2 v22 v23 = some r) (by rintro ρ w ⟨v22, v23, hk, hs, H⟩; cases H) ?_ fuel ?_
   ·rintro f2 ρ w20 ⟨v22, v23, hk, hs21, H⟩
    refine At.known [(0, (.int .i64 v22)), (3, (.string ⟨List.toArray v23⟩))] hk ?_
    replace H := (show L_subwayref01_Decimal_b2 (L_subwayref01_Decimal_l2 f2) v22 v23 = some r from H)
    unfold L_subwayref01_Decimal_b2 at H
    refine At.seq (by kernel_rfl) (p0 := [true, true, true, false, true, false, false, false]) (p1 := [true, true, true, false, true, false, false, true]) rfl rfl ?_
    refine At.seq (by kernel_rfl) (p0 := [true, true, true, false, true, false, false, false, false]) (p1 := [true, true, true, false, true, false, false, false, true]) rfl rfl ?_
    refine At.region (by kernel_rfl) (by kernel_rfl) ?_
    refine In.run' 2 (k' := 2) rfl [(18, (.int .i64 v22)), (19, (.bool (decide (v22 > 0))))] (by kernel_rfl) ?_
    refine In.fin (by kernel_rfl) ?_
    refine At.cond (by kernel_rfl) (o := (.tmp 19)) (by kernel_rfl) (b := (decide (v22 > 0))) (by kernel_rfl) (p0 := [true, true, true, false, true, false, false, false, true, false]) (p1 := [true, true, true, false, true, false, false, false, true, true]) rfl rfl (fun hb31 => ?_) (fun hb31 => ?_)
    ·have H := ct H hb31
     refine At.skip (by kernel_rfl) ?_
     refine At.seq (by kernel_rfl) (p0 := [true, true, true, false, true, false, false, true, false]) (p1 := [true, true, true, false, true, false, false, true, true]) rfl rfl ?_
     refine At.block (by kernel_rfl) (id := 1) (by kernel_rfl) (p0 := [true, true, true, false, true, false, false, true, false, false]) rfl ?_
     refine At.region (by kernel_rfl) (by kernel_rfl) ?_
     refine In.run' 4 (k' := 4) rfl [(22, (.int .i64 v22)), (23, (.int .i64 (Int.tmod v22 10))), (24, (.int .i64 (IntKind.wrap .i64 (48 + (Int.tmod v22 10))))), (25, (.int .u8 (IntKind.wrap .u8 (IntKind.wrap .i64 (48 + (Int.tmod v22 10))))))] (by kernel_rfl) ?_
     refine In.step (k' := 5) rfl (by kernel_rfl) ?_
     refine Step.newSlice (e := eU8) (T := 39) (E := 5) (len := 1) (parts := #[(0, (.tmp 25))]) (cs := #[(.int .u8 (IntKind.wrap .u8 (IntKind.wrap .i64 (48 + (Int.tmod v22 10)))))]) ([(toU8 (IntKind.wrap .u8 (IntKind.wrap .i64 (48 + (Int.tmod v22 10)))))] : List UInt8) (d := (some 26)) (k := 4) (by kernel_rfl) rfl (fun _ => by kernel_rfl) hs21 (cells_cons8 (Or.inr ⟨rfl, (u8_wrap _)⟩) rfl) rfl rfl rfl ?_
     intro g32 w33 hs34
     have hs35 : SP [] w0 w33 [rowT 5 eU8 (some ⟨g32, 0, none⟩) (List.length ([(toU8 (IntKind.wrap .u8 (IntKind.wrap .i64 (48 + (Int.tmod v22 10)))))] : List UInt8)) ([(toU8 (IntKind.wrap .u8 (IntKind.wrap .i64 (48 + (Int.tmod v22 10)))))] : List UInt8)] := hs34
     clear hs34
     refine In.step (k' := 6) rfl (by kernel_rfl) ?_
     refine Step.toStr (T := 39) (S' := 9) (E := 5) (x := (.tmp 26)) (A := (some ⟨g32, 0, none⟩)) (c := (List.length ([(toU8 (IntKind.wrap .u8 (IntKind.wrap .i64 (48 + (Int.tmod v22 10)))))] : List UInt8))) (l := ([(toU8 (IntKind.wrap .u8 (IntKind.wrap .i64 (48 + (Int.tmod v22 10)))))] : List UInt8)) (d := (some 27)) (k := 5) (by kernel_rfl) rfl (by kernel_rfl) (by kernel_rfl) (by kernel_rfl) (by kernel_rfl) (rowT_rd (SP.get hs35 (i := 0) rfl)) ?_
     refine In.run' 1 (k' := 7) rfl [(28, (.string ⟨List.toArray v23⟩))] (by kernel_rfl) ?_
     obtain ⟨hl37, H⟩ := app_elim H
     obtain ⟨l36, hyl36⟩ : ∃ y, ([(toU8 (IntKind.wrap .u8 (IntKind.wrap .i64 (48 + (Int.tmod v22 10)))))] : List UInt8) ++ v23 = y := ⟨_, rfl⟩
     rw [hyl36] at H
     refine In.step (k' := 8) rfl (by kernel_rfl) ?_
     refine Step.strCat (T := 9) (T' := 9) (x := (.tmp 27)) (y := (.tmp 28)) (a := ([(toU8 (IntKind.wrap .u8 (IntKind.wrap .i64 (48 + (Int.tmod v22 10)))))] : List UInt8)) (b := v23) (d := (some 29)) (k := 7) (by kernel_rfl) rfl (by kernel_rfl) (by kernel_rfl) hl37 ?_
     rw [hyl36]
     refine In.run' 1 (k' := 9) rfl [(3, (.string ⟨List.toArray l36⟩))] (by kernel_rfl) ?_
     refine In.fin (by kernel_rfl) ?_
     refine At.region (by kernel_rfl) (by kernel_rfl) ?_
     refine In.run' 3 (k' := 3) rfl [(20, (.int .i64 v22)), (21, (.int .i64 (IntKind.wrap .i64 (Int.tdiv v22 10)))), (0, (.int .i64 (IntKind.wrap .i64 (Int.tdiv v22 10))))] (by kernel_rfl) ?_
     refine In.fin (by kernel_rfl) ?_
     exact ⟨(IntKind.wrap .i64 (Int.tdiv v22 10)), l36, ⟨(by kernel_rfl), (by kernel_rfl), trivial⟩, SP.sel hs35 [] rfl rfl, H⟩
    ·have H := cf H hb31
     refine At.exit (by kernel_rfl) (id := 0) (by kernel_rfl) ?_
     refine At.seq (by kernel_rfl) (p0 := [true, true, true, true, false]) (p1 := [true, true, true, true, true]) rfl rfl ?_
     refine At.region (by kernel_rfl) (by kernel_rfl) ?_
     refine In.run' 2 (k' := 2) rfl [(30, (.string ⟨List.toArray v23⟩)), (2, (.string ⟨List.toArray v23⟩))] (by kernel_rfl) ?_
     refine In.fin (by kernel_rfl) ?_
     refine At.ret (by kernel_rfl) ?_
     refine ⟨(.string ⟨List.toArray v23⟩), by kernel_rfl, ?_⟩
     obtain rfl := some_elim H
     exact ⟨rfl, SP.sel hs21 [] rfl rfl⟩
   ·exact ⟨(IntKind.wrap .i64 (Int.tdiv p1 10)), ([(toU8 (IntKind.wrap .u8 (IntKind.wrap .i64 (48 + (Int.tmod p1 10)))))] : List UInt8), ⟨(by kernel_rfl), (by kernel_rfl), trivial⟩, SP.sel hs10 [] rfl rfl, H⟩
/-! L_subwayref01_Parse -/
def L_subwayref01_Parse_k6 (rec5 : Int → Int → Option (Int × Bool)) (p1 : (List UInt8)) (v53 : Int) (v54 : Int) (v113 : Bool) : Option (Int × Bool) :=
  (cond v113 (some (0, false)) ((idx p1 v54).bind fun x117 => (rec5 (IntKind.wrap .i64 ((IntKind.wrap .i64 (10 * v53)) + (IntKind.wrap .i64 (IntKind.wrap .u8 (((x117).toNat : Int) - 48))))) (IntKind.wrap .i64 (v54 + 1)))))
def L_subwayref01_Parse_k7 (rec5 : Int → Int → Option (Int × Bool)) (v53 : Int) (v138 : Bool) : Option (Int × Bool) :=
  (cond v138 (some (0, false)) (some (v53, true)))
def L_subwayref01_Parse_b3 (rec5 : Int → Int → Option (Int × Bool)) (p1 : (List UInt8)) (v53 : Int) (v54 : Int) : Option (Int × Bool) :=
  (cond (decide (v54 < ((List.length p1 : Nat) : Int))) ((idx p1 v54).bind fun x121 => (cond (decide (((x121).toNat : Int) < 48)) (L_subwayref01_Parse_k6 rec5 p1 v53 v54 true) ((idx p1 v54).bind fun x126 => (cond (decide (((x126).toNat : Int) > 57)) (L_subwayref01_Parse_k6 rec5 p1 v53 v54 true) (L_subwayref01_Parse_k6 rec5 p1 v53 v54 (decide (v54 ≥ 13))))))) (cond (((List.length p1 : Nat) : Int) == 0) (L_subwayref01_Parse_k7 rec5 v53 true) ((idx p1 0).bind fun x143 => (cond (((x143).toNat : Int) == 48) (cond (decide (((List.length p1 : Nat) : Int) > 1)) (L_subwayref01_Parse_k7 rec5 v53 true) (L_subwayref01_Parse_k7 rec5 v53 (decide (v53 > 1099511627776)))) (L_subwayref01_Parse_k7 rec5 v53 (decide (v53 > 1099511627776)))))))
def L_subwayref01_Parse_l3 (p1 : (List UInt8)) : Nat → Int → Int → Option (Int × Bool)
  | 0, _, _ => none
  | f + 1, v53, v54 => L_subwayref01_Parse_b3  (L_subwayref01_Parse_l3 p1 f) p1 v53 v54
def L_subwayref01_Parse (p1 : (List UInt8)) : Option (Int × Bool) :=
  (L_subwayref01_Parse_l3 p1 fuel 0 0)
set_option maxRecDepth 100000 in
set_option maxHeartbeats 4000000 in
theorem L_subwayref01_Parse_walk  (p1 : (List UInt8)) (w0 : World)  (r : (Int × Bool)) (H : L_subwayref01_Parse p1 = some r) :
  Calls Tryd.prog 27 #[(.string ⟨List.toArray p1⟩)] w0 (fun e w' => e = .returned (.tuple #[(.int .i64 r.1), (.bool r.2)]) ∧ SP [] w0 w' []) := by
 unfold L_subwayref01_Parse at H
 refine calls_start (n := 52) Tryd.func27 (by kernel_rfl) (by kernel_rfl) (by kernel_rfl) ?_
 have hs0 := SP.start [] w0
 refine At.seq (by kernel_rfl) (p0 := [false]) (p1 := [true]) rfl rfl ?_
 refine At.region (by kernel_rfl) (by kernel_rfl) ?_
 refine In.run' 2 (k' := 2) rfl [(2, (.int .i64 0)), (3, (.bool false))] (by kernel_rfl) ?_
 refine In.fin (by kernel_rfl) ?_
 refine At.seq (by kernel_rfl) (p0 := [true, false]) (p1 := [true, true]) rfl rfl ?_
 refine At.region (by kernel_rfl) (by kernel_rfl) ?_
 refine In.run' 1 (k' := 1) rfl [(4, (.int .i64 0))] (by kernel_rfl) ?_
 refine In.fin (by kernel_rfl) ?_
 refine At.seq (by kernel_rfl) (p0 := [true, true, false]) (p1 := [true, true, true]) rfl rfl ?_
 refine At.seq (by kernel_rfl) (p0 := [true, true, false, false]) (p1 := [true, true, false, true]) rfl rfl ?_
 refine At.region (by kernel_rfl) (by kernel_rfl) ?_
 refine In.run' 1 (k' := 1) rfl [(5, (.int .i64 0))] (by kernel_rfl) ?_
 refine In.fin (by kernel_rfl) ?_
 refine At.block (by kernel_rfl) (id := 0) (by kernel_rfl) (p0 := [true, true, false, true, false]) rfl ?_
 refine At.loop (by kernel_rfl) (p0 := [true, true, false, true, false, false]) rfl (fun f5 ρ w => ∃ (v53 : Int) (v54 : Int), Known ρ [(0, (.string ⟨List.toArray p1⟩)), (4, (.int .i64 v53)), (5, (.int .i64 v54))] ∧ SP [] w0 w [] ∧ L_subwayref01_Parse_l3 p1 f5 v53 v54 = some r) (by rintro ρ w ⟨v53, v54, hk, hs, H⟩; cases H) ?_ fuel ?_
 ·rintro f5 ρ w51 ⟨v53, v54, hk, hs52, H⟩
  refine At.known [(0, (.string ⟨List.toArray p1⟩)), (4, (.int .i64 v53)), (5, (.int .i64 v54))] hk ?_
  replace H := (show L_subwayref01_Parse_b3 (L_subwayref01_Parse_l3 p1 f5) p1 v53 v54 = some r from H)
  unfold L_subwayref01_Parse_b3 at H
  refine At.seq (by kernel_rfl) (p0 := [true, true, false, true, false, false, false]) (p1 := [true, true, false, true, false, false, true]) rfl rfl ?_
  refine At.seq (by kernel_rfl) (p0 := [true, true, false, true, false, false, false, false]) (p1 := [true, true, false, true, false, false, false, true]) rfl rfl ?_
  refine At.region (by kernel_rfl) (by kernel_rfl) ?_
  refine In.run' 4 (k' := 4) rfl [(6, (.int .i64 v54)), (7, (.string ⟨List.toArray p1⟩)), (8, (.int .i64 ((List.length p1 : Nat) : Int))), (9, (.bool (decide (v54 < ((List.length p1 : Nat) : Int)))))] (by kernel_rfl) ?_
  refine In.fin (by kernel_rfl) ?_
  refine At.cond (by kernel_rfl) (o := (.tmp 9)) (by kernel_rfl) (b := (decide (v54 < ((List.length p1 : Nat) : Int)))) (by kernel_rfl) (p0 := [true, true, false, true, false, false, false, true, false]) (p1 := [true, true, false, true, false, false, false, true, true]) rfl rfl (fun hb102 => ?_) (fun hb102 => ?_)
  ·have H := ct H hb102
   refine At.skip (by kernel_rfl) ?_
   refine At.seq (by kernel_rfl) (p0 := [true, true, false, true, false, false, true, false]) (p1 := [true, true, false, true, false, false, true, true]) rfl rfl ?_
   refine At.block (by kernel_rfl) (id := 1) (by kernel_rfl) (p0 := [true, true, false, true, false, false, true, false, false]) rfl ?_
   refine At.seq (by kernel_rfl) (p0 := [true, true, false, true, false, false, true, false, false, false]) (p1 := [true, true, false, true, false, false, true, false, false, true]) rfl rfl ?_
   refine At.seq (by kernel_rfl) (p0 := [true, true, false, true, false, false, true, false, false, false, false]) (p1 := [true, true, false, true, false, false, true, false, false, false, true]) rfl rfl ?_
   refine At.join (fun ρ w => ∃ (v113 : Bool), Known ρ [(0, (.string ⟨List.toArray p1⟩)), (4, (.int .i64 v53)), (5, (.int .i64 v54)), (25, (.bool v113))] ∧ SP [] w0 w [] ∧ L_subwayref01_Parse_k6 (L_subwayref01_Parse_l3 p1 f5) p1 v53 v54 v113 = some r) ?_ ?_
   ·refine At.region (by kernel_rfl) (by kernel_rfl) ?_
    refine In.run' 2 (k' := 2) rfl [(12, (.string ⟨List.toArray p1⟩)), (13, (.int .i64 v54))] (by kernel_rfl) ?_
    obtain ⟨x121, hp122, hq123, hx124, H⟩ := idx_elim H
    refine In.step (k' := 3) rfl (by kernel_rfl) ?_
    refine Step.strIdx (a := p1) (u := x121) (T := 9) (x := (.tmp 12)) (ix := (.tmp 13)) (ki := .i64) (iz := v54) (d := (some 14)) (k := 2) (by kernel_rfl) rfl (by kernel_rfl) (by kernel_rfl) (by kernel_rfl) hp122 hx124 ?_
    refine In.run' 2 (k' := 5) rfl [(15, (.bool (decide (((x121).toNat : Int) < 48)))), (16, (.bool (decide (((x121).toNat : Int) < 48))))] (by kernel_rfl) ?_
    refine In.guard (t := 16) (b := (decide (((x121).toNat : Int) < 48))) (by kernel_rfl) (fun hb125 => ?_) (fun hb125 => ?_)
    ·have H := ct H hb125
     refine In.run' 9 (k' := 14) rfl [(17, undef), (18, undef), (19, undef), (20, undef), (21, (.bool true)), (22, (.bool true)), (23, undef), (24, undef), (25, (.bool true))] (by kernel_rfl) ?_
     refine In.fin (by kernel_rfl) ?_
     exact ⟨true, ⟨(by kernel_rfl), (by kernel_rfl), (by kernel_rfl), (by kernel_rfl), trivial⟩, SP.sel hs52 [] rfl rfl, H⟩
    ·have H := cf H hb125
     refine In.run' 2 (k' := 7) rfl [(17, (.string ⟨List.toArray p1⟩)), (18, (.int .i64 v54))] (by kernel_rfl) ?_
     obtain ⟨x126, hp127, hq128, hx129, H⟩ := idx_elim H
     refine In.step (k' := 8) rfl (by kernel_rfl) ?_
     refine Step.strIdx (a := p1) (u := x126) (T := 9) (x := (.tmp 17)) (ix := (.tmp 18)) (ki := .i64) (iz := v54) (d := (some 19)) (k := 7) (by kernel_rfl) rfl (by kernel_rfl) (by kernel_rfl) (by kernel_rfl) hp127 hx129 ?_
     refine In.run' 3 (k' := 11) rfl [(20, (.bool (decide (((x126).toNat : Int) > 57)))), (21, (.bool (decide (((x126).toNat : Int) > 57)))), (22, (.bool (decide (((x126).toNat : Int) > 57))))] (by kernel_rfl) ?_
     refine In.guard (t := 22) (b := (decide (((x126).toNat : Int) > 57))) (by kernel_rfl) (fun hb130 => ?_) (fun hb130 => ?_)
     ·have H := ct H hb130
      refine In.run' 3 (k' := 14) rfl [(23, undef), (24, undef), (25, (.bool true))] (by kernel_rfl) ?_
      refine In.fin (by kernel_rfl) ?_
      exact ⟨true, ⟨(by kernel_rfl), (by kernel_rfl), (by kernel_rfl), (by kernel_rfl), trivial⟩, SP.sel hs52 [] rfl rfl, H⟩
     ·have H := cf H hb130
      refine In.run' 3 (k' := 14) rfl [(23, (.int .i64 v54)), (24, (.bool (decide (v54 ≥ 13)))), (25, (.bool (decide (v54 ≥ 13))))] (by kernel_rfl) ?_
      refine In.fin (by kernel_rfl) ?_
      exact ⟨(decide (v54 ≥ 13)), ⟨(by kernel_rfl), (by kernel_rfl), (by kernel_rfl), (by kernel_rfl), trivial⟩, SP.sel hs52 [] rfl rfl, H⟩
   ·rintro ρ w114 ⟨v113, hk, hs115, H⟩
    unfold L_subwayref01_Parse_k6 at H
    refine At.known [(0, (.string ⟨List.toArray p1⟩)), (4, (.int .i64 v53)), (5, (.int .i64 v54)), (25, (.bool v113))] hk ?_
    refine At.cond (by kernel_rfl) (o := (.tmp 25)) (by kernel_rfl) (b := v113) (by kernel_rfl) (p0 := [true, true, false, true, false, false, true, false, false, false, true, false]) (p1 := [true, true, false, true, false, false, true, false, false, false, true, true]) rfl rfl (fun hb116 => ?_) (fun hb116 => ?_)
    ·have H := ct H hb116
     refine At.seq (by kernel_rfl) (p0 := [true, true, false, true, false, false, true, false, false, false, true, false, false]) (p1 := [true, true, false, true, false, false, true, false, false, false, true, false, true]) rfl rfl ?_
     refine At.region (by kernel_rfl) (by kernel_rfl) ?_
     refine In.run' 2 (k' := 2) rfl [(2, (.int .i64 0)), (3, (.bool false))] (by kernel_rfl) ?_
     refine In.fin (by kernel_rfl) ?_
     refine At.ret (by kernel_rfl) ?_
     refine ⟨(.tuple #[(.int .i64 0), (.bool false)]), by kernel_rfl, ?_⟩
     obtain rfl := some_elim H
     exact ⟨rfl, SP.sel hs115 [] rfl rfl⟩
    ·have H := cf H hb116
     refine At.skip (by kernel_rfl) ?_
     refine At.region (by kernel_rfl) (by kernel_rfl) ?_
     refine In.run' 4 (k' := 4) rfl [(26, (.int .i64 v53)), (27, (.int .i64 (IntKind.wrap .i64 (10 * v53)))), (28, (.string ⟨List.toArray p1⟩)), (29, (.int .i64 v54))] (by kernel_rfl) ?_
     obtain ⟨x117, hp118, hq119, hx120, H⟩ := idx_elim H
     refine In.step (k' := 5) rfl (by kernel_rfl) ?_
     refine Step.strIdx (a := p1) (u := x117) (T := 9) (x := (.tmp 28)) (ix := (.tmp 29)) (ki := .i64) (iz := v54) (d := (some 30)) (k := 4) (by kernel_rfl) rfl (by kernel_rfl) (by kernel_rfl) (by kernel_rfl) hp118 hx120 ?_
     refine In.run' 4 (k' := 9) rfl [(31, (.int .u8 (IntKind.wrap .u8 (((x117).toNat : Int) - 48)))), (32, (.int .i64 (IntKind.wrap .i64 (IntKind.wrap .u8 (((x117).toNat : Int) - 48))))), (33, (.int .i64 (IntKind.wrap .i64 ((IntKind.wrap .i64 (10 * v53)) + (IntKind.wrap .i64 (IntKind.wrap .u8 (((x117).toNat : Int) - 48))))))), (4, (.int .i64 (IntKind.wrap .i64 ((IntKind.wrap .i64 (10 * v53)) + (IntKind.wrap .i64 (IntKind.wrap .u8 (((x117).toNat : Int) - 48)))))))] (by kernel_rfl) ?_
     refine In.fin (by kernel_rfl) ?_
     refine At.region (by kernel_rfl) (by kernel_rfl) ?_
     refine In.run' 3 (k' := 3) rfl [(10, (.int .i64 v54)), (11, (.int .i64 (IntKind.wrap .i64 (v54 + 1)))), (5, (.int .i64 (IntKind.wrap .i64 (v54 + 1))))] (by kernel_rfl) ?_
     refine In.fin (by kernel_rfl) ?_
     exact ⟨(IntKind.wrap .i64 ((IntKind.wrap .i64 (10 * v53)) + (IntKind.wrap .i64 (IntKind.wrap .u8 (((x117).toNat : Int) - 48))))), (IntKind.wrap .i64 (v54 + 1)), ⟨(by kernel_rfl), (by kernel_rfl), (by kernel_rfl), trivial⟩, SP.sel hs115 [] rfl rfl, H⟩
  ·have H := cf H hb102
   refine At.exit (by kernel_rfl) (id := 0) (by kernel_rfl) ?_
   refine At.seq (by kernel_rfl) (p0 := [true, true, true, false]) (p1 := [true, true, true, true]) rfl rfl ?_
   refine At.seq (by kernel_rfl) (p0 := [true, true, true, false, false]) (p1 := [true, true, true, false, true]) rfl rfl ?_
   refine At.join (fun ρ w => ∃ (v138 : Bool), Known ρ [(4, (.int .i64 v53)), (50, (.bool v138))] ∧ SP [] w0 w [] ∧ L_subwayref01_Parse_k7 (L_subwayref01_Parse_l3 p1 f5) v53 v138 = some r) ?_ ?_
   ·refine At.region (by kernel_rfl) (by kernel_rfl) ?_
    refine In.run' 4 (k' := 4) rfl [(34, (.string ⟨List.toArray p1⟩)), (35, (.int .i64 ((List.length p1 : Nat) : Int))), (36, (.bool (((List.length p1 : Nat) : Int) == 0))), (37, (.bool (((List.length p1 : Nat) : Int) == 0)))] (by kernel_rfl) ?_
    refine In.guard (t := 37) (b := (((List.length p1 : Nat) : Int) == 0)) (by kernel_rfl) (fun hb142 => ?_) (fun hb142 => ?_)
    ·have H := ct H hb142
     refine In.run' 13 (k' := 17) rfl [(38, undef), (39, undef), (40, undef), (41, undef), (42, undef), (43, undef), (44, undef), (45, undef), (46, (.bool true)), (47, (.bool true)), (48, undef), (49, undef), (50, (.bool true))] (by kernel_rfl) ?_
     refine In.fin (by kernel_rfl) ?_
     exact ⟨true, ⟨(by kernel_rfl), (by kernel_rfl), trivial⟩, SP.sel hs52 [] rfl rfl, H⟩
    ·have H := cf H hb142
     refine In.run' 1 (k' := 5) rfl [(38, (.string ⟨List.toArray p1⟩))] (by kernel_rfl) ?_
     obtain ⟨x143, hp144, hq145, hx146, H⟩ := idx_elim H
     refine In.step (k' := 6) rfl (by kernel_rfl) ?_
     refine Step.strIdx (a := p1) (u := x143) (T := 9) (x := (.tmp 38)) (ix := (.const (.int .i64 (0)))) (ki := .i64) (iz := 0) (d := (some 39)) (k := 5) (by kernel_rfl) rfl (by kernel_rfl) (by kernel_rfl) (by kernel_rfl) hp144 hx146 ?_
     refine In.run' 2 (k' := 8) rfl [(40, (.bool (((x143).toNat : Int) == 48))), (41, (.bool (((x143).toNat : Int) == 48)))] (by kernel_rfl) ?_
     refine In.guard (t := 41) (b := (((x143).toNat : Int) == 48)) (by kernel_rfl) (fun hb147 => ?_) (fun hb147 => ?_)
     ·have H := ct H hb147
      refine In.run' 6 (k' := 14) rfl [(42, (.string ⟨List.toArray p1⟩)), (43, (.int .i64 ((List.length p1 : Nat) : Int))), (44, (.bool (decide (((List.length p1 : Nat) : Int) > 1)))), (45, (.bool (decide (((List.length p1 : Nat) : Int) > 1)))), (46, (.bool (decide (((List.length p1 : Nat) : Int) > 1)))), (47, (.bool (decide (((List.length p1 : Nat) : Int) > 1))))] (by kernel_rfl) ?_
      refine In.guard (t := 47) (b := (decide (((List.length p1 : Nat) : Int) > 1))) (by kernel_rfl) (fun hb148 => ?_) (fun hb148 => ?_)
      ·have H := ct H hb148
       refine In.run' 3 (k' := 17) rfl [(48, undef), (49, undef), (50, (.bool true))] (by kernel_rfl) ?_
       refine In.fin (by kernel_rfl) ?_
       exact ⟨true, ⟨(by kernel_rfl), (by kernel_rfl), trivial⟩, SP.sel hs52 [] rfl rfl, H⟩
      ·have H := cf H hb148
       refine In.run' 3 (k' := 17) rfl [(48, (.int .i64 v53)), (49, (.bool (decide (v53 > 1099511627776)))), (50, (.bool (decide (v53 > 1099511627776))))] (by kernel_rfl) ?_
       refine In.fin (by kernel_rfl) ?_
       exact ⟨(decide (v53 > 1099511627776)), ⟨(by kernel_rfl), (by kernel_rfl), trivial⟩, SP.sel hs52 [] rfl rfl, H⟩
     ·have H := cf H hb147
      refine In.run' 9 (k' := 17) rfl [(42, undef), (43, undef), (44, undef), (45, (.bool false)), (46, (.bool false)), (47, (.bool false)), (48, (.int .i64 v53)), (49, (.bool (decide (v53 > 1099511627776)))), (50, (.bool (decide (v53 > 1099511627776))))] (by kernel_rfl) ?_
      refine In.fin (by kernel_rfl) ?_
      exact ⟨(decide (v53 > 1099511627776)), ⟨(by kernel_rfl), (by kernel_rfl), trivial⟩, SP.sel hs52 [] rfl rfl, H⟩
   ·rintro ρ w139 ⟨v138, hk, hs140, H⟩
    unfold L_subwayref01_Parse_k7 at H
    refine At.known [(4, (.int .i64 v53)), (50, (.bool v138))] hk ?_
    refine At.cond (by kernel_rfl) (o := (.tmp 50)) (by kernel_rfl) (b := v138) (by kernel_rfl) (p0 := [true, true, true, false, true, false]) (p1 := [true, true, true, false, true, true]) rfl rfl (fun hb141 => ?_) (fun hb141 => ?_)
    ·have H := ct H hb141
     refine At.seq (by kernel_rfl) (p0 := [true, true, true, false, true, false, false]) (p1 := [true, true, true, false, true, false, true]) rfl rfl ?_
     refine At.region (by kernel_rfl) (by kernel_rfl) ?_
     refine In.run' 2 (k' := 2) rfl [(2, (.int .i64 0)), (3, (.bool false))] (by kernel_rfl) ?_
     refine In.fin (by kernel_rfl) ?_
     refine At.ret (by kernel_rfl) ?_
     refine ⟨(.tuple #[(.int .i64 0), (.bool false)]), by kernel_rfl, ?_⟩
     obtain rfl := some_elim H
     exact ⟨rfl, SP.sel hs140 [] rfl rfl⟩
    ·have H := cf H hb141
     refine At.skip (by kernel_rfl) ?_
     refine At.seq (by kernel_rfl) (p0 := [true, true, true, true, false]) (p1 := [true, true, true, true, true]) rfl rfl ?_
     refine At.region (by kernel_rfl) (by kernel_rfl) ?_
     refine In.run' 3 (k' := 3) rfl [(51, (.int .i64 v53)), (2, (.int .i64 v53)), (3, (.bool true))] (by kernel_rfl) ?_
     refine In.fin (by kernel_rfl) ?_
     refine At.ret (by kernel_rfl) ?_
     refine ⟨(.tuple #[(.int .i64 v53), (.bool true)]), by kernel_rfl, ?_⟩
     obtain rfl := some_elim H
     exact ⟨rfl, SP.sel hs140 [] rfl rfl⟩
 ·exact ⟨0, 0, ⟨(by kernel_rfl), (by kernel_rfl), (by kernel_rfl), trivial⟩, SP.sel hs0 [] rfl rfl, H⟩
end Go.Proofs.YthnakiihenbcjaaDoor
