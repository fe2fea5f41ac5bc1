/- LIFTED BY PROGRAM (tools/lift.py): what functions compute, and that they do. -/
import Derived.Test.YtjpchjbbfbmjgaaDoorLN
namespace Go.Proofs.YtjpchjbbfbmjgaaDoor
set_option linter.unusedSimpArgs false
set_option linter.unusedVariables false
open Go.RowKit

/-! L_subwaylaw01_NumBack -/
def L_subwaylaw01_NumBack_k8 (v222 : Bool) : Option (Bool) :=
  (some (v222))
def L_subwaylaw01_NumBack_k7 (p6 : (List UInt8)) (z7 : (Bool)) (v204 : Bool) : Option (Bool) :=
  (cond v204 (some (false)) ((L_num_Parse p6).bind fun z208 => (cond z7 (cond (!z208.2) (L_subwaylaw01_NumBack_k8 true) ((L_num_Decimal z208.1).bind fun z227 => (L_subwaylaw01_NumBack_k8 (z227 == p6)))) (L_subwaylaw01_NumBack_k8 false))))
def L_subwaylaw01_NumBack_k6 (p2 : (List UInt8)) (p6 : (List UInt8)) (z7 : (Bool)) : Option (Bool) :=
  ((L_num_Get p2).bind fun z111 => (cond z111.2.2 (cond (decide (z111.2.1 < 1)) (L_subwaylaw01_NumBack_k7 p6 z7 true) (cond (decide (z111.2.1 > ((List.length p2 : Nat) : Int))) (L_subwaylaw01_NumBack_k7 p6 z7 true) ((L_num_Put z111.1).bind fun z240 => ((sub p2 0 z111.2.1).bind fun l249 => (cond (!(z240 == l249)) (L_subwaylaw01_NumBack_k7 p6 z7 true) (cond (!z111.2.2) (L_subwaylaw01_NumBack_k7 p6 z7 (z111.2.1 != 0)) (L_subwaylaw01_NumBack_k7 p6 z7 false))))))) (cond (!z111.2.2) (L_subwaylaw01_NumBack_k7 p6 z7 (z111.2.1 != 0)) (L_subwaylaw01_NumBack_k7 p6 z7 false))))
def L_subwaylaw01_NumBack_k9 (p2 : (List UInt8)) (p6 : (List UInt8)) (z7 : (Bool)) (v375 : Bool) : Option (Bool) :=
  (cond v375 (some (false)) (L_subwaylaw01_NumBack_k6 p2 p6 z7))
def L_subwaylaw01_NumBack_k4 (p1 : Int) (p2 : (List UInt8)) (p6 : (List UInt8)) (z7 : (Bool)) (z22 : ((List UInt8))) (v42 : Bool) : Option (Bool) :=
  (cond v42 ((app ([] : List UInt8) z22).bind fun l326 => ((app l326 p2).bind fun l333 => ((L_num_Get l333).bind fun z339 => ((sub z22 0 (IntKind.wrap .i64 (((List.length z22 : Nat) : Int) - 1))).bind fun l348 => ((L_num_Get l348).bind fun z352 => ((L_num_Decimal p1).bind fun z358 => ((L_num_Parse z358).bind fun z364 => (cond (!z339.2.2) (L_subwaylaw01_NumBack_k9 p2 p6 z7 true) (cond (z339.1 != p1) (L_subwaylaw01_NumBack_k9 p2 p6 z7 true) (cond (z339.2.1 != ((List.length z22 : Nat) : Int)) (L_subwaylaw01_NumBack_k9 p2 p6 z7 true) (cond z352.2.2 (L_subwaylaw01_NumBack_k9 p2 p6 z7 true) (cond (!z364.2) (L_subwaylaw01_NumBack_k9 p2 p6 z7 true) (L_subwaylaw01_NumBack_k9 p2 p6 z7 (z364.1 != p1)))))))))))))) (L_subwaylaw01_NumBack_k6 p2 p6 z7))
def L_subwaylaw01_NumBack_k3 (p1 : Int) (p2 : (List UInt8)) (p6 : (List UInt8)) (z7 : (Bool)) (v19 : Bool) (z22 : ((List UInt8))) (v37 : Bool) : Option (Bool) :=
  (cond v37 (some (false)) (cond v19 (L_subwaylaw01_NumBack_k4 p1 p2 p6 z7 z22 (decide (((List.length z22 : Nat) : Int) > 0))) (L_subwaylaw01_NumBack_k4 p1 p2 p6 z7 z22 false)))
def L_subwaylaw01_NumBack_k2 (p1 : Int) (p2 : (List UInt8)) (p6 : (List UInt8)) (z7 : (Bool)) (v19 : Bool) : Option (Bool) :=
  ((L_num_Put p1).bind fun z22 => (cond (!((decide (((List.length z22 : Nat) : Int) > 0)) == v19)) (L_subwaylaw01_NumBack_k3 p1 p2 p6 z7 v19 z22 true) ((L_num_Decimal p1).bind fun z386 => (L_subwaylaw01_NumBack_k3 p1 p2 p6 z7 v19 z22 (!((!(z386 == ([] : List UInt8))) == v19))))))
def L_subwaylaw01_NumBack_k1 (p1 : Int) (p2 : (List UInt8)) (p6 : (List UInt8)) (z7 : (Bool)) (v14 : Bool) : Option (Bool) :=
  (cond v14 (some (z7)) (cond (decide (p1 ≥ 0)) (L_subwaylaw01_NumBack_k2 p1 p2 p6 z7 (decide (p1 ≤ 1099511627776))) (L_subwaylaw01_NumBack_k2 p1 p2 p6 z7 false)))
def L_subwaylaw01_NumBack (p1 : Int) (p2 : (List UInt8)) (p6 : (List UInt8)) : Option (Bool) :=
  ((L_subwaylaw01_head ).bind fun z7 => (cond (decide (((List.length p2 : Nat) : Int) > 9000)) (L_subwaylaw01_NumBack_k1 p1 p2 p6 z7 true) (L_subwaylaw01_NumBack_k1 p1 p2 p6 z7 (decide (((List.length p6 : Nat) : Int) > 9000)))))
set_option maxRecDepth 100000 in
set_option maxHeartbeats 4000000 in
theorem L_subwaylaw01_NumBack_walk (A3 : Option Addr) (c4 : Nat) (p1 : Int) (p2 : (List UInt8)) (p6 : (List UInt8)) (w0 : World) (hL : LaidW w0) (hr5 : RdT eU8 w0 A3 c4 p2) (r : (Bool)) (H : L_subwaylaw01_NumBack p1 p2 p6 = some r) :
  Calls Tryd.prog 4 #[(.int .i64 p1), (.slice A3 (List.length p2) c4), (.string ⟨List.toArray p6⟩)] w0 (fun e w' => e = .returned (.bool r) ∧ SP [] w0 w' []) := by
 unfold L_subwaylaw01_NumBack at H
 refine calls_start (n := 161) Tryd.func4 (by kernel_rfl) (by kernel_rfl) (by kernel_rfl) ?_
 have hs0 := SP.start [] w0
 refine At.seq (by kernel_rfl) (p0 := [false]) (p1 := [true]) rfl rfl ?_
 refine At.region (by kernel_rfl) (by kernel_rfl) ?_
 refine In.run' 1 (k' := 1) rfl [(6, (.bool false))] (by kernel_rfl) ?_
 refine In.fin (by kernel_rfl) ?_
 refine At.seq (by kernel_rfl) (p0 := [true, false]) (p1 := [true, true]) rfl rfl ?_
 refine At.region (by kernel_rfl) (by kernel_rfl) ?_
 obtain ⟨z7, hz8, H⟩ := bind_elim H
 refine In.step (k' := 1) rfl (by kernel_rfl) ?_
 refine Step.callF (f := 9) (fo := (.func 9)) (xs := #[]) (tys := #[]) (first := #[]) (captured := #[]) (d := (some 23)) (k := 0) (by kernel_rfl) rfl (by kernel_rfl) (by kernel_rfl) Tryd.call9 (L_subwaylaw01_head_walk   w0 (laid_below hL (SP.keeps hs0)) z7 hz8) ?_
 rintro e w9 ⟨rfl, hs10⟩
 refine ⟨_, rfl, ?_⟩
 have hs11 := SP.call hs0 hs10
 clear hs10
 have hs12 : SP [] w0 w9 [] := hs11
 clear hs11
 refine In.run' 1 (k' := 2) rfl [(7, (.bool z7))] (by kernel_rfl) ?_
 refine In.fin (by kernel_rfl) ?_
 refine At.seq (by kernel_rfl) (p0 := [true, true, false]) (p1 := [true, true, true]) rfl rfl ?_
 refine At.seq (by kernel_rfl) (p0 := [true, true, false, false]) (p1 := [true, true, false, true]) rfl rfl ?_
 refine At.join (fun ρ w => ∃ (v14 : Bool), Known ρ [(0, (.int .i64 p1)), (1, (.slice A3 (List.length p2) c4)), (2, (.string ⟨List.toArray p6⟩)), (7, (.bool z7)), (31, (.bool v14))] ∧ SP [] w0 w [] ∧ L_subwaylaw01_NumBack_k1 p1 p2 p6 z7 v14 = some r) ?_ ?_
 ·refine At.region (by kernel_rfl) (by kernel_rfl) ?_
  refine In.run' 4 (k' := 4) rfl [(24, (.slice A3 (List.length p2) c4)), (25, (.int .i64 ((List.length p2 : Nat) : Int))), (26, (.bool (decide (((List.length p2 : Nat) : Int) > 9000)))), (27, (.bool (decide (((List.length p2 : Nat) : Int) > 9000))))] (by kernel_rfl) ?_
  refine In.guard (t := 27) (b := (decide (((List.length p2 : Nat) : Int) > 9000))) (by kernel_rfl) (fun hb393 => ?_) (fun hb393 => ?_)
  ·have H := ct H hb393
   refine In.run' 4 (k' := 8) rfl [(28, undef), (29, undef), (30, undef), (31, (.bool true))] (by kernel_rfl) ?_
   refine In.fin (by kernel_rfl) ?_
   exact ⟨true, ⟨(by kernel_rfl), (by kernel_rfl), (by kernel_rfl), (by kernel_rfl), (by kernel_rfl), trivial⟩, SP.sel hs12 [] rfl rfl, H⟩
  ·have H := cf H hb393
   refine In.run' 4 (k' := 8) rfl [(28, (.string ⟨List.toArray p6⟩)), (29, (.int .i64 ((List.length p6 : Nat) : Int))), (30, (.bool (decide (((List.length p6 : Nat) : Int) > 9000)))), (31, (.bool (decide (((List.length p6 : Nat) : Int) > 9000))))] (by kernel_rfl) ?_
   refine In.fin (by kernel_rfl) ?_
   exact ⟨(decide (((List.length p6 : Nat) : Int) > 9000)), ⟨(by kernel_rfl), (by kernel_rfl), (by kernel_rfl), (by kernel_rfl), (by kernel_rfl), trivial⟩, SP.sel hs12 [] rfl rfl, H⟩
 ·rintro ρ w15 ⟨v14, hk, hs16, H⟩
  unfold L_subwaylaw01_NumBack_k1 at H
  refine At.known [(0, (.int .i64 p1)), (1, (.slice A3 (List.length p2) c4)), (2, (.string ⟨List.toArray p6⟩)), (7, (.bool z7)), (31, (.bool v14))] hk ?_
  refine At.cond (by kernel_rfl) (o := (.tmp 31)) (by kernel_rfl) (b := v14) (by kernel_rfl) (p0 := [true, true, false, true, false]) (p1 := [true, true, false, true, true]) rfl rfl (fun hb17 => ?_) (fun hb17 => ?_)
  ·have H := ct H hb17
   refine At.seq (by kernel_rfl) (p0 := [true, true, false, true, false, false]) (p1 := [true, true, false, true, false, true]) rfl rfl ?_
   refine At.region (by kernel_rfl) (by kernel_rfl) ?_
   refine In.run' 2 (k' := 2) rfl [(32, (.bool z7)), (6, (.bool z7))] (by kernel_rfl) ?_
   refine In.fin (by kernel_rfl) ?_
   refine At.ret (by kernel_rfl) ?_
   refine ⟨(.bool z7), by kernel_rfl, ?_⟩
   obtain rfl := some_elim H
   exact ⟨rfl, SP.sel hs16 [] rfl rfl⟩
  ·have H := cf H hb17
   refine At.skip (by kernel_rfl) ?_
   refine At.seq (by kernel_rfl) (p0 := [true, true, true, false]) (p1 := [true, true, true, true]) rfl rfl ?_
   refine At.join (fun ρ w => ∃ (v19 : Bool), Known ρ [(0, (.int .i64 p1)), (1, (.slice A3 (List.length p2) c4)), (2, (.string ⟨List.toArray p6⟩)), (7, (.bool z7)), (8, (.bool v19))] ∧ SP [] w0 w [] ∧ L_subwaylaw01_NumBack_k2 p1 p2 p6 z7 v19 = some r) ?_ ?_
   ·refine At.region (by kernel_rfl) (by kernel_rfl) ?_
    refine In.run' 3 (k' := 3) rfl [(33, (.int .i64 p1)), (34, (.bool (decide (p1 ≥ 0)))), (35, (.bool (decide (p1 ≥ 0))))] (by kernel_rfl) ?_
    refine In.guard (t := 35) (b := (decide (p1 ≥ 0))) (by kernel_rfl) (fun hb392 => ?_) (fun hb392 => ?_)
    ·have H := ct H hb392
     refine In.run' 4 (k' := 7) rfl [(36, (.int .i64 p1)), (37, (.bool (decide (p1 ≤ 1099511627776)))), (38, (.bool (decide (p1 ≤ 1099511627776)))), (8, (.bool (decide (p1 ≤ 1099511627776))))] (by kernel_rfl) ?_
     refine In.fin (by kernel_rfl) ?_
     exact ⟨(decide (p1 ≤ 1099511627776)), ⟨(by kernel_rfl), (by kernel_rfl), (by kernel_rfl), (by kernel_rfl), (by kernel_rfl), trivial⟩, SP.sel hs16 [] rfl rfl, H⟩
    ·have H := cf H hb392
     refine In.run' 4 (k' := 7) rfl [(36, undef), (37, undef), (38, (.bool false)), (8, (.bool false))] (by kernel_rfl) ?_
     refine In.fin (by kernel_rfl) ?_
     exact ⟨false, ⟨(by kernel_rfl), (by kernel_rfl), (by kernel_rfl), (by kernel_rfl), (by kernel_rfl), trivial⟩, SP.sel hs16 [] rfl rfl, H⟩
   ·rintro ρ w20 ⟨v19, hk, hs21, H⟩
    unfold L_subwaylaw01_NumBack_k2 at H
    refine At.known [(0, (.int .i64 p1)), (1, (.slice A3 (List.length p2) c4)), (2, (.string ⟨List.toArray p6⟩)), (7, (.bool z7)), (8, (.bool v19))] hk ?_
    refine At.seq (by kernel_rfl) (p0 := [true, true, true, true, false]) (p1 := [true, true, true, true, true]) rfl rfl ?_
    refine At.region (by kernel_rfl) (by kernel_rfl) ?_
    refine In.run' 1 (k' := 1) rfl [(39, (.int .i64 p1))] (by kernel_rfl) ?_
    obtain ⟨z22, hz23, H⟩ := bind_elim H
    refine In.step (k' := 2) rfl (by kernel_rfl) ?_
    refine Step.callF (f := 16) (fo := (.func 16)) (xs := #[(.tmp 39)]) (tys := #[2]) (first := #[]) (captured := #[]) (d := (some 40)) (k := 1) (by kernel_rfl) rfl (by kernel_rfl) (by kernel_rfl) Tryd.call16 (L_num_Put_walk  p1 w20  z22 hz23) ?_
    rintro e w24 ⟨A26, c27, rfl, hs25⟩
    refine ⟨_, rfl, ?_⟩
    have hs28 := SP.call hs21 hs25
    clear hs25
    have hs29 : SP [] w0 w24 [rowT 5 eU8 A26 c27 z22] := hs28
    clear hs28
    refine In.run' 1 (k' := 3) rfl [(9, (.slice A26 (List.length z22) c27))] (by kernel_rfl) ?_
    refine In.fin (by kernel_rfl) ?_
    refine At.seq (by kernel_rfl) (p0 := [true, true, true, true, true, false]) (p1 := [true, true, true, true, true, true]) rfl rfl ?_
    refine At.seq (by kernel_rfl) (p0 := [true, true, true, true, true, false, false]) (p1 := [true, true, true, true, true, false, true]) rfl rfl ?_
    refine At.join (fun ρ w => ∃ (v37 : Bool), Known ρ [(0, (.int .i64 p1)), (1, (.slice A3 (List.length p2) c4)), (2, (.string ⟨List.toArray p6⟩)), (7, (.bool z7)), (8, (.bool v19)), (9, (.slice A26 (List.length z22) c27)), (52, (.bool v37))] ∧ SP [] w0 w [rowT 5 eU8 A26 c27 z22] ∧ L_subwaylaw01_NumBack_k3 p1 p2 p6 z7 v19 z22 v37 = some r) ?_ ?_
    ·refine At.region (by kernel_rfl) (by kernel_rfl) ?_
     refine In.run' 6 (k' := 6) rfl [(41, (.slice A26 (List.length z22) c27)), (42, (.int .i64 ((List.length z22 : Nat) : Int))), (43, (.bool (decide (((List.length z22 : Nat) : Int) > 0)))), (44, (.bool v19)), (45, (.bool (!((decide (((List.length z22 : Nat) : Int) > 0)) == v19)))), (46, (.bool (!((decide (((List.length z22 : Nat) : Int) > 0)) == v19))))] (by kernel_rfl) ?_
     refine In.guard (t := 46) (b := (!((decide (((List.length z22 : Nat) : Int) > 0)) == v19))) (by kernel_rfl) (fun hb385 => ?_) (fun hb385 => ?_)
     ·have H := ct H hb385
      refine In.run' 6 (k' := 12) rfl [(47, undef), (48, undef), (49, undef), (50, undef), (51, undef), (52, (.bool true))] (by kernel_rfl) ?_
      refine In.fin (by kernel_rfl) ?_
      exact ⟨true, ⟨(by kernel_rfl), (by kernel_rfl), (by kernel_rfl), (by kernel_rfl), (by kernel_rfl), (by kernel_rfl), (by kernel_rfl), trivial⟩, SP.sel hs29 [0] rfl rfl, H⟩
     ·have H := cf H hb385
      refine In.run' 1 (k' := 7) rfl [(47, (.int .i64 p1))] (by kernel_rfl) ?_
      obtain ⟨z386, hz387, H⟩ := bind_elim H
      refine In.step (k' := 8) rfl (by kernel_rfl) ?_
      refine Step.callF (f := 20) (fo := (.func 20)) (xs := #[(.tmp 47)]) (tys := #[2]) (first := #[]) (captured := #[]) (d := (some 48)) (k := 7) (by kernel_rfl) rfl (by kernel_rfl) (by kernel_rfl) Tryd.call20 (L_num_Decimal_walk  p1 w24 (laid_below hL (SP.keeps hs29)) z386 hz387) ?_
      rintro e w388 ⟨rfl, hs389⟩
      refine ⟨_, rfl, ?_⟩
      have hs390 := SP.call hs29 hs389
      clear hs389
      have hs391 : SP [] w0 w388 [rowT 5 eU8 A26 c27 z22] := hs390
      clear hs390
      refine In.step (k' := 9) rfl (by kernel_rfl) ?_
      refine Step.strOp (op := .neq) (T := 9) (T' := 9) (x := (.tmp 48)) (y := (.const (.string ⟨List.toArray ([] : List UInt8)⟩))) (a := z386) (b := ([] : List UInt8)) (r := (.bool (!(z386 == ([] : List UInt8))))) (d := (some 49)) (k := 8) (by kernel_rfl) rfl (by kernel_rfl) (by kernel_rfl) rfl ?_
      refine In.run' 3 (k' := 12) rfl [(50, (.bool v19)), (51, (.bool (!((!(z386 == ([] : List UInt8))) == v19)))), (52, (.bool (!((!(z386 == ([] : List UInt8))) == v19))))] (by kernel_rfl) ?_
      refine In.fin (by kernel_rfl) ?_
      exact ⟨(!((!(z386 == ([] : List UInt8))) == v19)), ⟨(by kernel_rfl), (by kernel_rfl), (by kernel_rfl), (by kernel_rfl), (by kernel_rfl), (by kernel_rfl), (by kernel_rfl), trivial⟩, SP.sel hs391 [0] rfl rfl, H⟩
    ·rintro ρ w38 ⟨v37, hk, hs39, H⟩
     unfold L_subwaylaw01_NumBack_k3 at H
     refine At.known [(0, (.int .i64 p1)), (1, (.slice A3 (List.length p2) c4)), (2, (.string ⟨List.toArray p6⟩)), (7, (.bool z7)), (8, (.bool v19)), (9, (.slice A26 (List.length z22) c27)), (52, (.bool v37))] hk ?_
     refine At.cond (by kernel_rfl) (o := (.tmp 52)) (by kernel_rfl) (b := v37) (by kernel_rfl) (p0 := [true, true, true, true, true, false, true, false]) (p1 := [true, true, true, true, true, false, true, true]) rfl rfl (fun hb40 => ?_) (fun hb40 => ?_)
     ·have H := ct H hb40
      refine At.seq (by kernel_rfl) (p0 := [true, true, true, true, true, false, true, false, false]) (p1 := [true, true, true, true, true, false, true, false, true]) rfl rfl ?_
      refine At.region (by kernel_rfl) (by kernel_rfl) ?_
      refine In.run' 1 (k' := 1) rfl [(6, (.bool false))] (by kernel_rfl) ?_
      refine In.fin (by kernel_rfl) ?_
      refine At.ret (by kernel_rfl) ?_
      refine ⟨(.bool false), by kernel_rfl, ?_⟩
      obtain rfl := some_elim H
      exact ⟨rfl, SP.sel hs39 [] rfl rfl⟩
     ·have H := cf H hb40
      refine At.skip (by kernel_rfl) ?_
      refine At.seq (by kernel_rfl) (p0 := [true, true, true, true, true, true, false]) (p1 := [true, true, true, true, true, true, true]) rfl rfl ?_
      refine At.seq (by kernel_rfl) (p0 := [true, true, true, true, true, true, false, false]) (p1 := [true, true, true, true, true, true, false, true]) rfl rfl ?_
      refine At.join (fun ρ w => ∃ (v42 : Bool), Known ρ [(0, (.int .i64 p1)), (1, (.slice A3 (List.length p2) c4)), (2, (.string ⟨List.toArray p6⟩)), (7, (.bool z7)), (9, (.slice A26 (List.length z22) c27)), (58, (.bool v42))] ∧ SP [] w0 w [rowT 5 eU8 A26 c27 z22] ∧ L_subwaylaw01_NumBack_k4 p1 p2 p6 z7 z22 v42 = some r) ?_ ?_
      ·refine At.region (by kernel_rfl) (by kernel_rfl) ?_
       refine In.run' 2 (k' := 2) rfl [(53, (.bool v19)), (54, (.bool v19))] (by kernel_rfl) ?_
       refine In.guard (t := 54) (b := v19) (by kernel_rfl) (fun hb384 => ?_) (fun hb384 => ?_)
       ·have H := ct H hb384
        refine In.run' 4 (k' := 6) rfl [(55, (.slice A26 (List.length z22) c27)), (56, (.int .i64 ((List.length z22 : Nat) : Int))), (57, (.bool (decide (((List.length z22 : Nat) : Int) > 0)))), (58, (.bool (decide (((List.length z22 : Nat) : Int) > 0))))] (by kernel_rfl) ?_
        refine In.fin (by kernel_rfl) ?_
        exact ⟨(decide (((List.length z22 : Nat) : Int) > 0)), ⟨(by kernel_rfl), (by kernel_rfl), (by kernel_rfl), (by kernel_rfl), (by kernel_rfl), (by kernel_rfl), trivial⟩, SP.sel hs39 [0] rfl rfl, H⟩
       ·have H := cf H hb384
        refine In.run' 4 (k' := 6) rfl [(55, undef), (56, undef), (57, undef), (58, (.bool false))] (by kernel_rfl) ?_
        refine In.fin (by kernel_rfl) ?_
        exact ⟨false, ⟨(by kernel_rfl), (by kernel_rfl), (by kernel_rfl), (by kernel_rfl), (by kernel_rfl), (by kernel_rfl), trivial⟩, SP.sel hs39 [0] rfl rfl, H⟩
      ·rintro ρ w43 ⟨v42, hk, hs44, H⟩
       unfold L_subwaylaw01_NumBack_k4 at H
       refine At.known [(0, (.int .i64 p1)), (1, (.slice A3 (List.length p2) c4)), (2, (.string ⟨List.toArray p6⟩)), (7, (.bool z7)), (9, (.slice A26 (List.length z22) c27)), (58, (.bool v42))] hk ?_
       refine At.join (fun ρ w => Known ρ [(1, (.slice A3 (List.length p2) c4)), (2, (.string ⟨List.toArray p6⟩)), (7, (.bool z7))] ∧ SP [] w0 w [] ∧ L_subwaylaw01_NumBack_k6 p2 p6 z7 = some r) ?_ ?_
       ·refine At.cond (by kernel_rfl) (o := (.tmp 58)) (by kernel_rfl) (b := v42) (by kernel_rfl) (p0 := [true, true, true, true, true, true, false, true, false]) (p1 := [true, true, true, true, true, true, false, true, true]) rfl rfl (fun hb320 => ?_) (fun hb320 => ?_)
        ·have H := ct H hb320
         refine At.seq (by kernel_rfl) (p0 := [true, true, true, true, true, true, false, true, false, false]) (p1 := [true, true, true, true, true, true, false, true, false, true]) rfl rfl ?_
         refine At.region (by kernel_rfl) (by kernel_rfl) ?_
         refine In.step (k' := 1) rfl (by kernel_rfl) ?_
         refine Step.newSlice (e := eU8) (T := 22) (E := 5) (len := 0) (parts := #[]) (cs := #[]) ([] : List UInt8) (d := (some 60)) (k := 0) (by kernel_rfl) rfl (fun _ => by kernel_rfl) hs44 rfl rfl rfl rfl ?_
         intro g321 w322 hs323
         have hs324 : SP [] w0 w322 [rowT 5 eU8 A26 c27 z22, rowT 5 eU8 (some ⟨g321, 0, none⟩) (List.length ([] : List UInt8)) ([] : List UInt8)] := hs323
         clear hs323
         refine In.run' 1 (k' := 2) rfl [(61, (.slice A26 (List.length z22) c27))] (by kernel_rfl) ?_
         obtain ⟨hl325, H⟩ := app_elim H
         obtain ⟨l326, hyl326⟩ : ∃ y, ([] : List UInt8) ++ z22 = y := ⟨_, rfl⟩
         rw [hyl326] at H
         refine In.step (k' := 3) rfl (by kernel_rfl) ?_
         refine Step.append (e := eU8) (l := ([] : List UInt8)) (m := z22) (A := (some ⟨g321, 0, none⟩)) (c := (List.length ([] : List UInt8))) (T := 22) (TX := 22) (E := 5) (b := 1) (s := (.tmp 60)) (x := (.tmp 61)) (i := 1) (vx := (.slice A26 (List.length z22) c27)) (d := (some 62)) (k := 2) (by kernel_rfl) rfl (by kernel_rfl) (by kernel_rfl) (by kernel_rfl) (by kernel_rfl) rfl hs324 rfl (src_rdt (E := 5) (by kernel_rfl) (rowT_rd (SP.get hs324 (i := 0) rfl))) hl325 ?_
         rw [hyl326]
         intro A327 c328 w329 hs330
         have hs331 : SP [] w0 w329 [rowT 5 eU8 A26 c27 z22, rowT 5 eU8 A327 c328 l326] := hs330
         clear hs330
         refine In.run' 1 (k' := 4) rfl [(63, (.slice A3 (List.length p2) c4))] (by kernel_rfl) ?_
         obtain ⟨hl332, H⟩ := app_elim H
         obtain ⟨l333, hyl333⟩ : ∃ y, l326 ++ p2 = y := ⟨_, rfl⟩
         rw [hyl333] at H
         refine In.step (k' := 5) rfl (by kernel_rfl) ?_
         refine Step.append (e := eU8) (l := l326) (m := p2) (A := A327) (c := c328) (T := 22) (TX := 22) (E := 5) (b := 1) (s := (.tmp 62)) (x := (.tmp 63)) (i := 1) (vx := (.slice A3 (List.length p2) c4)) (d := (some 64)) (k := 4) (by kernel_rfl) rfl (by kernel_rfl) (by kernel_rfl) (by kernel_rfl) (by kernel_rfl) rfl hs331 rfl (src_rdt (E := 5) (by kernel_rfl) (RdT.sp hr5 hs331)) hl332 ?_
         rw [hyl333]
         intro A334 c335 w336 hs337
         have hs338 : SP [] w0 w336 [rowT 5 eU8 A26 c27 z22, rowT 5 eU8 A334 c335 l333] := hs337
         clear hs337
         obtain ⟨z339, hz340, H⟩ := bind_elim H
         refine In.step (k' := 6) rfl (by kernel_rfl) ?_
         refine Step.callF (f := 10) (fo := (.func 10)) (xs := #[(.tmp 64)]) (tys := #[22]) (first := #[]) (captured := #[]) (d := (some 65)) (k := 5) (by kernel_rfl) rfl (by kernel_rfl) (by kernel_rfl) Tryd.call10 (L_num_Get_walk A334 c335 l333 w336 (rowT_rd (SP.get hs338 (i := 1) rfl)) z339 hz340) ?_
         rintro e w341 ⟨rfl, hs342⟩
         refine ⟨_, rfl, ?_⟩
         have hs343 := SP.call hs338 hs342
         clear hs342
         have hs344 : SP [] w0 w341 [rowT 5 eU8 A26 c27 z22, rowT 5 eU8 A334 c335 l333] := hs343
         clear hs343
         refine In.run' 7 (k' := 13) rfl [(59, (.tuple #[(.int .i64 z339.1), (.int .i64 z339.2.1), (.bool z339.2.2)])), (66, (.int .i64 z339.1)), (67, (.int .i64 z339.2.1)), (68, (.bool z339.2.2)), (10, (.int .i64 z339.1)), (11, (.int .i64 z339.2.1)), (12, (.bool z339.2.2))] (by kernel_rfl) ?_
         refine In.fin (by kernel_rfl) ?_
         refine At.seq (by kernel_rfl) (p0 := [true, true, true, true, true, true, false, true, false, true, false]) (p1 := [true, true, true, true, true, true, false, true, false, true, true]) rfl rfl ?_
         refine At.region (by kernel_rfl) (by kernel_rfl) ?_
         refine In.run' 4 (k' := 4) rfl [(70, (.slice A26 (List.length z22) c27)), (71, (.slice A26 (List.length z22) c27)), (72, (.int .i64 ((List.length z22 : Nat) : Int))), (73, (.int .i64 (IntKind.wrap .i64 (((List.length z22 : Nat) : Int) - 1))))] (by kernel_rfl) ?_
         obtain ⟨hz345, hz346, hz347, H⟩ := sub_elim H
         obtain ⟨l348, hyl348⟩ : ∃ y, (List.drop (Int.toNat 0) (List.take (Int.toNat (IntKind.wrap .i64 (((List.length z22 : Nat) : Int) - 1))) z22)) = y := ⟨_, rfl⟩
         rw [hyl348] at H
         refine In.step (k' := 5) rfl (by kernel_rfl) ?_
         refine Step.slice (e := eU8) (l := z22) (A := A26) (c := c27) (T := 22) (E := 5) (x := (.tmp 70)) (lo := none) (hi := (some (.tmp 73))) (i := 0) (j := (IntKind.wrap .i64 (((List.length z22 : Nat) : Int) - 1))) (d := (some 74)) (k := 4) (by kernel_rfl) rfl (by kernel_rfl) (by kernel_rfl) (by kernel_rfl) rfl ⟨.i64, by kernel_rfl⟩ (RdX.le (rowT_rd (SP.get hs344 (i := 0) rfl))) hz345 hz346 hz347 ?_
         intro A349 c350 _ _ hcut351
         rw [hyl348] at hcut351 ⊢
         obtain ⟨z352, hz353, H⟩ := bind_elim H
         refine In.step (k' := 6) rfl (by kernel_rfl) ?_
         refine Step.callF (f := 10) (fo := (.func 10)) (xs := #[(.tmp 74)]) (tys := #[22]) (first := #[]) (captured := #[]) (d := (some 75)) (k := 5) (by kernel_rfl) rfl (by kernel_rfl) (by kernel_rfl) Tryd.call10 (L_num_Get_walk A349 c350 l348 w341 (hcut351 w341 (rowT_rd (SP.get hs344 (i := 0) rfl))) z352 hz353) ?_
         rintro e w354 ⟨rfl, hs355⟩
         refine ⟨_, rfl, ?_⟩
         have hs356 := SP.call hs344 hs355
         clear hs355
         have hs357 : SP [] w0 w354 [rowT 5 eU8 A26 c27 z22, rowT 5 eU8 A334 c335 l333] := hs356
         clear hs356
         refine In.run' 7 (k' := 13) rfl [(69, (.tuple #[(.int .i64 z352.1), (.int .i64 z352.2.1), (.bool z352.2.2)])), (76, (.int .i64 z352.1)), (77, (.int .i64 z352.2.1)), (78, (.bool z352.2.2)), (13, (.int .i64 z352.1)), (14, (.int .i64 z352.2.1)), (15, (.bool z352.2.2))] (by kernel_rfl) ?_
         refine In.fin (by kernel_rfl) ?_
         refine At.seq (by kernel_rfl) (p0 := [true, true, true, true, true, true, false, true, false, true, true, false]) (p1 := [true, true, true, true, true, true, false, true, false, true, true, true]) rfl rfl ?_
         refine At.region (by kernel_rfl) (by kernel_rfl) ?_
         refine In.run' 1 (k' := 1) rfl [(80, (.int .i64 p1))] (by kernel_rfl) ?_
         obtain ⟨z358, hz359, H⟩ := bind_elim H
         refine In.step (k' := 2) rfl (by kernel_rfl) ?_
         refine Step.callF (f := 20) (fo := (.func 20)) (xs := #[(.tmp 80)]) (tys := #[2]) (first := #[]) (captured := #[]) (d := (some 81)) (k := 1) (by kernel_rfl) rfl (by kernel_rfl) (by kernel_rfl) Tryd.call20 (L_num_Decimal_walk  p1 w354 (laid_below hL (SP.keeps hs357)) z358 hz359) ?_
         rintro e w360 ⟨rfl, hs361⟩
         refine ⟨_, rfl, ?_⟩
         have hs362 := SP.call hs357 hs361
         clear hs361
         have hs363 : SP [] w0 w360 [rowT 5 eU8 A26 c27 z22, rowT 5 eU8 A334 c335 l333] := hs362
         clear hs362
         obtain ⟨z364, hz365, H⟩ := bind_elim H
         refine In.step (k' := 3) rfl (by kernel_rfl) ?_
         refine Step.callF (f := 14) (fo := (.func 14)) (xs := #[(.tmp 81)]) (tys := #[9]) (first := #[]) (captured := #[]) (d := (some 82)) (k := 2) (by kernel_rfl) rfl (by kernel_rfl) (by kernel_rfl) Tryd.call14 (L_num_Parse_walk  z358 w360 (laid_below hL (SP.keeps hs363)) z364 hz365) ?_
         rintro e w366 ⟨rfl, hs367⟩
         refine ⟨_, rfl, ?_⟩
         have hs368 := SP.call hs363 hs367
         clear hs367
         have hs369 : SP [] w0 w366 [rowT 5 eU8 A26 c27 z22, rowT 5 eU8 A334 c335 l333] := hs368
         clear hs368
         refine In.run' 5 (k' := 8) rfl [(79, (.tuple #[(.int .i64 z364.1), (.bool z364.2)])), (83, (.int .i64 z364.1)), (84, (.bool z364.2)), (16, (.int .i64 z364.1)), (17, (.bool z364.2))] (by kernel_rfl) ?_
         refine In.fin (by kernel_rfl) ?_
         refine At.seq (by kernel_rfl) (p0 := [true, true, true, true, true, true, false, true, false, true, true, true, false]) (p1 := [true, true, true, true, true, true, false, true, false, true, true, true, true]) rfl rfl ?_
         refine At.join (fun ρ w => ∃ (v375 : Bool), Known ρ [(1, (.slice A3 (List.length p2) c4)), (2, (.string ⟨List.toArray p6⟩)), (7, (.bool z7)), (109, (.bool v375))] ∧ SP [] w0 w [] ∧ L_subwaylaw01_NumBack_k9 p2 p6 z7 v375 = some r) ?_ ?_
         ·refine At.region (by kernel_rfl) (by kernel_rfl) ?_
          refine In.run' 3 (k' := 3) rfl [(85, (.bool z339.2.2)), (86, (.bool (!z339.2.2))), (87, (.bool (!z339.2.2)))] (by kernel_rfl) ?_
          refine In.guard (t := 87) (b := (!z339.2.2)) (by kernel_rfl) (fun hb379 => ?_) (fun hb379 => ?_)
          ·have H := ct H hb379
           refine In.run' 22 (k' := 25) rfl [(88, undef), (89, undef), (90, undef), (91, (.bool true)), (92, (.bool true)), (93, undef), (94, undef), (95, undef), (96, undef), (97, (.bool true)), (98, (.bool true)), (99, undef), (100, (.bool true)), (101, (.bool true)), (102, undef), (103, undef), (104, (.bool true)), (105, (.bool true)), (106, undef), (107, undef), (108, undef), (109, (.bool true))] (by kernel_rfl) ?_
           refine In.fin (by kernel_rfl) ?_
           exact ⟨true, ⟨(by kernel_rfl), (by kernel_rfl), (by kernel_rfl), (by kernel_rfl), trivial⟩, SP.sel hs369 [] rfl rfl, H⟩
          ·have H := cf H hb379
           refine In.run' 5 (k' := 8) rfl [(88, (.int .i64 z339.1)), (89, (.int .i64 p1)), (90, (.bool (z339.1 != p1))), (91, (.bool (z339.1 != p1))), (92, (.bool (z339.1 != p1)))] (by kernel_rfl) ?_
           refine In.guard (t := 92) (b := (z339.1 != p1)) (by kernel_rfl) (fun hb380 => ?_) (fun hb380 => ?_)
           ·have H := ct H hb380
            refine In.run' 17 (k' := 25) rfl [(93, undef), (94, undef), (95, undef), (96, undef), (97, (.bool true)), (98, (.bool true)), (99, undef), (100, (.bool true)), (101, (.bool true)), (102, undef), (103, undef), (104, (.bool true)), (105, (.bool true)), (106, undef), (107, undef), (108, undef), (109, (.bool true))] (by kernel_rfl) ?_
            refine In.fin (by kernel_rfl) ?_
            exact ⟨true, ⟨(by kernel_rfl), (by kernel_rfl), (by kernel_rfl), (by kernel_rfl), trivial⟩, SP.sel hs369 [] rfl rfl, H⟩
           ·have H := cf H hb380
            refine In.run' 6 (k' := 14) rfl [(93, (.int .i64 z339.2.1)), (94, (.slice A26 (List.length z22) c27)), (95, (.int .i64 ((List.length z22 : Nat) : Int))), (96, (.bool (z339.2.1 != ((List.length z22 : Nat) : Int)))), (97, (.bool (z339.2.1 != ((List.length z22 : Nat) : Int)))), (98, (.bool (z339.2.1 != ((List.length z22 : Nat) : Int))))] (by kernel_rfl) ?_
            refine In.guard (t := 98) (b := (z339.2.1 != ((List.length z22 : Nat) : Int))) (by kernel_rfl) (fun hb381 => ?_) (fun hb381 => ?_)
            ·have H := ct H hb381
             refine In.run' 11 (k' := 25) rfl [(99, undef), (100, (.bool true)), (101, (.bool true)), (102, undef), (103, undef), (104, (.bool true)), (105, (.bool true)), (106, undef), (107, undef), (108, undef), (109, (.bool true))] (by kernel_rfl) ?_
             refine In.fin (by kernel_rfl) ?_
             exact ⟨true, ⟨(by kernel_rfl), (by kernel_rfl), (by kernel_rfl), (by kernel_rfl), trivial⟩, SP.sel hs369 [] rfl rfl, H⟩
            ·have H := cf H hb381
             refine In.run' 3 (k' := 17) rfl [(99, (.bool z352.2.2)), (100, (.bool z352.2.2)), (101, (.bool z352.2.2))] (by kernel_rfl) ?_
             refine In.guard (t := 101) (b := z352.2.2) (by kernel_rfl) (fun hb382 => ?_) (fun hb382 => ?_)
             ·have H := ct H hb382
              refine In.run' 8 (k' := 25) rfl [(102, undef), (103, undef), (104, (.bool true)), (105, (.bool true)), (106, undef), (107, undef), (108, undef), (109, (.bool true))] (by kernel_rfl) ?_
              refine In.fin (by kernel_rfl) ?_
              exact ⟨true, ⟨(by kernel_rfl), (by kernel_rfl), (by kernel_rfl), (by kernel_rfl), trivial⟩, SP.sel hs369 [] rfl rfl, H⟩
             ·have H := cf H hb382
              refine In.run' 4 (k' := 21) rfl [(102, (.bool z364.2)), (103, (.bool (!z364.2))), (104, (.bool (!z364.2))), (105, (.bool (!z364.2)))] (by kernel_rfl) ?_
              refine In.guard (t := 105) (b := (!z364.2)) (by kernel_rfl) (fun hb383 => ?_) (fun hb383 => ?_)
              ·have H := ct H hb383
               refine In.run' 4 (k' := 25) rfl [(106, undef), (107, undef), (108, undef), (109, (.bool true))] (by kernel_rfl) ?_
               refine In.fin (by kernel_rfl) ?_
               exact ⟨true, ⟨(by kernel_rfl), (by kernel_rfl), (by kernel_rfl), (by kernel_rfl), trivial⟩, SP.sel hs369 [] rfl rfl, H⟩
              ·have H := cf H hb383
               refine In.run' 4 (k' := 25) rfl [(106, (.int .i64 z364.1)), (107, (.int .i64 p1)), (108, (.bool (z364.1 != p1))), (109, (.bool (z364.1 != p1)))] (by kernel_rfl) ?_
               refine In.fin (by kernel_rfl) ?_
               exact ⟨(z364.1 != p1), ⟨(by kernel_rfl), (by kernel_rfl), (by kernel_rfl), (by kernel_rfl), trivial⟩, SP.sel hs369 [] rfl rfl, H⟩
         ·rintro ρ w376 ⟨v375, hk, hs377, H⟩
          unfold L_subwaylaw01_NumBack_k9 at H
          refine At.known [(1, (.slice A3 (List.length p2) c4)), (2, (.string ⟨List.toArray p6⟩)), (7, (.bool z7)), (109, (.bool v375))] hk ?_
          refine At.cond (by kernel_rfl) (o := (.tmp 109)) (by kernel_rfl) (b := v375) (by kernel_rfl) (p0 := [true, true, true, true, true, true, false, true, false, true, true, true, true, false]) (p1 := [true, true, true, true, true, true, false, true, false, true, true, true, true, true]) rfl rfl (fun hb378 => ?_) (fun hb378 => ?_)
          ·have H := ct H hb378
           refine At.seq (by kernel_rfl) (p0 := [true, true, true, true, true, true, false, true, false, true, true, true, true, false, false]) (p1 := [true, true, true, true, true, true, false, true, false, true, true, true, true, false, true]) rfl rfl ?_
           refine At.region (by kernel_rfl) (by kernel_rfl) ?_
           refine In.run' 1 (k' := 1) rfl [(6, (.bool false))] (by kernel_rfl) ?_
           refine In.fin (by kernel_rfl) ?_
           refine At.ret (by kernel_rfl) ?_
           refine ⟨(.bool false), by kernel_rfl, ?_⟩
           obtain rfl := some_elim H
           exact ⟨rfl, SP.sel hs377 [] rfl rfl⟩
          ·have H := cf H hb378
           refine At.skip (by kernel_rfl) ?_
           exact ⟨⟨(by kernel_rfl), (by kernel_rfl), (by kernel_rfl), trivial⟩, SP.sel hs377 [] rfl rfl, H⟩
        ·have H := cf H hb320
         refine At.skip (by kernel_rfl) ?_
         exact ⟨⟨(by kernel_rfl), (by kernel_rfl), (by kernel_rfl), trivial⟩, SP.sel hs44 [] rfl rfl, H⟩
       ·rintro ρ w109 ⟨hk, hs110, H⟩
        unfold L_subwaylaw01_NumBack_k6 at H
        refine At.known [(1, (.slice A3 (List.length p2) c4)), (2, (.string ⟨List.toArray p6⟩)), (7, (.bool z7))] hk ?_
        refine At.seq (by kernel_rfl) (p0 := [true, true, true, true, true, true, true, false]) (p1 := [true, true, true, true, true, true, true, true]) rfl rfl ?_
        refine At.region (by kernel_rfl) (by kernel_rfl) ?_
        refine In.run' 1 (k' := 1) rfl [(111, (.slice A3 (List.length p2) c4))] (by kernel_rfl) ?_
        obtain ⟨z111, hz112, H⟩ := bind_elim H
        refine In.step (k' := 2) rfl (by kernel_rfl) ?_
        refine Step.callF (f := 10) (fo := (.func 10)) (xs := #[(.tmp 111)]) (tys := #[22]) (first := #[]) (captured := #[]) (d := (some 112)) (k := 1) (by kernel_rfl) rfl (by kernel_rfl) (by kernel_rfl) Tryd.call10 (L_num_Get_walk A3 c4 p2 w109 (RdT.sp hr5 hs110) z111 hz112) ?_
        rintro e w113 ⟨rfl, hs114⟩
        refine ⟨_, rfl, ?_⟩
        have hs115 := SP.call hs110 hs114
        clear hs114
        have hs116 : SP [] w0 w113 [] := hs115
        clear hs115
        refine In.run' 7 (k' := 9) rfl [(110, (.tuple #[(.int .i64 z111.1), (.int .i64 z111.2.1), (.bool z111.2.2)])), (113, (.int .i64 z111.1)), (114, (.int .i64 z111.2.1)), (115, (.bool z111.2.2)), (18, (.int .i64 z111.1)), (19, (.int .i64 z111.2.1)), (20, (.bool z111.2.2))] (by kernel_rfl) ?_
        refine In.fin (by kernel_rfl) ?_
        refine At.seq (by kernel_rfl) (p0 := [true, true, true, true, true, true, true, true, false]) (p1 := [true, true, true, true, true, true, true, true, true]) rfl rfl ?_
        refine At.seq (by kernel_rfl) (p0 := [true, true, true, true, true, true, true, true, false, false]) (p1 := [true, true, true, true, true, true, true, true, false, true]) rfl rfl ?_
        refine At.join (fun ρ w => ∃ (v204 : Bool), Known ρ [(2, (.string ⟨List.toArray p6⟩)), (7, (.bool z7)), (144, (.bool v204))] ∧ SP [] w0 w [] ∧ L_subwaylaw01_NumBack_k7 p6 z7 v204 = some r) ?_ ?_
        ·rcases Bool.eq_false_or_eq_true z111.2.2 with hb233 | hb233
         ·have H := ct H hb233
          rcases Bool.eq_false_or_eq_true (decide (z111.2.1 < 1)) with hb234 | hb234
          ·have H := ct H hb234
           refine At.draw (by kernel_rfl) (by kernel_rfl) (by kernel_rfl) (by kernel_rfl) (by kernel_rfl) [FEq (.bool z111.2.2), FEq (.bool z111.2.2), FEq (.int .i64 z111.2.1), FEq (.bool (decide (z111.2.1 < 1))), FEq (.bool (decide (z111.2.1 < 1))), FEq undef, FEq undef, FEq undef, FEq undef, FEq (.bool true), FEq (.bool true), FEq undef, FEq undef, FEq undef, FEq undef, FEq undef, FEq undef, FEq undef, FEq undef, FEq (.bool true), FEq (.bool true), FEq (.bool true), FEq undef, FEq undef, FEq undef, FEq undef, FEq undef, FEq undef, FEq (.bool true)] ⟨mono_eq _, mono_eq _, mono_eq _, mono_eq _, mono_eq _, mono_eq _, mono_eq _, mono_eq _, mono_eq _, mono_eq _, mono_eq _, mono_eq _, mono_eq _, mono_eq _, mono_eq _, mono_eq _, mono_eq _, mono_eq _, mono_eq _, mono_eq _, mono_eq _, mono_eq _, mono_eq _, mono_eq _, mono_eq _, mono_eq _, mono_eq _, mono_eq _, mono_eq _, trivial⟩ (N := 29) (by kernel_rfl) ⟨⟨⟨⟨⟨⟨⟨⟨⟨⟨⟨⟨⟨⟨⟨⟨⟨⟨⟨⟨⟨⟨⟨⟨⟨⟨⟨⟨⟨trivial, ?_⟩, ?_⟩, ?_⟩, ?_⟩, ?_⟩, ?_⟩, ?_⟩, ?_⟩, ?_⟩, ?_⟩, ?_⟩, ?_⟩, ?_⟩, ?_⟩, ?_⟩, ?_⟩, ?_⟩, ?_⟩, ?_⟩, ?_⟩, ?_⟩, ?_⟩, ?_⟩, ?_⟩, ?_⟩, ?_⟩, ?_⟩, ?_⟩, ?_⟩ ?_
           ·exact Owes.pure [(20, (.bool z111.2.2))] ⟨sS (by kernel_rfl) (by kernel_rfl), trivial⟩ (.bool z111.2.2) (fun _ _ => by kernel_rfl) (fun _ => rfl)
           ·exact Owes.pure [(116, (.bool z111.2.2))] ⟨sA 0 (by kernel_rfl) (by kernel_rfl), trivial⟩ (.bool z111.2.2) (fun _ _ => by kernel_rfl) (fun _ => rfl)
           ·exact Owes.pure [(19, (.int .i64 z111.2.1)), (117, (.bool true))] ⟨sS (by kernel_rfl) (by kernel_rfl), sB 1 (by kernel_rfl) z111.2.2 (by kernel_rfl) hb233, trivial⟩ (.int .i64 z111.2.1) (fun _ _ => by kernel_rfl) (fun _ => rfl)
           ·exact Owes.pure [(118, (.int .i64 z111.2.1)), (117, (.bool true))] ⟨sA 2 (by kernel_rfl) (by kernel_rfl), sB 1 (by kernel_rfl) z111.2.2 (by kernel_rfl) hb233, trivial⟩ (.bool (decide (z111.2.1 < 1))) (fun _ _ => by kernel_rfl) (fun _ => rfl)
           ·exact Owes.pure [(119, (.bool (decide (z111.2.1 < 1)))), (117, (.bool true))] ⟨sA 3 (by kernel_rfl) (by kernel_rfl), sB 1 (by kernel_rfl) z111.2.2 (by kernel_rfl) hb233, trivial⟩ (.bool (decide (z111.2.1 < 1))) (fun _ _ => by kernel_rfl) (fun _ => rfl)
           ·exact Owes.skip [(120, (.bool true))] ⟨sB 4 (by kernel_rfl) (decide (z111.2.1 < 1)) (by kernel_rfl) hb234, trivial⟩ (some 121) (fun _ => by kernel_rfl) (by kernel_rfl) (fun _ => rfl)
           ·exact Owes.skip [(120, (.bool true))] ⟨sB 4 (by kernel_rfl) (decide (z111.2.1 < 1)) (by kernel_rfl) hb234, trivial⟩ (some 122) (fun _ => by kernel_rfl) (by kernel_rfl) (fun _ => rfl)
           ·exact Owes.skip [(120, (.bool true))] ⟨sB 4 (by kernel_rfl) (decide (z111.2.1 < 1)) (by kernel_rfl) hb234, trivial⟩ (some 123) (fun _ => by kernel_rfl) (by kernel_rfl) (fun _ => rfl)
           ·exact Owes.skip [(120, (.bool true))] ⟨sB 4 (by kernel_rfl) (decide (z111.2.1 < 1)) (by kernel_rfl) hb234, trivial⟩ (some 124) (fun _ => by kernel_rfl) (by kernel_rfl) (fun _ => rfl)
           ·exact Owes.pure [(120, (.bool true)), (124, undef), (117, (.bool true))] ⟨sB 4 (by kernel_rfl) (decide (z111.2.1 < 1)) (by kernel_rfl) hb234, sA 8 (by kernel_rfl) (by kernel_rfl), sB 1 (by kernel_rfl) z111.2.2 (by kernel_rfl) hb233, trivial⟩ (.bool true) (fun _ _ => by kernel_rfl) (fun _ => rfl)
           ·exact Owes.pure [(125, (.bool true)), (117, (.bool true))] ⟨sA 9 (by kernel_rfl) (by kernel_rfl), sB 1 (by kernel_rfl) z111.2.2 (by kernel_rfl) hb233, trivial⟩ (.bool true) (fun _ _ => by kernel_rfl) (fun _ => rfl)
           ·exact Owes.skip [(126, (.bool true))] ⟨sA 10 (by kernel_rfl) (by kernel_rfl), trivial⟩ (some 127) (fun _ => by kernel_rfl) (by kernel_rfl) (fun _ => rfl)
           ·exact Owes.skip [(126, (.bool true))] ⟨sA 10 (by kernel_rfl) (by kernel_rfl), trivial⟩ (some 128) (fun _ => by kernel_rfl) (by kernel_rfl) (fun _ => rfl)
           ·exact Owes.skip [(126, (.bool true))] ⟨sA 10 (by kernel_rfl) (by kernel_rfl), trivial⟩ (some 129) (fun _ => by kernel_rfl) (by kernel_rfl) (fun _ => rfl)
           ·exact Owes.skip [(126, (.bool true))] ⟨sA 10 (by kernel_rfl) (by kernel_rfl), trivial⟩ (some 130) (fun _ => by kernel_rfl) (by kernel_rfl) (fun _ => rfl)
           ·exact Owes.skip [(126, (.bool true))] ⟨sA 10 (by kernel_rfl) (by kernel_rfl), trivial⟩ (some 131) (fun _ => by kernel_rfl) (by kernel_rfl) (fun _ => rfl)
           ·exact Owes.skip [(126, (.bool true))] ⟨sA 10 (by kernel_rfl) (by kernel_rfl), trivial⟩ (some 132) (fun _ => by kernel_rfl) (by kernel_rfl) (fun _ => rfl)
           ·exact Owes.skip [(126, (.bool true))] ⟨sA 10 (by kernel_rfl) (by kernel_rfl), trivial⟩ (some 133) (fun _ => by kernel_rfl) (by kernel_rfl) (fun _ => rfl)
           ·exact Owes.skip [(126, (.bool true))] ⟨sA 10 (by kernel_rfl) (by kernel_rfl), trivial⟩ (some 134) (fun _ => by kernel_rfl) (by kernel_rfl) (fun _ => rfl)
           ·exact Owes.pure [(126, (.bool true)), (134, undef), (117, (.bool true))] ⟨sA 10 (by kernel_rfl) (by kernel_rfl), sA 18 (by kernel_rfl) (by kernel_rfl), sB 1 (by kernel_rfl) z111.2.2 (by kernel_rfl) hb233, trivial⟩ (.bool true) (fun _ _ => by kernel_rfl) (fun _ => rfl)
           ·exact Owes.pure [(117, (.bool true)), (135, (.bool true))] ⟨sB 1 (by kernel_rfl) z111.2.2 (by kernel_rfl) hb233, sA 19 (by kernel_rfl) (by kernel_rfl), trivial⟩ (.bool true) (fun _ _ => by kernel_rfl) (fun _ => rfl)
           ·exact Owes.pure [(136, (.bool true))] ⟨sA 20 (by kernel_rfl) (by kernel_rfl), trivial⟩ (.bool true) (fun _ _ => by kernel_rfl) (fun _ => rfl)
           ·exact Owes.skip [(137, (.bool true))] ⟨sA 21 (by kernel_rfl) (by kernel_rfl), trivial⟩ (some 138) (fun _ => by kernel_rfl) (by kernel_rfl) (fun _ => rfl)
           ·exact Owes.skip [(137, (.bool true))] ⟨sA 21 (by kernel_rfl) (by kernel_rfl), trivial⟩ (some 139) (fun _ => by kernel_rfl) (by kernel_rfl) (fun _ => rfl)
           ·exact Owes.skip [(137, (.bool true))] ⟨sA 21 (by kernel_rfl) (by kernel_rfl), trivial⟩ (some 140) (fun _ => by kernel_rfl) (by kernel_rfl) (fun _ => rfl)
           ·exact Owes.skip [(140, undef)] ⟨sA 24 (by kernel_rfl) (by kernel_rfl), trivial⟩ (some 141) (fun _ => by kernel_rfl) (by kernel_rfl) (fun _ => rfl)
           ·exact Owes.skip [(140, undef)] ⟨sA 24 (by kernel_rfl) (by kernel_rfl), trivial⟩ (some 142) (fun _ => by kernel_rfl) (by kernel_rfl) (fun _ => rfl)
           ·exact Owes.skip [(137, (.bool true))] ⟨sA 21 (by kernel_rfl) (by kernel_rfl), trivial⟩ (some 143) (fun _ => by kernel_rfl) (by kernel_rfl) (fun _ => rfl)
           ·exact Owes.pure [(137, (.bool true)), (143, undef)] ⟨sA 21 (by kernel_rfl) (by kernel_rfl), sA 27 (by kernel_rfl) (by kernel_rfl), trivial⟩ (.bool true) (fun _ _ => by kernel_rfl) (fun _ => rfl)
           ·intro ρ' w' hk hs hf
            have hs236 := SP.below hs116 hk
            obtain ⟨w235, hww235⟩ : ∃ x, w' = x := ⟨_, rfl⟩
            subst hww235
            have e2 : ρ' 2 = (.string ⟨List.toArray p6⟩) := (hs 2 (by kernel_rfl)).trans (by kernel_rfl)
            have e7 : ρ' 7 = (.bool z7) := (hs 7 (by kernel_rfl)).trans (by kernel_rfl)
            have e144 := hf 28 144 (by kernel_rfl)
            refine postKnown [(2, (.string ⟨List.toArray p6⟩)), (7, (.bool z7)), (144, (.bool true))] ⟨e2, e7, e144, trivial⟩ ?_
            exact ⟨true, ⟨(by kernel_rfl), (by kernel_rfl), (by kernel_rfl), trivial⟩, SP.sel hs236 [] rfl rfl, H⟩
          ·have H := cf H hb234
           rcases Bool.eq_false_or_eq_true (decide (z111.2.1 > ((List.length p2 : Nat) : Int))) with hb237 | hb237
           ·have H := ct H hb237
            refine At.draw (by kernel_rfl) (by kernel_rfl) (by kernel_rfl) (by kernel_rfl) (by kernel_rfl) [FEq (.bool z111.2.2), FEq (.bool z111.2.2), FEq (.int .i64 z111.2.1), FEq (.bool (decide (z111.2.1 < 1))), FEq (.bool (decide (z111.2.1 < 1))), FEq (.int .i64 z111.2.1), FEq (.slice A3 (List.length p2) c4), FEq (.int .i64 ((List.length p2 : Nat) : Int)), FEq (.bool (decide (z111.2.1 > ((List.length p2 : Nat) : Int)))), FEq (.bool (decide (z111.2.1 > ((List.length p2 : Nat) : Int)))), FEq (.bool (decide (z111.2.1 > ((List.length p2 : Nat) : Int)))), FEq undef, FEq undef, FEq undef, FEq undef, FEq undef, FEq undef, FEq undef, FEq undef, FEq (.bool true), FEq (.bool true), FEq (.bool true), FEq undef, FEq undef, FEq undef, FEq undef, FEq undef, FEq undef, FEq (.bool true)] ⟨mono_eq _, mono_eq _, mono_eq _, mono_eq _, mono_eq _, mono_eq _, mono_eq _, mono_eq _, mono_eq _, mono_eq _, mono_eq _, mono_eq _, mono_eq _, mono_eq _, mono_eq _, mono_eq _, mono_eq _, mono_eq _, mono_eq _, mono_eq _, mono_eq _, mono_eq _, mono_eq _, mono_eq _, mono_eq _, mono_eq _, mono_eq _, mono_eq _, mono_eq _, trivial⟩ (N := 29) (by kernel_rfl) ⟨⟨⟨⟨⟨⟨⟨⟨⟨⟨⟨⟨⟨⟨⟨⟨⟨⟨⟨⟨⟨⟨⟨⟨⟨⟨⟨⟨⟨trivial, ?_⟩, ?_⟩, ?_⟩, ?_⟩, ?_⟩, ?_⟩, ?_⟩, ?_⟩, ?_⟩, ?_⟩, ?_⟩, ?_⟩, ?_⟩, ?_⟩, ?_⟩, ?_⟩, ?_⟩, ?_⟩, ?_⟩, ?_⟩, ?_⟩, ?_⟩, ?_⟩, ?_⟩, ?_⟩, ?_⟩, ?_⟩, ?_⟩, ?_⟩ ?_
            ·exact Owes.pure [(20, (.bool z111.2.2))] ⟨sS (by kernel_rfl) (by kernel_rfl), trivial⟩ (.bool z111.2.2) (fun _ _ => by kernel_rfl) (fun _ => rfl)
            ·exact Owes.pure [(116, (.bool z111.2.2))] ⟨sA 0 (by kernel_rfl) (by kernel_rfl), trivial⟩ (.bool z111.2.2) (fun _ _ => by kernel_rfl) (fun _ => rfl)
            ·exact Owes.pure [(19, (.int .i64 z111.2.1)), (117, (.bool true))] ⟨sS (by kernel_rfl) (by kernel_rfl), sB 1 (by kernel_rfl) z111.2.2 (by kernel_rfl) hb233, trivial⟩ (.int .i64 z111.2.1) (fun _ _ => by kernel_rfl) (fun _ => rfl)
            ·exact Owes.pure [(118, (.int .i64 z111.2.1)), (117, (.bool true))] ⟨sA 2 (by kernel_rfl) (by kernel_rfl), sB 1 (by kernel_rfl) z111.2.2 (by kernel_rfl) hb233, trivial⟩ (.bool (decide (z111.2.1 < 1))) (fun _ _ => by kernel_rfl) (fun _ => rfl)
            ·exact Owes.pure [(119, (.bool (decide (z111.2.1 < 1)))), (117, (.bool true))] ⟨sA 3 (by kernel_rfl) (by kernel_rfl), sB 1 (by kernel_rfl) z111.2.2 (by kernel_rfl) hb233, trivial⟩ (.bool (decide (z111.2.1 < 1))) (fun _ _ => by kernel_rfl) (fun _ => rfl)
            ·exact Owes.pure [(19, (.int .i64 z111.2.1)), (120, (.bool false))] ⟨sS (by kernel_rfl) (by kernel_rfl), sB 4 (by kernel_rfl) (decide (z111.2.1 < 1)) (by kernel_rfl) hb234, trivial⟩ (.int .i64 z111.2.1) (fun _ _ => by kernel_rfl) (fun _ => rfl)
            ·exact Owes.pure [(1, (.slice A3 (List.length p2) c4)), (120, (.bool false))] ⟨sS (by kernel_rfl) (by kernel_rfl), sB 4 (by kernel_rfl) (decide (z111.2.1 < 1)) (by kernel_rfl) hb234, trivial⟩ (.slice A3 (List.length p2) c4) (fun _ _ => by kernel_rfl) (fun _ => rfl)
            ·exact Owes.pure [(122, (.slice A3 (List.length p2) c4)), (120, (.bool false))] ⟨sA 6 (by kernel_rfl) (by kernel_rfl), sB 4 (by kernel_rfl) (decide (z111.2.1 < 1)) (by kernel_rfl) hb234, trivial⟩ (.int .i64 ((List.length p2 : Nat) : Int)) (fun _ _ => by kernel_rfl) (fun _ => rfl)
            ·exact Owes.pure [(121, (.int .i64 z111.2.1)), (123, (.int .i64 ((List.length p2 : Nat) : Int))), (120, (.bool false))] ⟨sA 5 (by kernel_rfl) (by kernel_rfl), sA 7 (by kernel_rfl) (by kernel_rfl), sB 4 (by kernel_rfl) (decide (z111.2.1 < 1)) (by kernel_rfl) hb234, trivial⟩ (.bool (decide (z111.2.1 > ((List.length p2 : Nat) : Int)))) (fun _ _ => by kernel_rfl) (fun _ => rfl)
            ·exact Owes.pure [(120, (.bool false)), (124, (.bool (decide (z111.2.1 > ((List.length p2 : Nat) : Int))))), (117, (.bool true))] ⟨sB 4 (by kernel_rfl) (decide (z111.2.1 < 1)) (by kernel_rfl) hb234, sA 8 (by kernel_rfl) (by kernel_rfl), sB 1 (by kernel_rfl) z111.2.2 (by kernel_rfl) hb233, trivial⟩ (.bool (decide (z111.2.1 > ((List.length p2 : Nat) : Int)))) (fun _ _ => by kernel_rfl) (fun _ => rfl)
            ·exact Owes.pure [(125, (.bool (decide (z111.2.1 > ((List.length p2 : Nat) : Int))))), (117, (.bool true))] ⟨sA 9 (by kernel_rfl) (by kernel_rfl), sB 1 (by kernel_rfl) z111.2.2 (by kernel_rfl) hb233, trivial⟩ (.bool (decide (z111.2.1 > ((List.length p2 : Nat) : Int)))) (fun _ _ => by kernel_rfl) (fun _ => rfl)
            ·exact Owes.skip [(126, (.bool true))] ⟨sB 10 (by kernel_rfl) (decide (z111.2.1 > ((List.length p2 : Nat) : Int))) (by kernel_rfl) hb237, trivial⟩ (some 127) (fun _ => by kernel_rfl) (by kernel_rfl) (fun _ => rfl)
            ·exact Owes.skip [(126, (.bool true))] ⟨sB 10 (by kernel_rfl) (decide (z111.2.1 > ((List.length p2 : Nat) : Int))) (by kernel_rfl) hb237, trivial⟩ (some 128) (fun _ => by kernel_rfl) (by kernel_rfl) (fun _ => rfl)
            ·exact Owes.skip [(126, (.bool true))] ⟨sB 10 (by kernel_rfl) (decide (z111.2.1 > ((List.length p2 : Nat) : Int))) (by kernel_rfl) hb237, trivial⟩ (some 129) (fun _ => by kernel_rfl) (by kernel_rfl) (fun _ => rfl)
            ·exact Owes.skip [(126, (.bool true))] ⟨sB 10 (by kernel_rfl) (decide (z111.2.1 > ((List.length p2 : Nat) : Int))) (by kernel_rfl) hb237, trivial⟩ (some 130) (fun _ => by kernel_rfl) (by kernel_rfl) (fun _ => rfl)
            ·exact Owes.skip [(126, (.bool true))] ⟨sB 10 (by kernel_rfl) (decide (z111.2.1 > ((List.length p2 : Nat) : Int))) (by kernel_rfl) hb237, trivial⟩ (some 131) (fun _ => by kernel_rfl) (by kernel_rfl) (fun _ => rfl)
            ·exact Owes.skip [(126, (.bool true))] ⟨sB 10 (by kernel_rfl) (decide (z111.2.1 > ((List.length p2 : Nat) : Int))) (by kernel_rfl) hb237, trivial⟩ (some 132) (fun _ => by kernel_rfl) (by kernel_rfl) (fun _ => rfl)
            ·exact Owes.skip [(126, (.bool true))] ⟨sB 10 (by kernel_rfl) (decide (z111.2.1 > ((List.length p2 : Nat) : Int))) (by kernel_rfl) hb237, trivial⟩ (some 133) (fun _ => by kernel_rfl) (by kernel_rfl) (fun _ => rfl)
            ·exact Owes.skip [(126, (.bool true))] ⟨sB 10 (by kernel_rfl) (decide (z111.2.1 > ((List.length p2 : Nat) : Int))) (by kernel_rfl) hb237, trivial⟩ (some 134) (fun _ => by kernel_rfl) (by kernel_rfl) (fun _ => rfl)
            ·exact Owes.pure [(126, (.bool true)), (134, undef), (117, (.bool true))] ⟨sB 10 (by kernel_rfl) (decide (z111.2.1 > ((List.length p2 : Nat) : Int))) (by kernel_rfl) hb237, sA 18 (by kernel_rfl) (by kernel_rfl), sB 1 (by kernel_rfl) z111.2.2 (by kernel_rfl) hb233, trivial⟩ (.bool true) (fun _ _ => by kernel_rfl) (fun _ => rfl)
            ·exact Owes.pure [(117, (.bool true)), (135, (.bool true))] ⟨sB 1 (by kernel_rfl) z111.2.2 (by kernel_rfl) hb233, sA 19 (by kernel_rfl) (by kernel_rfl), trivial⟩ (.bool true) (fun _ _ => by kernel_rfl) (fun _ => rfl)
            ·exact Owes.pure [(136, (.bool true))] ⟨sA 20 (by kernel_rfl) (by kernel_rfl), trivial⟩ (.bool true) (fun _ _ => by kernel_rfl) (fun _ => rfl)
            ·exact Owes.skip [(137, (.bool true))] ⟨sA 21 (by kernel_rfl) (by kernel_rfl), trivial⟩ (some 138) (fun _ => by kernel_rfl) (by kernel_rfl) (fun _ => rfl)
            ·exact Owes.skip [(137, (.bool true))] ⟨sA 21 (by kernel_rfl) (by kernel_rfl), trivial⟩ (some 139) (fun _ => by kernel_rfl) (by kernel_rfl) (fun _ => rfl)
            ·exact Owes.skip [(137, (.bool true))] ⟨sA 21 (by kernel_rfl) (by kernel_rfl), trivial⟩ (some 140) (fun _ => by kernel_rfl) (by kernel_rfl) (fun _ => rfl)
            ·exact Owes.skip [(140, undef)] ⟨sA 24 (by kernel_rfl) (by kernel_rfl), trivial⟩ (some 141) (fun _ => by kernel_rfl) (by kernel_rfl) (fun _ => rfl)
            ·exact Owes.skip [(140, undef)] ⟨sA 24 (by kernel_rfl) (by kernel_rfl), trivial⟩ (some 142) (fun _ => by kernel_rfl) (by kernel_rfl) (fun _ => rfl)
            ·exact Owes.skip [(137, (.bool true))] ⟨sA 21 (by kernel_rfl) (by kernel_rfl), trivial⟩ (some 143) (fun _ => by kernel_rfl) (by kernel_rfl) (fun _ => rfl)
            ·exact Owes.pure [(137, (.bool true)), (143, undef)] ⟨sA 21 (by kernel_rfl) (by kernel_rfl), sA 27 (by kernel_rfl) (by kernel_rfl), trivial⟩ (.bool true) (fun _ _ => by kernel_rfl) (fun _ => rfl)
            ·intro ρ' w' hk hs hf
             have hs239 := SP.below hs116 hk
             obtain ⟨w238, hww238⟩ : ∃ x, w' = x := ⟨_, rfl⟩
             subst hww238
             have e2 : ρ' 2 = (.string ⟨List.toArray p6⟩) := (hs 2 (by kernel_rfl)).trans (by kernel_rfl)
             have e7 : ρ' 7 = (.bool z7) := (hs 7 (by kernel_rfl)).trans (by kernel_rfl)
             have e144 := hf 28 144 (by kernel_rfl)
             refine postKnown [(2, (.string ⟨List.toArray p6⟩)), (7, (.bool z7)), (144, (.bool true))] ⟨e2, e7, e144, trivial⟩ ?_
             exact ⟨true, ⟨(by kernel_rfl), (by kernel_rfl), (by kernel_rfl), trivial⟩, SP.sel hs239 [] rfl rfl, H⟩
           ·have H := cf H hb237
            obtain ⟨z240, hz241, H⟩ := bind_elim H
            obtain ⟨hz246, hz247, hz248, H⟩ := sub_elim H
            obtain ⟨l249, hyl249⟩ : ∃ y, (List.drop (Int.toNat 0) (List.take (Int.toNat z111.2.1) p2)) = y := ⟨_, rfl⟩
            rw [hyl249] at H
            rcases Bool.eq_false_or_eq_true (!(z240 == l249)) with hb253 | hb253
            ·have H := ct H hb253
             refine At.draw (by kernel_rfl) (by kernel_rfl) (by kernel_rfl) (by kernel_rfl) (by kernel_rfl) [FEq (.bool z111.2.2), FEq (.bool z111.2.2), FEq (.int .i64 z111.2.1), FEq (.bool (decide (z111.2.1 < 1))), FEq (.bool (decide (z111.2.1 < 1))), FEq (.int .i64 z111.2.1), FEq (.slice A3 (List.length p2) c4), FEq (.int .i64 ((List.length p2 : Nat) : Int)), FEq (.bool (decide (z111.2.1 > ((List.length p2 : Nat) : Int)))), FEq (.bool (decide (z111.2.1 > ((List.length p2 : Nat) : Int)))), FEq (.bool (decide (z111.2.1 > ((List.length p2 : Nat) : Int)))), FEq (.int .i64 z111.1), FRow eU8 z240, FEq (.string ⟨List.toArray z240⟩), FEq (.slice A3 (List.length p2) c4), FEq (.int .i64 z111.2.1), FRow eU8 l249, FEq (.string ⟨List.toArray l249⟩), FEq (.bool (!(z240 == l249))), FEq (.bool (!(z240 == l249))), FEq (.bool (!(z240 == l249))), FEq (.bool (!(z240 == l249))), FEq undef, FEq undef, FEq undef, FEq undef, FEq undef, FEq undef, FEq (.bool true)] ⟨mono_eq _, mono_eq _, mono_eq _, mono_eq _, mono_eq _, mono_eq _, mono_eq _, mono_eq _, mono_eq _, mono_eq _, mono_eq _, mono_eq _, mono_row _ _, mono_eq _, mono_eq _, mono_eq _, mono_row _ _, mono_eq _, mono_eq _, mono_eq _, mono_eq _, mono_eq _, mono_eq _, mono_eq _, mono_eq _, mono_eq _, mono_eq _, mono_eq _, mono_eq _, trivial⟩ (N := 29) (by kernel_rfl) ⟨⟨⟨⟨⟨⟨⟨⟨⟨⟨⟨⟨⟨⟨⟨⟨⟨⟨⟨⟨⟨⟨⟨⟨⟨⟨⟨⟨⟨trivial, ?_⟩, ?_⟩, ?_⟩, ?_⟩, ?_⟩, ?_⟩, ?_⟩, ?_⟩, ?_⟩, ?_⟩, ?_⟩, ?_⟩, ?_⟩, ?_⟩, ?_⟩, ?_⟩, ?_⟩, ?_⟩, ?_⟩, ?_⟩, ?_⟩, ?_⟩, ?_⟩, ?_⟩, ?_⟩, ?_⟩, ?_⟩, ?_⟩, ?_⟩ ?_
             ·exact Owes.pure [(20, (.bool z111.2.2))] ⟨sS (by kernel_rfl) (by kernel_rfl), trivial⟩ (.bool z111.2.2) (fun _ _ => by kernel_rfl) (fun _ => rfl)
             ·exact Owes.pure [(116, (.bool z111.2.2))] ⟨sA 0 (by kernel_rfl) (by kernel_rfl), trivial⟩ (.bool z111.2.2) (fun _ _ => by kernel_rfl) (fun _ => rfl)
             ·exact Owes.pure [(19, (.int .i64 z111.2.1)), (117, (.bool true))] ⟨sS (by kernel_rfl) (by kernel_rfl), sB 1 (by kernel_rfl) z111.2.2 (by kernel_rfl) hb233, trivial⟩ (.int .i64 z111.2.1) (fun _ _ => by kernel_rfl) (fun _ => rfl)
             ·exact Owes.pure [(118, (.int .i64 z111.2.1)), (117, (.bool true))] ⟨sA 2 (by kernel_rfl) (by kernel_rfl), sB 1 (by kernel_rfl) z111.2.2 (by kernel_rfl) hb233, trivial⟩ (.bool (decide (z111.2.1 < 1))) (fun _ _ => by kernel_rfl) (fun _ => rfl)
             ·exact Owes.pure [(119, (.bool (decide (z111.2.1 < 1)))), (117, (.bool true))] ⟨sA 3 (by kernel_rfl) (by kernel_rfl), sB 1 (by kernel_rfl) z111.2.2 (by kernel_rfl) hb233, trivial⟩ (.bool (decide (z111.2.1 < 1))) (fun _ _ => by kernel_rfl) (fun _ => rfl)
             ·exact Owes.pure [(19, (.int .i64 z111.2.1)), (120, (.bool false))] ⟨sS (by kernel_rfl) (by kernel_rfl), sB 4 (by kernel_rfl) (decide (z111.2.1 < 1)) (by kernel_rfl) hb234, trivial⟩ (.int .i64 z111.2.1) (fun _ _ => by kernel_rfl) (fun _ => rfl)
             ·exact Owes.pure [(1, (.slice A3 (List.length p2) c4)), (120, (.bool false))] ⟨sS (by kernel_rfl) (by kernel_rfl), sB 4 (by kernel_rfl) (decide (z111.2.1 < 1)) (by kernel_rfl) hb234, trivial⟩ (.slice A3 (List.length p2) c4) (fun _ _ => by kernel_rfl) (fun _ => rfl)
             ·exact Owes.pure [(122, (.slice A3 (List.length p2) c4)), (120, (.bool false))] ⟨sA 6 (by kernel_rfl) (by kernel_rfl), sB 4 (by kernel_rfl) (decide (z111.2.1 < 1)) (by kernel_rfl) hb234, trivial⟩ (.int .i64 ((List.length p2 : Nat) : Int)) (fun _ _ => by kernel_rfl) (fun _ => rfl)
             ·exact Owes.pure [(121, (.int .i64 z111.2.1)), (123, (.int .i64 ((List.length p2 : Nat) : Int))), (120, (.bool false))] ⟨sA 5 (by kernel_rfl) (by kernel_rfl), sA 7 (by kernel_rfl) (by kernel_rfl), sB 4 (by kernel_rfl) (decide (z111.2.1 < 1)) (by kernel_rfl) hb234, trivial⟩ (.bool (decide (z111.2.1 > ((List.length p2 : Nat) : Int)))) (fun _ _ => by kernel_rfl) (fun _ => rfl)
             ·exact Owes.pure [(120, (.bool false)), (124, (.bool (decide (z111.2.1 > ((List.length p2 : Nat) : Int))))), (117, (.bool true))] ⟨sB 4 (by kernel_rfl) (decide (z111.2.1 < 1)) (by kernel_rfl) hb234, sA 8 (by kernel_rfl) (by kernel_rfl), sB 1 (by kernel_rfl) z111.2.2 (by kernel_rfl) hb233, trivial⟩ (.bool (decide (z111.2.1 > ((List.length p2 : Nat) : Int)))) (fun _ _ => by kernel_rfl) (fun _ => rfl)
             ·exact Owes.pure [(125, (.bool (decide (z111.2.1 > ((List.length p2 : Nat) : Int))))), (117, (.bool true))] ⟨sA 9 (by kernel_rfl) (by kernel_rfl), sB 1 (by kernel_rfl) z111.2.2 (by kernel_rfl) hb233, trivial⟩ (.bool (decide (z111.2.1 > ((List.length p2 : Nat) : Int)))) (fun _ _ => by kernel_rfl) (fun _ => rfl)
             ·exact Owes.pure [(18, (.int .i64 z111.1)), (126, (.bool false))] ⟨sS (by kernel_rfl) (by kernel_rfl), sB 10 (by kernel_rfl) (decide (z111.2.1 > ((List.length p2 : Nat) : Int))) (by kernel_rfl) hb237, trivial⟩ (.int .i64 z111.1) (fun _ _ => by kernel_rfl) (fun _ => rfl)
             ·intro ρ' w' hk hs hah
              have e127 := hah 11 127 (by kernel_rfl)
              have e126 := hah 10 126 (by kernel_rfl)
              have hkn : Known ρ' [(127, (.int .i64 z111.1)), (126, (.bool false))] := ⟨e127, (Eq.trans e126 (congrArg Value.bool hb237)), trivial⟩
              refine Step.known _ hkn ?_
              have hs254 := SP.below hs116 hk
              refine Step.callF (f := 16) (fo := (.func 16)) (xs := #[(.tmp 127)]) (tys := #[2]) (first := #[]) (captured := #[]) (d := (some 128)) (k := 12) (by kernel_rfl) rfl (by kernel_rfl) (by kernel_rfl) Tryd.call16 (L_num_Put_walk  z111.1 w'  z240 hz241) ?_
              rintro e w255 ⟨A257, c258, rfl, hs256⟩
              exact ⟨_, rfl, SP.keeps hs256, _, updO_known hkn, ⟨_, _, rfl, SP.row_of hs256⟩⟩
             ·intro ρ' w' hk hs hah
              obtain ⟨A260, c261, e128, hr262⟩ := hah 12 128 (by kernel_rfl)
              have e126 := hah 10 126 (by kernel_rfl)
              have hkn : Known ρ' [(128, (.slice A260 (List.length z240) c261)), (126, (.bool false))] := ⟨e128, (Eq.trans e126 (congrArg Value.bool hb237)), trivial⟩
              refine Step.known _ hkn ?_
              have hs259 := SP.below hs116 hk
              refine Step.toStr (T := 22) (S' := 9) (E := 5) (x := (.tmp 128)) (A := A260) (c := c261) (l := z240) (d := (some 129)) (k := 13) (by kernel_rfl) rfl (by kernel_rfl) (by kernel_rfl) (by kernel_rfl) (by kernel_rfl) hr262 ?_
              exact ⟨Below.refl _ _, _, updO_known hkn, rfl⟩
             ·exact Owes.pure [(1, (.slice A3 (List.length p2) c4)), (126, (.bool false))] ⟨sS (by kernel_rfl) (by kernel_rfl), sB 10 (by kernel_rfl) (decide (z111.2.1 > ((List.length p2 : Nat) : Int))) (by kernel_rfl) hb237, trivial⟩ (.slice A3 (List.length p2) c4) (fun _ _ => by kernel_rfl) (fun _ => rfl)
             ·exact Owes.pure [(19, (.int .i64 z111.2.1)), (126, (.bool false))] ⟨sS (by kernel_rfl) (by kernel_rfl), sB 10 (by kernel_rfl) (decide (z111.2.1 > ((List.length p2 : Nat) : Int))) (by kernel_rfl) hb237, trivial⟩ (.int .i64 z111.2.1) (fun _ _ => by kernel_rfl) (fun _ => rfl)
             ·intro ρ' w' hk hs hah
              have e130 := hah 14 130 (by kernel_rfl)
              have e131 := hah 15 131 (by kernel_rfl)
              have e126 := hah 10 126 (by kernel_rfl)
              have hkn : Known ρ' [(130, (.slice A3 (List.length p2) c4)), (131, (.int .i64 z111.2.1)), (126, (.bool false))] := ⟨e130, e131, (Eq.trans e126 (congrArg Value.bool hb237)), trivial⟩
              refine Step.known _ hkn ?_
              have hs263 := SP.below hs116 hk
              refine Step.slice (e := eU8) (l := p2) (A := A3) (c := c4) (T := 22) (E := 5) (x := (.tmp 130)) (lo := none) (hi := (some (.tmp 131))) (i := 0) (j := z111.2.1) (d := (some 132)) (k := 16) (by kernel_rfl) rfl (by kernel_rfl) (by kernel_rfl) (by kernel_rfl) rfl ⟨.i64, by kernel_rfl⟩ (RdX.le (RdT.sp hr5 hs263)) hz246 hz247 hz248 ?_
              intro A264 c265 _ _ hcut266
              rw [hyl249] at hcut266 ⊢
              exact ⟨Below.refl _ _, _, updO_known hkn, ⟨A264, c265, rfl, hcut266 _ (RdT.sp hr5 hs263)⟩⟩
             ·intro ρ' w' hk hs hah
              obtain ⟨A268, c269, e132, hr270⟩ := hah 16 132 (by kernel_rfl)
              have e126 := hah 10 126 (by kernel_rfl)
              have hkn : Known ρ' [(132, (.slice A268 (List.length l249) c269)), (126, (.bool false))] := ⟨e132, (Eq.trans e126 (congrArg Value.bool hb237)), trivial⟩
              refine Step.known _ hkn ?_
              have hs267 := SP.below hs116 hk
              refine Step.toStr (T := 22) (S' := 9) (E := 5) (x := (.tmp 132)) (A := A268) (c := c269) (l := l249) (d := (some 133)) (k := 17) (by kernel_rfl) rfl (by kernel_rfl) (by kernel_rfl) (by kernel_rfl) (by kernel_rfl) hr270 ?_
              exact ⟨Below.refl _ _, _, updO_known hkn, rfl⟩
             ·intro ρ' w' hk hs hah
              have e129 := hah 13 129 (by kernel_rfl)
              have e133 := hah 17 133 (by kernel_rfl)
              have e126 := hah 10 126 (by kernel_rfl)
              have hkn : Known ρ' [(129, (.string ⟨List.toArray z240⟩)), (133, (.string ⟨List.toArray l249⟩)), (126, (.bool false))] := ⟨e129, e133, (Eq.trans e126 (congrArg Value.bool hb237)), trivial⟩
              refine Step.known _ hkn ?_
              have hs271 := SP.below hs116 hk
              refine Step.strOp (op := .neq) (T := 9) (T' := 9) (x := (.tmp 129)) (y := (.tmp 133)) (a := z240) (b := l249) (r := (.bool (!(z240 == l249)))) (d := (some 134)) (k := 18) (by kernel_rfl) rfl (by kernel_rfl) (by kernel_rfl) rfl ?_
              exact ⟨Below.refl _ _, _, updO_known hkn, rfl⟩
             ·exact Owes.pure [(126, (.bool false)), (134, (.bool (!(z240 == l249)))), (117, (.bool true))] ⟨sB 10 (by kernel_rfl) (decide (z111.2.1 > ((List.length p2 : Nat) : Int))) (by kernel_rfl) hb237, sA 18 (by kernel_rfl) (by kernel_rfl), sB 1 (by kernel_rfl) z111.2.2 (by kernel_rfl) hb233, trivial⟩ (.bool (!(z240 == l249))) (fun _ _ => by kernel_rfl) (fun _ => rfl)
             ·exact Owes.pure [(117, (.bool true)), (135, (.bool (!(z240 == l249))))] ⟨sB 1 (by kernel_rfl) z111.2.2 (by kernel_rfl) hb233, sA 19 (by kernel_rfl) (by kernel_rfl), trivial⟩ (.bool (!(z240 == l249))) (fun _ _ => by kernel_rfl) (fun _ => rfl)
             ·exact Owes.pure [(136, (.bool (!(z240 == l249))))] ⟨sA 20 (by kernel_rfl) (by kernel_rfl), trivial⟩ (.bool (!(z240 == l249))) (fun _ _ => by kernel_rfl) (fun _ => rfl)
             ·exact Owes.skip [(137, (.bool true))] ⟨sB 21 (by kernel_rfl) (!(z240 == l249)) (by kernel_rfl) hb253, trivial⟩ (some 138) (fun _ => by kernel_rfl) (by kernel_rfl) (fun _ => rfl)
             ·exact Owes.skip [(137, (.bool true))] ⟨sB 21 (by kernel_rfl) (!(z240 == l249)) (by kernel_rfl) hb253, trivial⟩ (some 139) (fun _ => by kernel_rfl) (by kernel_rfl) (fun _ => rfl)
             ·exact Owes.skip [(137, (.bool true))] ⟨sB 21 (by kernel_rfl) (!(z240 == l249)) (by kernel_rfl) hb253, trivial⟩ (some 140) (fun _ => by kernel_rfl) (by kernel_rfl) (fun _ => rfl)
             ·exact Owes.skip [(140, undef)] ⟨sA 24 (by kernel_rfl) (by kernel_rfl), trivial⟩ (some 141) (fun _ => by kernel_rfl) (by kernel_rfl) (fun _ => rfl)
             ·exact Owes.skip [(140, undef)] ⟨sA 24 (by kernel_rfl) (by kernel_rfl), trivial⟩ (some 142) (fun _ => by kernel_rfl) (by kernel_rfl) (fun _ => rfl)
             ·exact Owes.skip [(137, (.bool true))] ⟨sB 21 (by kernel_rfl) (!(z240 == l249)) (by kernel_rfl) hb253, trivial⟩ (some 143) (fun _ => by kernel_rfl) (by kernel_rfl) (fun _ => rfl)
             ·exact Owes.pure [(137, (.bool true)), (143, undef)] ⟨sB 21 (by kernel_rfl) (!(z240 == l249)) (by kernel_rfl) hb253, sA 27 (by kernel_rfl) (by kernel_rfl), trivial⟩ (.bool true) (fun _ _ => by kernel_rfl) (fun _ => rfl)
             ·intro ρ' w' hk hs hf
              have hs273 := SP.below hs116 hk
              obtain ⟨w272, hww272⟩ : ∃ x, w' = x := ⟨_, rfl⟩
              subst hww272
              have e2 : ρ' 2 = (.string ⟨List.toArray p6⟩) := (hs 2 (by kernel_rfl)).trans (by kernel_rfl)
              have e7 : ρ' 7 = (.bool z7) := (hs 7 (by kernel_rfl)).trans (by kernel_rfl)
              have e144 := hf 28 144 (by kernel_rfl)
              refine postKnown [(2, (.string ⟨List.toArray p6⟩)), (7, (.bool z7)), (144, (.bool true))] ⟨e2, e7, e144, trivial⟩ ?_
              exact ⟨true, ⟨(by kernel_rfl), (by kernel_rfl), (by kernel_rfl), trivial⟩, SP.sel hs273 [] rfl rfl, H⟩
            ·have H := cf H hb253
             rcases Bool.eq_false_or_eq_true (!z111.2.2) with hb274 | hb274
             ·have H := ct H hb274
              refine At.draw (by kernel_rfl) (by kernel_rfl) (by kernel_rfl) (by kernel_rfl) (by kernel_rfl) [FEq (.bool z111.2.2), FEq (.bool z111.2.2), FEq (.int .i64 z111.2.1), FEq (.bool (decide (z111.2.1 < 1))), FEq (.bool (decide (z111.2.1 < 1))), FEq (.int .i64 z111.2.1), FEq (.slice A3 (List.length p2) c4), FEq (.int .i64 ((List.length p2 : Nat) : Int)), FEq (.bool (decide (z111.2.1 > ((List.length p2 : Nat) : Int)))), FEq (.bool (decide (z111.2.1 > ((List.length p2 : Nat) : Int)))), FEq (.bool (decide (z111.2.1 > ((List.length p2 : Nat) : Int)))), FEq (.int .i64 z111.1), FRow eU8 z240, FEq (.string ⟨List.toArray z240⟩), FEq (.slice A3 (List.length p2) c4), FEq (.int .i64 z111.2.1), FRow eU8 l249, FEq (.string ⟨List.toArray l249⟩), FEq (.bool (!(z240 == l249))), FEq (.bool (!(z240 == l249))), FEq (.bool (!(z240 == l249))), FEq (.bool (!(z240 == l249))), FEq (.bool z111.2.2), FEq (.bool (!z111.2.2)), FEq (.bool (!z111.2.2)), FEq (.int .i64 z111.2.1), FEq (.bool (z111.2.1 != 0)), FEq (.bool (z111.2.1 != 0)), FEq (.bool (z111.2.1 != 0))] ⟨mono_eq _, mono_eq _, mono_eq _, mono_eq _, mono_eq _, mono_eq _, mono_eq _, mono_eq _, mono_eq _, mono_eq _, mono_eq _, mono_eq _, mono_row _ _, mono_eq _, mono_eq _, mono_eq _, mono_row _ _, mono_eq _, mono_eq _, mono_eq _, mono_eq _, mono_eq _, mono_eq _, mono_eq _, mono_eq _, mono_eq _, mono_eq _, mono_eq _, mono_eq _, trivial⟩ (N := 29) (by kernel_rfl) ⟨⟨⟨⟨⟨⟨⟨⟨⟨⟨⟨⟨⟨⟨⟨⟨⟨⟨⟨⟨⟨⟨⟨⟨⟨⟨⟨⟨⟨trivial, ?_⟩, ?_⟩, ?_⟩, ?_⟩, ?_⟩, ?_⟩, ?_⟩, ?_⟩, ?_⟩, ?_⟩, ?_⟩, ?_⟩, ?_⟩, ?_⟩, ?_⟩, ?_⟩, ?_⟩, ?_⟩, ?_⟩, ?_⟩, ?_⟩, ?_⟩, ?_⟩, ?_⟩, ?_⟩, ?_⟩, ?_⟩, ?_⟩, ?_⟩ ?_
              ·exact Owes.pure [(20, (.bool z111.2.2))] ⟨sS (by kernel_rfl) (by kernel_rfl), trivial⟩ (.bool z111.2.2) (fun _ _ => by kernel_rfl) (fun _ => rfl)
              ·exact Owes.pure [(116, (.bool z111.2.2))] ⟨sA 0 (by kernel_rfl) (by kernel_rfl), trivial⟩ (.bool z111.2.2) (fun _ _ => by kernel_rfl) (fun _ => rfl)
              ·exact Owes.pure [(19, (.int .i64 z111.2.1)), (117, (.bool true))] ⟨sS (by kernel_rfl) (by kernel_rfl), sB 1 (by kernel_rfl) z111.2.2 (by kernel_rfl) hb233, trivial⟩ (.int .i64 z111.2.1) (fun _ _ => by kernel_rfl) (fun _ => rfl)
              ·exact Owes.pure [(118, (.int .i64 z111.2.1)), (117, (.bool true))] ⟨sA 2 (by kernel_rfl) (by kernel_rfl), sB 1 (by kernel_rfl) z111.2.2 (by kernel_rfl) hb233, trivial⟩ (.bool (decide (z111.2.1 < 1))) (fun _ _ => by kernel_rfl) (fun _ => rfl)
              ·exact Owes.pure [(119, (.bool (decide (z111.2.1 < 1)))), (117, (.bool true))] ⟨sA 3 (by kernel_rfl) (by kernel_rfl), sB 1 (by kernel_rfl) z111.2.2 (by kernel_rfl) hb233, trivial⟩ (.bool (decide (z111.2.1 < 1))) (fun _ _ => by kernel_rfl) (fun _ => rfl)
              ·exact Owes.pure [(19, (.int .i64 z111.2.1)), (120, (.bool false))] ⟨sS (by kernel_rfl) (by kernel_rfl), sB 4 (by kernel_rfl) (decide (z111.2.1 < 1)) (by kernel_rfl) hb234, trivial⟩ (.int .i64 z111.2.1) (fun _ _ => by kernel_rfl) (fun _ => rfl)
              ·exact Owes.pure [(1, (.slice A3 (List.length p2) c4)), (120, (.bool false))] ⟨sS (by kernel_rfl) (by kernel_rfl), sB 4 (by kernel_rfl) (decide (z111.2.1 < 1)) (by kernel_rfl) hb234, trivial⟩ (.slice A3 (List.length p2) c4) (fun _ _ => by kernel_rfl) (fun _ => rfl)
              ·exact Owes.pure [(122, (.slice A3 (List.length p2) c4)), (120, (.bool false))] ⟨sA 6 (by kernel_rfl) (by kernel_rfl), sB 4 (by kernel_rfl) (decide (z111.2.1 < 1)) (by kernel_rfl) hb234, trivial⟩ (.int .i64 ((List.length p2 : Nat) : Int)) (fun _ _ => by kernel_rfl) (fun _ => rfl)
              ·exact Owes.pure [(121, (.int .i64 z111.2.1)), (123, (.int .i64 ((List.length p2 : Nat) : Int))), (120, (.bool false))] ⟨sA 5 (by kernel_rfl) (by kernel_rfl), sA 7 (by kernel_rfl) (by kernel_rfl), sB 4 (by kernel_rfl) (decide (z111.2.1 < 1)) (by kernel_rfl) hb234, trivial⟩ (.bool (decide (z111.2.1 > ((List.length p2 : Nat) : Int)))) (fun _ _ => by kernel_rfl) (fun _ => rfl)
              ·exact Owes.pure [(120, (.bool false)), (124, (.bool (decide (z111.2.1 > ((List.length p2 : Nat) : Int))))), (117, (.bool true))] ⟨sB 4 (by kernel_rfl) (decide (z111.2.1 < 1)) (by kernel_rfl) hb234, sA 8 (by kernel_rfl) (by kernel_rfl), sB 1 (by kernel_rfl) z111.2.2 (by kernel_rfl) hb233, trivial⟩ (.bool (decide (z111.2.1 > ((List.length p2 : Nat) : Int)))) (fun _ _ => by kernel_rfl) (fun _ => rfl)
              ·exact Owes.pure [(125, (.bool (decide (z111.2.1 > ((List.length p2 : Nat) : Int))))), (117, (.bool true))] ⟨sA 9 (by kernel_rfl) (by kernel_rfl), sB 1 (by kernel_rfl) z111.2.2 (by kernel_rfl) hb233, trivial⟩ (.bool (decide (z111.2.1 > ((List.length p2 : Nat) : Int)))) (fun _ _ => by kernel_rfl) (fun _ => rfl)
              ·exact Owes.pure [(18, (.int .i64 z111.1)), (126, (.bool false))] ⟨sS (by kernel_rfl) (by kernel_rfl), sB 10 (by kernel_rfl) (decide (z111.2.1 > ((List.length p2 : Nat) : Int))) (by kernel_rfl) hb237, trivial⟩ (.int .i64 z111.1) (fun _ _ => by kernel_rfl) (fun _ => rfl)
              ·intro ρ' w' hk hs hah
               have e127 := hah 11 127 (by kernel_rfl)
               have e126 := hah 10 126 (by kernel_rfl)
               have hkn : Known ρ' [(127, (.int .i64 z111.1)), (126, (.bool false))] := ⟨e127, (Eq.trans e126 (congrArg Value.bool hb237)), trivial⟩
               refine Step.known _ hkn ?_
               have hs275 := SP.below hs116 hk
               refine Step.callF (f := 16) (fo := (.func 16)) (xs := #[(.tmp 127)]) (tys := #[2]) (first := #[]) (captured := #[]) (d := (some 128)) (k := 12) (by kernel_rfl) rfl (by kernel_rfl) (by kernel_rfl) Tryd.call16 (L_num_Put_walk  z111.1 w'  z240 hz241) ?_
               rintro e w276 ⟨A278, c279, rfl, hs277⟩
               exact ⟨_, rfl, SP.keeps hs277, _, updO_known hkn, ⟨_, _, rfl, SP.row_of hs277⟩⟩
              ·intro ρ' w' hk hs hah
               obtain ⟨A281, c282, e128, hr283⟩ := hah 12 128 (by kernel_rfl)
               have e126 := hah 10 126 (by kernel_rfl)
               have hkn : Known ρ' [(128, (.slice A281 (List.length z240) c282)), (126, (.bool false))] := ⟨e128, (Eq.trans e126 (congrArg Value.bool hb237)), trivial⟩
               refine Step.known _ hkn ?_
               have hs280 := SP.below hs116 hk
               refine Step.toStr (T := 22) (S' := 9) (E := 5) (x := (.tmp 128)) (A := A281) (c := c282) (l := z240) (d := (some 129)) (k := 13) (by kernel_rfl) rfl (by kernel_rfl) (by kernel_rfl) (by kernel_rfl) (by kernel_rfl) hr283 ?_
               exact ⟨Below.refl _ _, _, updO_known hkn, rfl⟩
              ·exact Owes.pure [(1, (.slice A3 (List.length p2) c4)), (126, (.bool false))] ⟨sS (by kernel_rfl) (by kernel_rfl), sB 10 (by kernel_rfl) (decide (z111.2.1 > ((List.length p2 : Nat) : Int))) (by kernel_rfl) hb237, trivial⟩ (.slice A3 (List.length p2) c4) (fun _ _ => by kernel_rfl) (fun _ => rfl)
              ·exact Owes.pure [(19, (.int .i64 z111.2.1)), (126, (.bool false))] ⟨sS (by kernel_rfl) (by kernel_rfl), sB 10 (by kernel_rfl) (decide (z111.2.1 > ((List.length p2 : Nat) : Int))) (by kernel_rfl) hb237, trivial⟩ (.int .i64 z111.2.1) (fun _ _ => by kernel_rfl) (fun _ => rfl)
              ·intro ρ' w' hk hs hah
               have e130 := hah 14 130 (by kernel_rfl)
               have e131 := hah 15 131 (by kernel_rfl)
               have e126 := hah 10 126 (by kernel_rfl)
               have hkn : Known ρ' [(130, (.slice A3 (List.length p2) c4)), (131, (.int .i64 z111.2.1)), (126, (.bool false))] := ⟨e130, e131, (Eq.trans e126 (congrArg Value.bool hb237)), trivial⟩
               refine Step.known _ hkn ?_
               have hs284 := SP.below hs116 hk
               refine Step.slice (e := eU8) (l := p2) (A := A3) (c := c4) (T := 22) (E := 5) (x := (.tmp 130)) (lo := none) (hi := (some (.tmp 131))) (i := 0) (j := z111.2.1) (d := (some 132)) (k := 16) (by kernel_rfl) rfl (by kernel_rfl) (by kernel_rfl) (by kernel_rfl) rfl ⟨.i64, by kernel_rfl⟩ (RdX.le (RdT.sp hr5 hs284)) hz246 hz247 hz248 ?_
               intro A285 c286 _ _ hcut287
               rw [hyl249] at hcut287 ⊢
               exact ⟨Below.refl _ _, _, updO_known hkn, ⟨A285, c286, rfl, hcut287 _ (RdT.sp hr5 hs284)⟩⟩
              ·intro ρ' w' hk hs hah
               obtain ⟨A289, c290, e132, hr291⟩ := hah 16 132 (by kernel_rfl)
               have e126 := hah 10 126 (by kernel_rfl)
               have hkn : Known ρ' [(132, (.slice A289 (List.length l249) c290)), (126, (.bool false))] := ⟨e132, (Eq.trans e126 (congrArg Value.bool hb237)), trivial⟩
               refine Step.known _ hkn ?_
               have hs288 := SP.below hs116 hk
               refine Step.toStr (T := 22) (S' := 9) (E := 5) (x := (.tmp 132)) (A := A289) (c := c290) (l := l249) (d := (some 133)) (k := 17) (by kernel_rfl) rfl (by kernel_rfl) (by kernel_rfl) (by kernel_rfl) (by kernel_rfl) hr291 ?_
               exact ⟨Below.refl _ _, _, updO_known hkn, rfl⟩
              ·intro ρ' w' hk hs hah
               have e129 := hah 13 129 (by kernel_rfl)
               have e133 := hah 17 133 (by kernel_rfl)
               have e126 := hah 10 126 (by kernel_rfl)
               have hkn : Known ρ' [(129, (.string ⟨List.toArray z240⟩)), (133, (.string ⟨List.toArray l249⟩)), (126, (.bool false))] := ⟨e129, e133, (Eq.trans e126 (congrArg Value.bool hb237)), trivial⟩
               refine Step.known _ hkn ?_
               have hs292 := SP.below hs116 hk
               refine Step.strOp (op := .neq) (T := 9) (T' := 9) (x := (.tmp 129)) (y := (.tmp 133)) (a := z240) (b := l249) (r := (.bool (!(z240 == l249)))) (d := (some 134)) (k := 18) (by kernel_rfl) rfl (by kernel_rfl) (by kernel_rfl) rfl ?_
               exact ⟨Below.refl _ _, _, updO_known hkn, rfl⟩
              ·exact Owes.pure [(126, (.bool false)), (134, (.bool (!(z240 == l249)))), (117, (.bool true))] ⟨sB 10 (by kernel_rfl) (decide (z111.2.1 > ((List.length p2 : Nat) : Int))) (by kernel_rfl) hb237, sA 18 (by kernel_rfl) (by kernel_rfl), sB 1 (by kernel_rfl) z111.2.2 (by kernel_rfl) hb233, trivial⟩ (.bool (!(z240 == l249))) (fun _ _ => by kernel_rfl) (fun _ => rfl)
              ·exact Owes.pure [(117, (.bool true)), (135, (.bool (!(z240 == l249))))] ⟨sB 1 (by kernel_rfl) z111.2.2 (by kernel_rfl) hb233, sA 19 (by kernel_rfl) (by kernel_rfl), trivial⟩ (.bool (!(z240 == l249))) (fun _ _ => by kernel_rfl) (fun _ => rfl)
              ·exact Owes.pure [(136, (.bool (!(z240 == l249))))] ⟨sA 20 (by kernel_rfl) (by kernel_rfl), trivial⟩ (.bool (!(z240 == l249))) (fun _ _ => by kernel_rfl) (fun _ => rfl)
              ·exact Owes.pure [(20, (.bool z111.2.2)), (137, (.bool false))] ⟨sS (by kernel_rfl) (by kernel_rfl), sB 21 (by kernel_rfl) (!(z240 == l249)) (by kernel_rfl) hb253, trivial⟩ (.bool z111.2.2) (fun _ _ => by kernel_rfl) (fun _ => rfl)
              ·exact Owes.pure [(138, (.bool z111.2.2)), (137, (.bool false))] ⟨sA 22 (by kernel_rfl) (by kernel_rfl), sB 21 (by kernel_rfl) (!(z240 == l249)) (by kernel_rfl) hb253, trivial⟩ (.bool (!z111.2.2)) (fun _ _ => by kernel_rfl) (fun _ => rfl)
              ·exact Owes.pure [(139, (.bool (!z111.2.2))), (137, (.bool false))] ⟨sA 23 (by kernel_rfl) (by kernel_rfl), sB 21 (by kernel_rfl) (!(z240 == l249)) (by kernel_rfl) hb253, trivial⟩ (.bool (!z111.2.2)) (fun _ _ => by kernel_rfl) (fun _ => rfl)
              ·exact Owes.pure [(19, (.int .i64 z111.2.1)), (140, (.bool true))] ⟨sS (by kernel_rfl) (by kernel_rfl), sB 24 (by kernel_rfl) (!z111.2.2) (by kernel_rfl) hb274, trivial⟩ (.int .i64 z111.2.1) (fun _ _ => by kernel_rfl) (fun _ => rfl)
              ·exact Owes.pure [(141, (.int .i64 z111.2.1)), (140, (.bool true))] ⟨sA 25 (by kernel_rfl) (by kernel_rfl), sB 24 (by kernel_rfl) (!z111.2.2) (by kernel_rfl) hb274, trivial⟩ (.bool (z111.2.1 != 0)) (fun _ _ => by kernel_rfl) (fun _ => rfl)
              ·exact Owes.pure [(140, (.bool true)), (142, (.bool (z111.2.1 != 0))), (137, (.bool false))] ⟨sB 24 (by kernel_rfl) (!z111.2.2) (by kernel_rfl) hb274, sA 26 (by kernel_rfl) (by kernel_rfl), sB 21 (by kernel_rfl) (!(z240 == l249)) (by kernel_rfl) hb253, trivial⟩ (.bool (z111.2.1 != 0)) (fun _ _ => by kernel_rfl) (fun _ => rfl)
              ·exact Owes.pure [(137, (.bool false)), (143, (.bool (z111.2.1 != 0)))] ⟨sB 21 (by kernel_rfl) (!(z240 == l249)) (by kernel_rfl) hb253, sA 27 (by kernel_rfl) (by kernel_rfl), trivial⟩ (.bool (z111.2.1 != 0)) (fun _ _ => by kernel_rfl) (fun _ => rfl)
              ·intro ρ' w' hk hs hf
               have hs294 := SP.below hs116 hk
               obtain ⟨w293, hww293⟩ : ∃ x, w' = x := ⟨_, rfl⟩
               subst hww293
               have e2 : ρ' 2 = (.string ⟨List.toArray p6⟩) := (hs 2 (by kernel_rfl)).trans (by kernel_rfl)
               have e7 : ρ' 7 = (.bool z7) := (hs 7 (by kernel_rfl)).trans (by kernel_rfl)
               have e144 := hf 28 144 (by kernel_rfl)
               refine postKnown [(2, (.string ⟨List.toArray p6⟩)), (7, (.bool z7)), (144, (.bool (z111.2.1 != 0)))] ⟨e2, e7, e144, trivial⟩ ?_
               exact ⟨(z111.2.1 != 0), ⟨(by kernel_rfl), (by kernel_rfl), (by kernel_rfl), trivial⟩, SP.sel hs294 [] rfl rfl, H⟩
             ·have H := cf H hb274
              refine At.draw (by kernel_rfl) (by kernel_rfl) (by kernel_rfl) (by kernel_rfl) (by kernel_rfl) [FEq (.bool z111.2.2), FEq (.bool z111.2.2), FEq (.int .i64 z111.2.1), FEq (.bool (decide (z111.2.1 < 1))), FEq (.bool (decide (z111.2.1 < 1))), FEq (.int .i64 z111.2.1), FEq (.slice A3 (List.length p2) c4), FEq (.int .i64 ((List.length p2 : Nat) : Int)), FEq (.bool (decide (z111.2.1 > ((List.length p2 : Nat) : Int)))), FEq (.bool (decide (z111.2.1 > ((List.length p2 : Nat) : Int)))), FEq (.bool (decide (z111.2.1 > ((List.length p2 : Nat) : Int)))), FEq (.int .i64 z111.1), FRow eU8 z240, FEq (.string ⟨List.toArray z240⟩), FEq (.slice A3 (List.length p2) c4), FEq (.int .i64 z111.2.1), FRow eU8 l249, FEq (.string ⟨List.toArray l249⟩), FEq (.bool (!(z240 == l249))), FEq (.bool (!(z240 == l249))), FEq (.bool (!(z240 == l249))), FEq (.bool (!(z240 == l249))), FEq (.bool z111.2.2), FEq (.bool (!z111.2.2)), FEq (.bool (!z111.2.2)), FEq undef, FEq undef, FEq (.bool false), FEq (.bool false)] ⟨mono_eq _, mono_eq _, mono_eq _, mono_eq _, mono_eq _, mono_eq _, mono_eq _, mono_eq _, mono_eq _, mono_eq _, mono_eq _, mono_eq _, mono_row _ _, mono_eq _, mono_eq _, mono_eq _, mono_row _ _, mono_eq _, mono_eq _, mono_eq _, mono_eq _, mono_eq _, mono_eq _, mono_eq _, mono_eq _, mono_eq _, mono_eq _, mono_eq _, mono_eq _, trivial⟩ (N := 29) (by kernel_rfl) ⟨⟨⟨⟨⟨⟨⟨⟨⟨⟨⟨⟨⟨⟨⟨⟨⟨⟨⟨⟨⟨⟨⟨⟨⟨⟨⟨⟨⟨trivial, ?_⟩, ?_⟩, ?_⟩, ?_⟩, ?_⟩, ?_⟩, ?_⟩, ?_⟩, ?_⟩, ?_⟩, ?_⟩, ?_⟩, ?_⟩, ?_⟩, ?_⟩, ?_⟩, ?_⟩, ?_⟩, ?_⟩, ?_⟩, ?_⟩, ?_⟩, ?_⟩, ?_⟩, ?_⟩, ?_⟩, ?_⟩, ?_⟩, ?_⟩ ?_
              ·exact Owes.pure [(20, (.bool z111.2.2))] ⟨sS (by kernel_rfl) (by kernel_rfl), trivial⟩ (.bool z111.2.2) (fun _ _ => by kernel_rfl) (fun _ => rfl)
              ·exact Owes.pure [(116, (.bool z111.2.2))] ⟨sA 0 (by kernel_rfl) (by kernel_rfl), trivial⟩ (.bool z111.2.2) (fun _ _ => by kernel_rfl) (fun _ => rfl)
              ·exact Owes.pure [(19, (.int .i64 z111.2.1)), (117, (.bool true))] ⟨sS (by kernel_rfl) (by kernel_rfl), sB 1 (by kernel_rfl) z111.2.2 (by kernel_rfl) hb233, trivial⟩ (.int .i64 z111.2.1) (fun _ _ => by kernel_rfl) (fun _ => rfl)
              ·exact Owes.pure [(118, (.int .i64 z111.2.1)), (117, (.bool true))] ⟨sA 2 (by kernel_rfl) (by kernel_rfl), sB 1 (by kernel_rfl) z111.2.2 (by kernel_rfl) hb233, trivial⟩ (.bool (decide (z111.2.1 < 1))) (fun _ _ => by kernel_rfl) (fun _ => rfl)
              ·exact Owes.pure [(119, (.bool (decide (z111.2.1 < 1)))), (117, (.bool true))] ⟨sA 3 (by kernel_rfl) (by kernel_rfl), sB 1 (by kernel_rfl) z111.2.2 (by kernel_rfl) hb233, trivial⟩ (.bool (decide (z111.2.1 < 1))) (fun _ _ => by kernel_rfl) (fun _ => rfl)
              ·exact Owes.pure [(19, (.int .i64 z111.2.1)), (120, (.bool false))] ⟨sS (by kernel_rfl) (by kernel_rfl), sB 4 (by kernel_rfl) (decide (z111.2.1 < 1)) (by kernel_rfl) hb234, trivial⟩ (.int .i64 z111.2.1) (fun _ _ => by kernel_rfl) (fun _ => rfl)
              ·exact Owes.pure [(1, (.slice A3 (List.length p2) c4)), (120, (.bool false))] ⟨sS (by kernel_rfl) (by kernel_rfl), sB 4 (by kernel_rfl) (decide (z111.2.1 < 1)) (by kernel_rfl) hb234, trivial⟩ (.slice A3 (List.length p2) c4) (fun _ _ => by kernel_rfl) (fun _ => rfl)
              ·exact Owes.pure [(122, (.slice A3 (List.length p2) c4)), (120, (.bool false))] ⟨sA 6 (by kernel_rfl) (by kernel_rfl), sB 4 (by kernel_rfl) (decide (z111.2.1 < 1)) (by kernel_rfl) hb234, trivial⟩ (.int .i64 ((List.length p2 : Nat) : Int)) (fun _ _ => by kernel_rfl) (fun _ => rfl)
              ·exact Owes.pure [(121, (.int .i64 z111.2.1)), (123, (.int .i64 ((List.length p2 : Nat) : Int))), (120, (.bool false))] ⟨sA 5 (by kernel_rfl) (by kernel_rfl), sA 7 (by kernel_rfl) (by kernel_rfl), sB 4 (by kernel_rfl) (decide (z111.2.1 < 1)) (by kernel_rfl) hb234, trivial⟩ (.bool (decide (z111.2.1 > ((List.length p2 : Nat) : Int)))) (fun _ _ => by kernel_rfl) (fun _ => rfl)
              ·exact Owes.pure [(120, (.bool false)), (124, (.bool (decide (z111.2.1 > ((List.length p2 : Nat) : Int))))), (117, (.bool true))] ⟨sB 4 (by kernel_rfl) (decide (z111.2.1 < 1)) (by kernel_rfl) hb234, sA 8 (by kernel_rfl) (by kernel_rfl), sB 1 (by kernel_rfl) z111.2.2 (by kernel_rfl) hb233, trivial⟩ (.bool (decide (z111.2.1 > ((List.length p2 : Nat) : Int)))) (fun _ _ => by kernel_rfl) (fun _ => rfl)
              ·exact Owes.pure [(125, (.bool (decide (z111.2.1 > ((List.length p2 : Nat) : Int))))), (117, (.bool true))] ⟨sA 9 (by kernel_rfl) (by kernel_rfl), sB 1 (by kernel_rfl) z111.2.2 (by kernel_rfl) hb233, trivial⟩ (.bool (decide (z111.2.1 > ((List.length p2 : Nat) : Int)))) (fun _ _ => by kernel_rfl) (fun _ => rfl)
              ·exact Owes.pure [(18, (.int .i64 z111.1)), (126, (.bool false))] ⟨sS (by kernel_rfl) (by kernel_rfl), sB 10 (by kernel_rfl) (decide (z111.2.1 > ((List.length p2 : Nat) : Int))) (by kernel_rfl) hb237, trivial⟩ (.int .i64 z111.1) (fun _ _ => by kernel_rfl) (fun _ => rfl)
              ·intro ρ' w' hk hs hah
               have e127 := hah 11 127 (by kernel_rfl)
               have e126 := hah 10 126 (by kernel_rfl)
               have hkn : Known ρ' [(127, (.int .i64 z111.1)), (126, (.bool false))] := ⟨e127, (Eq.trans e126 (congrArg Value.bool hb237)), trivial⟩
               refine Step.known _ hkn ?_
               have hs295 := SP.below hs116 hk
               refine Step.callF (f := 16) (fo := (.func 16)) (xs := #[(.tmp 127)]) (tys := #[2]) (first := #[]) (captured := #[]) (d := (some 128)) (k := 12) (by kernel_rfl) rfl (by kernel_rfl) (by kernel_rfl) Tryd.call16 (L_num_Put_walk  z111.1 w'  z240 hz241) ?_
               rintro e w296 ⟨A298, c299, rfl, hs297⟩
               exact ⟨_, rfl, SP.keeps hs297, _, updO_known hkn, ⟨_, _, rfl, SP.row_of hs297⟩⟩
              ·intro ρ' w' hk hs hah
               obtain ⟨A301, c302, e128, hr303⟩ := hah 12 128 (by kernel_rfl)
               have e126 := hah 10 126 (by kernel_rfl)
               have hkn : Known ρ' [(128, (.slice A301 (List.length z240) c302)), (126, (.bool false))] := ⟨e128, (Eq.trans e126 (congrArg Value.bool hb237)), trivial⟩
               refine Step.known _ hkn ?_
               have hs300 := SP.below hs116 hk
               refine Step.toStr (T := 22) (S' := 9) (E := 5) (x := (.tmp 128)) (A := A301) (c := c302) (l := z240) (d := (some 129)) (k := 13) (by kernel_rfl) rfl (by kernel_rfl) (by kernel_rfl) (by kernel_rfl) (by kernel_rfl) hr303 ?_
               exact ⟨Below.refl _ _, _, updO_known hkn, rfl⟩
              ·exact Owes.pure [(1, (.slice A3 (List.length p2) c4)), (126, (.bool false))] ⟨sS (by kernel_rfl) (by kernel_rfl), sB 10 (by kernel_rfl) (decide (z111.2.1 > ((List.length p2 : Nat) : Int))) (by kernel_rfl) hb237, trivial⟩ (.slice A3 (List.length p2) c4) (fun _ _ => by kernel_rfl) (fun _ => rfl)
              ·exact Owes.pure [(19, (.int .i64 z111.2.1)), (126, (.bool false))] ⟨sS (by kernel_rfl) (by kernel_rfl), sB 10 (by kernel_rfl) (decide (z111.2.1 > ((List.length p2 : Nat) : Int))) (by kernel_rfl) hb237, trivial⟩ (.int .i64 z111.2.1) (fun _ _ => by kernel_rfl) (fun _ => rfl)
              ·intro ρ' w' hk hs hah
               have e130 := hah 14 130 (by kernel_rfl)
               have e131 := hah 15 131 (by kernel_rfl)
               have e126 := hah 10 126 (by kernel_rfl)
               have hkn : Known ρ' [(130, (.slice A3 (List.length p2) c4)), (131, (.int .i64 z111.2.1)), (126, (.bool false))] := ⟨e130, e131, (Eq.trans e126 (congrArg Value.bool hb237)), trivial⟩
               refine Step.known _ hkn ?_
               have hs304 := SP.below hs116 hk
               refine Step.slice (e := eU8) (l := p2) (A := A3) (c := c4) (T := 22) (E := 5) (x := (.tmp 130)) (lo := none) (hi := (some (.tmp 131))) (i := 0) (j := z111.2.1) (d := (some 132)) (k := 16) (by kernel_rfl) rfl (by kernel_rfl) (by kernel_rfl) (by kernel_rfl) rfl ⟨.i64, by kernel_rfl⟩ (RdX.le (RdT.sp hr5 hs304)) hz246 hz247 hz248 ?_
               intro A305 c306 _ _ hcut307
               rw [hyl249] at hcut307 ⊢
               exact ⟨Below.refl _ _, _, updO_known hkn, ⟨A305, c306, rfl, hcut307 _ (RdT.sp hr5 hs304)⟩⟩
              ·intro ρ' w' hk hs hah
               obtain ⟨A309, c310, e132, hr311⟩ := hah 16 132 (by kernel_rfl)
               have e126 := hah 10 126 (by kernel_rfl)
               have hkn : Known ρ' [(132, (.slice A309 (List.length l249) c310)), (126, (.bool false))] := ⟨e132, (Eq.trans e126 (congrArg Value.bool hb237)), trivial⟩
               refine Step.known _ hkn ?_
               have hs308 := SP.below hs116 hk
               refine Step.toStr (T := 22) (S' := 9) (E := 5) (x := (.tmp 132)) (A := A309) (c := c310) (l := l249) (d := (some 133)) (k := 17) (by kernel_rfl) rfl (by kernel_rfl) (by kernel_rfl) (by kernel_rfl) (by kernel_rfl) hr311 ?_
               exact ⟨Below.refl _ _, _, updO_known hkn, rfl⟩
              ·intro ρ' w' hk hs hah
               have e129 := hah 13 129 (by kernel_rfl)
               have e133 := hah 17 133 (by kernel_rfl)
               have e126 := hah 10 126 (by kernel_rfl)
               have hkn : Known ρ' [(129, (.string ⟨List.toArray z240⟩)), (133, (.string ⟨List.toArray l249⟩)), (126, (.bool false))] := ⟨e129, e133, (Eq.trans e126 (congrArg Value.bool hb237)), trivial⟩
               refine Step.known _ hkn ?_
               have hs312 := SP.below hs116 hk
               refine Step.strOp (op := .neq) (T := 9) (T' := 9) (x := (.tmp 129)) (y := (.tmp 133)) (a := z240) (b := l249) (r := (.bool (!(z240 == l249)))) (d := (some 134)) (k := 18) (by kernel_rfl) rfl (by kernel_rfl) (by kernel_rfl) rfl ?_
               exact ⟨Below.refl _ _, _, updO_known hkn, rfl⟩
              ·exact Owes.pure [(126, (.bool false)), (134, (.bool (!(z240 == l249)))), (117, (.bool true))] ⟨sB 10 (by kernel_rfl) (decide (z111.2.1 > ((List.length p2 : Nat) : Int))) (by kernel_rfl) hb237, sA 18 (by kernel_rfl) (by kernel_rfl), sB 1 (by kernel_rfl) z111.2.2 (by kernel_rfl) hb233, trivial⟩ (.bool (!(z240 == l249))) (fun _ _ => by kernel_rfl) (fun _ => rfl)
              ·exact Owes.pure [(117, (.bool true)), (135, (.bool (!(z240 == l249))))] ⟨sB 1 (by kernel_rfl) z111.2.2 (by kernel_rfl) hb233, sA 19 (by kernel_rfl) (by kernel_rfl), trivial⟩ (.bool (!(z240 == l249))) (fun _ _ => by kernel_rfl) (fun _ => rfl)
              ·exact Owes.pure [(136, (.bool (!(z240 == l249))))] ⟨sA 20 (by kernel_rfl) (by kernel_rfl), trivial⟩ (.bool (!(z240 == l249))) (fun _ _ => by kernel_rfl) (fun _ => rfl)
              ·exact Owes.pure [(20, (.bool z111.2.2)), (137, (.bool false))] ⟨sS (by kernel_rfl) (by kernel_rfl), sB 21 (by kernel_rfl) (!(z240 == l249)) (by kernel_rfl) hb253, trivial⟩ (.bool z111.2.2) (fun _ _ => by kernel_rfl) (fun _ => rfl)
              ·exact Owes.pure [(138, (.bool z111.2.2)), (137, (.bool false))] ⟨sA 22 (by kernel_rfl) (by kernel_rfl), sB 21 (by kernel_rfl) (!(z240 == l249)) (by kernel_rfl) hb253, trivial⟩ (.bool (!z111.2.2)) (fun _ _ => by kernel_rfl) (fun _ => rfl)
              ·exact Owes.pure [(139, (.bool (!z111.2.2))), (137, (.bool false))] ⟨sA 23 (by kernel_rfl) (by kernel_rfl), sB 21 (by kernel_rfl) (!(z240 == l249)) (by kernel_rfl) hb253, trivial⟩ (.bool (!z111.2.2)) (fun _ _ => by kernel_rfl) (fun _ => rfl)
              ·exact Owes.skip [(140, (.bool false))] ⟨sB 24 (by kernel_rfl) (!z111.2.2) (by kernel_rfl) hb274, trivial⟩ (some 141) (fun _ => by kernel_rfl) (by kernel_rfl) (fun _ => rfl)
              ·exact Owes.skip [(140, (.bool false))] ⟨sB 24 (by kernel_rfl) (!z111.2.2) (by kernel_rfl) hb274, trivial⟩ (some 142) (fun _ => by kernel_rfl) (by kernel_rfl) (fun _ => rfl)
              ·exact Owes.pure [(140, (.bool false)), (142, undef), (137, (.bool false))] ⟨sB 24 (by kernel_rfl) (!z111.2.2) (by kernel_rfl) hb274, sA 26 (by kernel_rfl) (by kernel_rfl), sB 21 (by kernel_rfl) (!(z240 == l249)) (by kernel_rfl) hb253, trivial⟩ (.bool false) (fun _ _ => by kernel_rfl) (fun _ => rfl)
              ·exact Owes.pure [(137, (.bool false)), (143, (.bool false))] ⟨sB 21 (by kernel_rfl) (!(z240 == l249)) (by kernel_rfl) hb253, sA 27 (by kernel_rfl) (by kernel_rfl), trivial⟩ (.bool false) (fun _ _ => by kernel_rfl) (fun _ => rfl)
              ·intro ρ' w' hk hs hf
               have hs314 := SP.below hs116 hk
               obtain ⟨w313, hww313⟩ : ∃ x, w' = x := ⟨_, rfl⟩
               subst hww313
               have e2 : ρ' 2 = (.string ⟨List.toArray p6⟩) := (hs 2 (by kernel_rfl)).trans (by kernel_rfl)
               have e7 : ρ' 7 = (.bool z7) := (hs 7 (by kernel_rfl)).trans (by kernel_rfl)
               have e144 := hf 28 144 (by kernel_rfl)
               refine postKnown [(2, (.string ⟨List.toArray p6⟩)), (7, (.bool z7)), (144, (.bool false))] ⟨e2, e7, e144, trivial⟩ ?_
               exact ⟨false, ⟨(by kernel_rfl), (by kernel_rfl), (by kernel_rfl), trivial⟩, SP.sel hs314 [] rfl rfl, H⟩
         ·have H := cf H hb233
          rcases Bool.eq_false_or_eq_true (!z111.2.2) with hb315 | hb315
          ·have H := ct H hb315
           refine At.draw (by kernel_rfl) (by kernel_rfl) (by kernel_rfl) (by kernel_rfl) (by kernel_rfl) [FEq (.bool z111.2.2), FEq (.bool z111.2.2), FEq undef, FEq undef, FEq undef, FEq undef, FEq undef, FEq undef, FEq undef, FEq undef, FEq undef, FEq undef, FEq undef, FEq undef, FEq undef, FEq undef, FEq undef, FEq undef, FEq undef, FEq undef, FEq (.bool false), FEq (.bool false), FEq (.bool z111.2.2), FEq (.bool (!z111.2.2)), FEq (.bool (!z111.2.2)), FEq (.int .i64 z111.2.1), FEq (.bool (z111.2.1 != 0)), FEq (.bool (z111.2.1 != 0)), FEq (.bool (z111.2.1 != 0))] ⟨mono_eq _, mono_eq _, mono_eq _, mono_eq _, mono_eq _, mono_eq _, mono_eq _, mono_eq _, mono_eq _, mono_eq _, mono_eq _, mono_eq _, mono_eq _, mono_eq _, mono_eq _, mono_eq _, mono_eq _, mono_eq _, mono_eq _, mono_eq _, mono_eq _, mono_eq _, mono_eq _, mono_eq _, mono_eq _, mono_eq _, mono_eq _, mono_eq _, mono_eq _, trivial⟩ (N := 29) (by kernel_rfl) ⟨⟨⟨⟨⟨⟨⟨⟨⟨⟨⟨⟨⟨⟨⟨⟨⟨⟨⟨⟨⟨⟨⟨⟨⟨⟨⟨⟨⟨trivial, ?_⟩, ?_⟩, ?_⟩, ?_⟩, ?_⟩, ?_⟩, ?_⟩, ?_⟩, ?_⟩, ?_⟩, ?_⟩, ?_⟩, ?_⟩, ?_⟩, ?_⟩, ?_⟩, ?_⟩, ?_⟩, ?_⟩, ?_⟩, ?_⟩, ?_⟩, ?_⟩, ?_⟩, ?_⟩, ?_⟩, ?_⟩, ?_⟩, ?_⟩ ?_
           ·exact Owes.pure [(20, (.bool z111.2.2))] ⟨sS (by kernel_rfl) (by kernel_rfl), trivial⟩ (.bool z111.2.2) (fun _ _ => by kernel_rfl) (fun _ => rfl)
           ·exact Owes.pure [(116, (.bool z111.2.2))] ⟨sA 0 (by kernel_rfl) (by kernel_rfl), trivial⟩ (.bool z111.2.2) (fun _ _ => by kernel_rfl) (fun _ => rfl)
           ·exact Owes.skip [(117, (.bool false))] ⟨sB 1 (by kernel_rfl) z111.2.2 (by kernel_rfl) hb233, trivial⟩ (some 118) (fun _ => by kernel_rfl) (by kernel_rfl) (fun _ => rfl)
           ·exact Owes.skip [(117, (.bool false))] ⟨sB 1 (by kernel_rfl) z111.2.2 (by kernel_rfl) hb233, trivial⟩ (some 119) (fun _ => by kernel_rfl) (by kernel_rfl) (fun _ => rfl)
           ·exact Owes.skip [(117, (.bool false))] ⟨sB 1 (by kernel_rfl) z111.2.2 (by kernel_rfl) hb233, trivial⟩ (some 120) (fun _ => by kernel_rfl) (by kernel_rfl) (fun _ => rfl)
           ·exact Owes.skip [(120, undef)] ⟨sA 4 (by kernel_rfl) (by kernel_rfl), trivial⟩ (some 121) (fun _ => by kernel_rfl) (by kernel_rfl) (fun _ => rfl)
           ·exact Owes.skip [(120, undef)] ⟨sA 4 (by kernel_rfl) (by kernel_rfl), trivial⟩ (some 122) (fun _ => by kernel_rfl) (by kernel_rfl) (fun _ => rfl)
           ·exact Owes.skip [(120, undef)] ⟨sA 4 (by kernel_rfl) (by kernel_rfl), trivial⟩ (some 123) (fun _ => by kernel_rfl) (by kernel_rfl) (fun _ => rfl)
           ·exact Owes.skip [(120, undef)] ⟨sA 4 (by kernel_rfl) (by kernel_rfl), trivial⟩ (some 124) (fun _ => by kernel_rfl) (by kernel_rfl) (fun _ => rfl)
           ·exact Owes.skip [(117, (.bool false))] ⟨sB 1 (by kernel_rfl) z111.2.2 (by kernel_rfl) hb233, trivial⟩ (some 125) (fun _ => by kernel_rfl) (by kernel_rfl) (fun _ => rfl)
           ·exact Owes.skip [(117, (.bool false))] ⟨sB 1 (by kernel_rfl) z111.2.2 (by kernel_rfl) hb233, trivial⟩ (some 126) (fun _ => by kernel_rfl) (by kernel_rfl) (fun _ => rfl)
           ·exact Owes.skip [(126, undef)] ⟨sA 10 (by kernel_rfl) (by kernel_rfl), trivial⟩ (some 127) (fun _ => by kernel_rfl) (by kernel_rfl) (fun _ => rfl)
           ·exact Owes.skip [(126, undef)] ⟨sA 10 (by kernel_rfl) (by kernel_rfl), trivial⟩ (some 128) (fun _ => by kernel_rfl) (by kernel_rfl) (fun _ => rfl)
           ·exact Owes.skip [(126, undef)] ⟨sA 10 (by kernel_rfl) (by kernel_rfl), trivial⟩ (some 129) (fun _ => by kernel_rfl) (by kernel_rfl) (fun _ => rfl)
           ·exact Owes.skip [(126, undef)] ⟨sA 10 (by kernel_rfl) (by kernel_rfl), trivial⟩ (some 130) (fun _ => by kernel_rfl) (by kernel_rfl) (fun _ => rfl)
           ·exact Owes.skip [(126, undef)] ⟨sA 10 (by kernel_rfl) (by kernel_rfl), trivial⟩ (some 131) (fun _ => by kernel_rfl) (by kernel_rfl) (fun _ => rfl)
           ·exact Owes.skip [(126, undef)] ⟨sA 10 (by kernel_rfl) (by kernel_rfl), trivial⟩ (some 132) (fun _ => by kernel_rfl) (by kernel_rfl) (fun _ => rfl)
           ·exact Owes.skip [(126, undef)] ⟨sA 10 (by kernel_rfl) (by kernel_rfl), trivial⟩ (some 133) (fun _ => by kernel_rfl) (by kernel_rfl) (fun _ => rfl)
           ·exact Owes.skip [(126, undef)] ⟨sA 10 (by kernel_rfl) (by kernel_rfl), trivial⟩ (some 134) (fun _ => by kernel_rfl) (by kernel_rfl) (fun _ => rfl)
           ·exact Owes.skip [(117, (.bool false))] ⟨sB 1 (by kernel_rfl) z111.2.2 (by kernel_rfl) hb233, trivial⟩ (some 135) (fun _ => by kernel_rfl) (by kernel_rfl) (fun _ => rfl)
           ·exact Owes.pure [(117, (.bool false)), (135, undef)] ⟨sB 1 (by kernel_rfl) z111.2.2 (by kernel_rfl) hb233, sA 19 (by kernel_rfl) (by kernel_rfl), trivial⟩ (.bool false) (fun _ _ => by kernel_rfl) (fun _ => rfl)
           ·exact Owes.pure [(136, (.bool false))] ⟨sA 20 (by kernel_rfl) (by kernel_rfl), trivial⟩ (.bool false) (fun _ _ => by kernel_rfl) (fun _ => rfl)
           ·exact Owes.pure [(20, (.bool z111.2.2)), (137, (.bool false))] ⟨sS (by kernel_rfl) (by kernel_rfl), sA 21 (by kernel_rfl) (by kernel_rfl), trivial⟩ (.bool z111.2.2) (fun _ _ => by kernel_rfl) (fun _ => rfl)
           ·exact Owes.pure [(138, (.bool z111.2.2)), (137, (.bool false))] ⟨sA 22 (by kernel_rfl) (by kernel_rfl), sA 21 (by kernel_rfl) (by kernel_rfl), trivial⟩ (.bool (!z111.2.2)) (fun _ _ => by kernel_rfl) (fun _ => rfl)
           ·exact Owes.pure [(139, (.bool (!z111.2.2))), (137, (.bool false))] ⟨sA 23 (by kernel_rfl) (by kernel_rfl), sA 21 (by kernel_rfl) (by kernel_rfl), trivial⟩ (.bool (!z111.2.2)) (fun _ _ => by kernel_rfl) (fun _ => rfl)
           ·exact Owes.pure [(19, (.int .i64 z111.2.1)), (140, (.bool true))] ⟨sS (by kernel_rfl) (by kernel_rfl), sB 24 (by kernel_rfl) (!z111.2.2) (by kernel_rfl) hb315, trivial⟩ (.int .i64 z111.2.1) (fun _ _ => by kernel_rfl) (fun _ => rfl)
           ·exact Owes.pure [(141, (.int .i64 z111.2.1)), (140, (.bool true))] ⟨sA 25 (by kernel_rfl) (by kernel_rfl), sB 24 (by kernel_rfl) (!z111.2.2) (by kernel_rfl) hb315, trivial⟩ (.bool (z111.2.1 != 0)) (fun _ _ => by kernel_rfl) (fun _ => rfl)
           ·exact Owes.pure [(140, (.bool true)), (142, (.bool (z111.2.1 != 0))), (137, (.bool false))] ⟨sB 24 (by kernel_rfl) (!z111.2.2) (by kernel_rfl) hb315, sA 26 (by kernel_rfl) (by kernel_rfl), sA 21 (by kernel_rfl) (by kernel_rfl), trivial⟩ (.bool (z111.2.1 != 0)) (fun _ _ => by kernel_rfl) (fun _ => rfl)
           ·exact Owes.pure [(137, (.bool false)), (143, (.bool (z111.2.1 != 0)))] ⟨sA 21 (by kernel_rfl) (by kernel_rfl), sA 27 (by kernel_rfl) (by kernel_rfl), trivial⟩ (.bool (z111.2.1 != 0)) (fun _ _ => by kernel_rfl) (fun _ => rfl)
           ·intro ρ' w' hk hs hf
            have hs317 := SP.below hs116 hk
            obtain ⟨w316, hww316⟩ : ∃ x, w' = x := ⟨_, rfl⟩
            subst hww316
            have e2 : ρ' 2 = (.string ⟨List.toArray p6⟩) := (hs 2 (by kernel_rfl)).trans (by kernel_rfl)
            have e7 : ρ' 7 = (.bool z7) := (hs 7 (by kernel_rfl)).trans (by kernel_rfl)
            have e144 := hf 28 144 (by kernel_rfl)
            refine postKnown [(2, (.string ⟨List.toArray p6⟩)), (7, (.bool z7)), (144, (.bool (z111.2.1 != 0)))] ⟨e2, e7, e144, trivial⟩ ?_
            exact ⟨(z111.2.1 != 0), ⟨(by kernel_rfl), (by kernel_rfl), (by kernel_rfl), trivial⟩, SP.sel hs317 [] rfl rfl, H⟩
          ·have H := cf H hb315
           refine At.draw (by kernel_rfl) (by kernel_rfl) (by kernel_rfl) (by kernel_rfl) (by kernel_rfl) [FEq (.bool z111.2.2), FEq (.bool z111.2.2), FEq undef, FEq undef, FEq undef, FEq undef, FEq undef, FEq undef, FEq undef, FEq undef, FEq undef, FEq undef, FEq undef, FEq undef, FEq undef, FEq undef, FEq undef, FEq undef, FEq undef, FEq undef, FEq (.bool false), FEq (.bool false), FEq (.bool z111.2.2), FEq (.bool (!z111.2.2)), FEq (.bool (!z111.2.2)), FEq undef, FEq undef, FEq (.bool false), FEq (.bool false)] ⟨mono_eq _, mono_eq _, mono_eq _, mono_eq _, mono_eq _, mono_eq _, mono_eq _, mono_eq _, mono_eq _, mono_eq _, mono_eq _, mono_eq _, mono_eq _, mono_eq _, mono_eq _, mono_eq _, mono_eq _, mono_eq _, mono_eq _, mono_eq _, mono_eq _, mono_eq _, mono_eq _, mono_eq _, mono_eq _, mono_eq _, mono_eq _, mono_eq _, mono_eq _, trivial⟩ (N := 29) (by kernel_rfl) ⟨⟨⟨⟨⟨⟨⟨⟨⟨⟨⟨⟨⟨⟨⟨⟨⟨⟨⟨⟨⟨⟨⟨⟨⟨⟨⟨⟨⟨trivial, ?_⟩, ?_⟩, ?_⟩, ?_⟩, ?_⟩, ?_⟩, ?_⟩, ?_⟩, ?_⟩, ?_⟩, ?_⟩, ?_⟩, ?_⟩, ?_⟩, ?_⟩, ?_⟩, ?_⟩, ?_⟩, ?_⟩, ?_⟩, ?_⟩, ?_⟩, ?_⟩, ?_⟩, ?_⟩, ?_⟩, ?_⟩, ?_⟩, ?_⟩ ?_
           ·exact Owes.pure [(20, (.bool z111.2.2))] ⟨sS (by kernel_rfl) (by kernel_rfl), trivial⟩ (.bool z111.2.2) (fun _ _ => by kernel_rfl) (fun _ => rfl)
           ·exact Owes.pure [(116, (.bool z111.2.2))] ⟨sA 0 (by kernel_rfl) (by kernel_rfl), trivial⟩ (.bool z111.2.2) (fun _ _ => by kernel_rfl) (fun _ => rfl)
           ·exact Owes.skip [(117, (.bool false))] ⟨sB 1 (by kernel_rfl) z111.2.2 (by kernel_rfl) hb233, trivial⟩ (some 118) (fun _ => by kernel_rfl) (by kernel_rfl) (fun _ => rfl)
           ·exact Owes.skip [(117, (.bool false))] ⟨sB 1 (by kernel_rfl) z111.2.2 (by kernel_rfl) hb233, trivial⟩ (some 119) (fun _ => by kernel_rfl) (by kernel_rfl) (fun _ => rfl)
           ·exact Owes.skip [(117, (.bool false))] ⟨sB 1 (by kernel_rfl) z111.2.2 (by kernel_rfl) hb233, trivial⟩ (some 120) (fun _ => by kernel_rfl) (by kernel_rfl) (fun _ => rfl)
           ·exact Owes.skip [(120, undef)] ⟨sA 4 (by kernel_rfl) (by kernel_rfl), trivial⟩ (some 121) (fun _ => by kernel_rfl) (by kernel_rfl) (fun _ => rfl)
           ·exact Owes.skip [(120, undef)] ⟨sA 4 (by kernel_rfl) (by kernel_rfl), trivial⟩ (some 122) (fun _ => by kernel_rfl) (by kernel_rfl) (fun _ => rfl)
           ·exact Owes.skip [(120, undef)] ⟨sA 4 (by kernel_rfl) (by kernel_rfl), trivial⟩ (some 123) (fun _ => by kernel_rfl) (by kernel_rfl) (fun _ => rfl)
           ·exact Owes.skip [(120, undef)] ⟨sA 4 (by kernel_rfl) (by kernel_rfl), trivial⟩ (some 124) (fun _ => by kernel_rfl) (by kernel_rfl) (fun _ => rfl)
           ·exact Owes.skip [(117, (.bool false))] ⟨sB 1 (by kernel_rfl) z111.2.2 (by kernel_rfl) hb233, trivial⟩ (some 125) (fun _ => by kernel_rfl) (by kernel_rfl) (fun _ => rfl)
           ·exact Owes.skip [(117, (.bool false))] ⟨sB 1 (by kernel_rfl) z111.2.2 (by kernel_rfl) hb233, trivial⟩ (some 126) (fun _ => by kernel_rfl) (by kernel_rfl) (fun _ => rfl)
           ·exact Owes.skip [(126, undef)] ⟨sA 10 (by kernel_rfl) (by kernel_rfl), trivial⟩ (some 127) (fun _ => by kernel_rfl) (by kernel_rfl) (fun _ => rfl)
           ·exact Owes.skip [(126, undef)] ⟨sA 10 (by kernel_rfl) (by kernel_rfl), trivial⟩ (some 128) (fun _ => by kernel_rfl) (by kernel_rfl) (fun _ => rfl)
           ·exact Owes.skip [(126, undef)] ⟨sA 10 (by kernel_rfl) (by kernel_rfl), trivial⟩ (some 129) (fun _ => by kernel_rfl) (by kernel_rfl) (fun _ => rfl)
           ·exact Owes.skip [(126, undef)] ⟨sA 10 (by kernel_rfl) (by kernel_rfl), trivial⟩ (some 130) (fun _ => by kernel_rfl) (by kernel_rfl) (fun _ => rfl)
           ·exact Owes.skip [(126, undef)] ⟨sA 10 (by kernel_rfl) (by kernel_rfl), trivial⟩ (some 131) (fun _ => by kernel_rfl) (by kernel_rfl) (fun _ => rfl)
           ·exact Owes.skip [(126, undef)] ⟨sA 10 (by kernel_rfl) (by kernel_rfl), trivial⟩ (some 132) (fun _ => by kernel_rfl) (by kernel_rfl) (fun _ => rfl)
           ·exact Owes.skip [(126, undef)] ⟨sA 10 (by kernel_rfl) (by kernel_rfl), trivial⟩ (some 133) (fun _ => by kernel_rfl) (by kernel_rfl) (fun _ => rfl)
           ·exact Owes.skip [(126, undef)] ⟨sA 10 (by kernel_rfl) (by kernel_rfl), trivial⟩ (some 134) (fun _ => by kernel_rfl) (by kernel_rfl) (fun _ => rfl)
           ·exact Owes.skip [(117, (.bool false))] ⟨sB 1 (by kernel_rfl) z111.2.2 (by kernel_rfl) hb233, trivial⟩ (some 135) (fun _ => by kernel_rfl) (by kernel_rfl) (fun _ => rfl)
           ·exact Owes.pure [(117, (.bool false)), (135, undef)] ⟨sB 1 (by kernel_rfl) z111.2.2 (by kernel_rfl) hb233, sA 19 (by kernel_rfl) (by kernel_rfl), trivial⟩ (.bool false) (fun _ _ => by kernel_rfl) (fun _ => rfl)
           ·exact Owes.pure [(136, (.bool false))] ⟨sA 20 (by kernel_rfl) (by kernel_rfl), trivial⟩ (.bool false) (fun _ _ => by kernel_rfl) (fun _ => rfl)
           ·exact Owes.pure [(20, (.bool z111.2.2)), (137, (.bool false))] ⟨sS (by kernel_rfl) (by kernel_rfl), sA 21 (by kernel_rfl) (by kernel_rfl), trivial⟩ (.bool z111.2.2) (fun _ _ => by kernel_rfl) (fun _ => rfl)
           ·exact Owes.pure [(138, (.bool z111.2.2)), (137, (.bool false))] ⟨sA 22 (by kernel_rfl) (by kernel_rfl), sA 21 (by kernel_rfl) (by kernel_rfl), trivial⟩ (.bool (!z111.2.2)) (fun _ _ => by kernel_rfl) (fun _ => rfl)
           ·exact Owes.pure [(139, (.bool (!z111.2.2))), (137, (.bool false))] ⟨sA 23 (by kernel_rfl) (by kernel_rfl), sA 21 (by kernel_rfl) (by kernel_rfl), trivial⟩ (.bool (!z111.2.2)) (fun _ _ => by kernel_rfl) (fun _ => rfl)
           ·exact Owes.skip [(140, (.bool false))] ⟨sB 24 (by kernel_rfl) (!z111.2.2) (by kernel_rfl) hb315, trivial⟩ (some 141) (fun _ => by kernel_rfl) (by kernel_rfl) (fun _ => rfl)
           ·exact Owes.skip [(140, (.bool false))] ⟨sB 24 (by kernel_rfl) (!z111.2.2) (by kernel_rfl) hb315, trivial⟩ (some 142) (fun _ => by kernel_rfl) (by kernel_rfl) (fun _ => rfl)
           ·exact Owes.pure [(140, (.bool false)), (142, undef), (137, (.bool false))] ⟨sB 24 (by kernel_rfl) (!z111.2.2) (by kernel_rfl) hb315, sA 26 (by kernel_rfl) (by kernel_rfl), sA 21 (by kernel_rfl) (by kernel_rfl), trivial⟩ (.bool false) (fun _ _ => by kernel_rfl) (fun _ => rfl)
           ·exact Owes.pure [(137, (.bool false)), (143, (.bool false))] ⟨sA 21 (by kernel_rfl) (by kernel_rfl), sA 27 (by kernel_rfl) (by kernel_rfl), trivial⟩ (.bool false) (fun _ _ => by kernel_rfl) (fun _ => rfl)
           ·intro ρ' w' hk hs hf
            have hs319 := SP.below hs116 hk
            obtain ⟨w318, hww318⟩ : ∃ x, w' = x := ⟨_, rfl⟩
            subst hww318
            have e2 : ρ' 2 = (.string ⟨List.toArray p6⟩) := (hs 2 (by kernel_rfl)).trans (by kernel_rfl)
            have e7 : ρ' 7 = (.bool z7) := (hs 7 (by kernel_rfl)).trans (by kernel_rfl)
            have e144 := hf 28 144 (by kernel_rfl)
            refine postKnown [(2, (.string ⟨List.toArray p6⟩)), (7, (.bool z7)), (144, (.bool false))] ⟨e2, e7, e144, trivial⟩ ?_
            exact ⟨false, ⟨(by kernel_rfl), (by kernel_rfl), (by kernel_rfl), trivial⟩, SP.sel hs319 [] rfl rfl, H⟩
        ·rintro ρ w205 ⟨v204, hk, hs206, H⟩
         unfold L_subwaylaw01_NumBack_k7 at H
         refine At.known [(2, (.string ⟨List.toArray p6⟩)), (7, (.bool z7)), (144, (.bool v204))] hk ?_
         refine At.cond (by kernel_rfl) (o := (.tmp 144)) (by kernel_rfl) (b := v204) (by kernel_rfl) (p0 := [true, true, true, true, true, true, true, true, false, true, false]) (p1 := [true, true, true, true, true, true, true, true, false, true, true]) rfl rfl (fun hb207 => ?_) (fun hb207 => ?_)
         ·have H := ct H hb207
          refine At.seq (by kernel_rfl) (p0 := [true, true, true, true, true, true, true, true, false, true, false, false]) (p1 := [true, true, true, true, true, true, true, true, false, true, false, true]) rfl rfl ?_
          refine At.region (by kernel_rfl) (by kernel_rfl) ?_
          refine In.run' 1 (k' := 1) rfl [(6, (.bool false))] (by kernel_rfl) ?_
          refine In.fin (by kernel_rfl) ?_
          refine At.ret (by kernel_rfl) ?_
          refine ⟨(.bool false), by kernel_rfl, ?_⟩
          obtain rfl := some_elim H
          exact ⟨rfl, SP.sel hs206 [] rfl rfl⟩
         ·have H := cf H hb207
          refine At.skip (by kernel_rfl) ?_
          refine At.seq (by kernel_rfl) (p0 := [true, true, true, true, true, true, true, true, true, false]) (p1 := [true, true, true, true, true, true, true, true, true, true]) rfl rfl ?_
          refine At.region (by kernel_rfl) (by kernel_rfl) ?_
          refine In.run' 1 (k' := 1) rfl [(146, (.string ⟨List.toArray p6⟩))] (by kernel_rfl) ?_
          obtain ⟨z208, hz209, H⟩ := bind_elim H
          refine In.step (k' := 2) rfl (by kernel_rfl) ?_
          refine Step.callF (f := 14) (fo := (.func 14)) (xs := #[(.tmp 146)]) (tys := #[9]) (first := #[]) (captured := #[]) (d := (some 147)) (k := 1) (by kernel_rfl) rfl (by kernel_rfl) (by kernel_rfl) Tryd.call14 (L_num_Parse_walk  p6 w205 (laid_below hL (SP.keeps hs206)) z208 hz209) ?_
          rintro e w210 ⟨rfl, hs211⟩
          refine ⟨_, rfl, ?_⟩
          have hs212 := SP.call hs206 hs211
          clear hs211
          have hs213 : SP [] w0 w210 [] := hs212
          clear hs212
          refine In.run' 5 (k' := 7) rfl [(145, (.tuple #[(.int .i64 z208.1), (.bool z208.2)])), (148, (.int .i64 z208.1)), (149, (.bool z208.2)), (21, (.int .i64 z208.1)), (22, (.bool z208.2))] (by kernel_rfl) ?_
          refine In.fin (by kernel_rfl) ?_
          refine At.seq (by kernel_rfl) (p0 := [true, true, true, true, true, true, true, true, true, true, false]) (p1 := [true, true, true, true, true, true, true, true, true, true, true]) rfl rfl ?_
          refine At.join (fun ρ w => ∃ (v222 : Bool), Known ρ [(6, (.bool v222))] ∧ SP [] w0 w [] ∧ L_subwaylaw01_NumBack_k8 v222 = some r) ?_ ?_
          ·refine At.region (by kernel_rfl) (by kernel_rfl) ?_
           refine In.run' 2 (k' := 2) rfl [(150, (.bool z7)), (151, (.bool z7))] (by kernel_rfl) ?_
           refine In.guard (t := 151) (b := z7) (by kernel_rfl) (fun hb225 => ?_) (fun hb225 => ?_)
           ·have H := ct H hb225
            refine In.run' 3 (k' := 5) rfl [(152, (.bool z208.2)), (153, (.bool (!z208.2))), (154, (.bool (!z208.2)))] (by kernel_rfl) ?_
            refine In.guard (t := 154) (b := (!z208.2)) (by kernel_rfl) (fun hb226 => ?_) (fun hb226 => ?_)
            ·have H := ct H hb226
             refine In.run' 7 (k' := 12) rfl [(155, undef), (156, undef), (157, undef), (158, undef), (159, (.bool true)), (160, (.bool true)), (6, (.bool true))] (by kernel_rfl) ?_
             refine In.fin (by kernel_rfl) ?_
             exact ⟨true, ⟨(by kernel_rfl), trivial⟩, SP.sel hs213 [] rfl rfl, H⟩
            ·have H := cf H hb226
             refine In.run' 1 (k' := 6) rfl [(155, (.int .i64 z208.1))] (by kernel_rfl) ?_
             obtain ⟨z227, hz228, H⟩ := bind_elim H
             refine In.step (k' := 7) rfl (by kernel_rfl) ?_
             refine Step.callF (f := 20) (fo := (.func 20)) (xs := #[(.tmp 155)]) (tys := #[2]) (first := #[]) (captured := #[]) (d := (some 156)) (k := 6) (by kernel_rfl) rfl (by kernel_rfl) (by kernel_rfl) Tryd.call20 (L_num_Decimal_walk  z208.1 w210 (laid_below hL (SP.keeps hs213)) z227 hz228) ?_
             rintro e w229 ⟨rfl, hs230⟩
             refine ⟨_, rfl, ?_⟩
             have hs231 := SP.call hs213 hs230
             clear hs230
             have hs232 : SP [] w0 w229 [] := hs231
             clear hs231
             refine In.run' 1 (k' := 8) rfl [(157, (.string ⟨List.toArray p6⟩))] (by kernel_rfl) ?_
             refine In.step (k' := 9) rfl (by kernel_rfl) ?_
             refine Step.strOp (op := .eql) (T := 9) (T' := 9) (x := (.tmp 156)) (y := (.tmp 157)) (a := z227) (b := p6) (r := (.bool (z227 == p6))) (d := (some 158)) (k := 8) (by kernel_rfl) rfl (by kernel_rfl) (by kernel_rfl) rfl ?_
             refine In.run' 3 (k' := 12) rfl [(159, (.bool (z227 == p6))), (160, (.bool (z227 == p6))), (6, (.bool (z227 == p6)))] (by kernel_rfl) ?_
             refine In.fin (by kernel_rfl) ?_
             exact ⟨(z227 == p6), ⟨(by kernel_rfl), trivial⟩, SP.sel hs232 [] rfl rfl, H⟩
           ·have H := cf H hb225
            refine In.run' 10 (k' := 12) rfl [(152, undef), (153, undef), (154, undef), (155, undef), (156, undef), (157, undef), (158, undef), (159, undef), (160, (.bool false)), (6, (.bool false))] (by kernel_rfl) ?_
            refine In.fin (by kernel_rfl) ?_
            exact ⟨false, ⟨(by kernel_rfl), trivial⟩, SP.sel hs213 [] rfl rfl, H⟩
          ·rintro ρ w223 ⟨v222, hk, hs224, H⟩
           unfold L_subwaylaw01_NumBack_k8 at H
           refine At.known [(6, (.bool v222))] hk ?_
           refine At.ret (by kernel_rfl) ?_
           refine ⟨(.bool v222), by kernel_rfl, ?_⟩
           obtain rfl := some_elim H
           exact ⟨rfl, SP.sel hs224 [] rfl rfl⟩
end Go.Proofs.YtjpchjbbfbmjgaaDoor
