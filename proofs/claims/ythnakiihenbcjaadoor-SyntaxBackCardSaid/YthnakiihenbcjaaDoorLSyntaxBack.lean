/- LIFTED BY PROGRAM (tools/lift.py): what functions compute, and that they do. -/
import Derived.Test.YthnakiihenbcjaaDoorLSH
namespace Go.Proofs.YthnakiihenbcjaaDoor
set_option linter.unusedSimpArgs false
set_option linter.unusedVariables false
open Go.RowKit

/-! L_subwaylaw04_SyntaxBack -/
def L_subwaylaw04_SyntaxBack_k3 (v106 : Bool) : Option (Bool) :=
  (some (v106))
def L_subwaylaw04_SyntaxBack_k2 (p4 : (List UInt8)) (z9 : (Bool)) (v54 : Bool) : Option (Bool) :=
  (cond v54 (some (false)) ((L_syntax_Addr p4).bind fun z58 => ((L_syntax_Net p4).bind fun z64 => (cond z9 (cond (!z58.2) (cond (!z64.2.2) (cond z58.2 (L_subwaylaw04_SyntaxBack_k3 (!z64.2.2)) (L_subwaylaw04_SyntaxBack_k3 true)) ((L_syntax_Slash z64.1 z64.2.1).bind fun z113 => (cond (z113 == p4) (cond z58.2 (L_subwaylaw04_SyntaxBack_k3 (!z64.2.2)) (L_subwaylaw04_SyntaxBack_k3 true)) (L_subwaylaw04_SyntaxBack_k3 false)))) ((L_syntax_Dots z58.1).bind fun z121 => (cond (z121 == p4) (cond (!z64.2.2) (cond z58.2 (L_subwaylaw04_SyntaxBack_k3 (!z64.2.2)) (L_subwaylaw04_SyntaxBack_k3 true)) ((L_syntax_Slash z64.1 z64.2.1).bind fun z130 => (cond (z130 == p4) (cond z58.2 (L_subwaylaw04_SyntaxBack_k3 (!z64.2.2)) (L_subwaylaw04_SyntaxBack_k3 true)) (L_subwaylaw04_SyntaxBack_k3 false)))) (L_subwaylaw04_SyntaxBack_k3 false)))) (L_subwaylaw04_SyntaxBack_k3 false)))))
def L_subwaylaw04_SyntaxBack_k1 (pAddr2 : Int) (pBits3 : Int) (p4 : (List UInt8)) (z9 : (Bool)) (v29 : Bool) : Option (Bool) :=
  (cond v29 (some (false)) ((L_syntax_Slash pAddr2 pBits3).bind fun z33 => ((L_syntax_Net z33).bind fun z39 => (cond (!((!(z33 == ([] : List UInt8))) == z39.2.2)) (L_subwaylaw04_SyntaxBack_k2 p4 z9 true) (cond z39.2.2 (L_subwaylaw04_SyntaxBack_k2 p4 z9 (!((z39.1 == pAddr2) && (z39.2.1 == pBits3)))) (L_subwaylaw04_SyntaxBack_k2 p4 z9 false))))))
def L_subwaylaw04_SyntaxBack (p1 : Int) (pAddr2 : Int) (pBits3 : Int) (p4 : (List UInt8)) : Option (Bool) :=
  ((L_subwaylaw04_head ).bind fun z9 => (cond (decide (((List.length p4 : Nat) : Int) > 9000)) (some (z9)) ((L_syntax_Dots p1).bind fun z16 => ((L_syntax_Addr z16).bind fun z22 => (cond (!z22.2) (L_subwaylaw04_SyntaxBack_k1 pAddr2 pBits3 p4 z9 true) (L_subwaylaw04_SyntaxBack_k1 pAddr2 pBits3 p4 z9 (z22.1 != p1)))))))
set_option maxRecDepth 100000 in
set_option maxHeartbeats 4000000 in
theorem L_subwaylaw04_SyntaxBack_walk  (p1 : Int) (pAddr2 : Int) (pBits3 : Int) (p4 : (List UInt8)) (w0 : World) (hL : LaidW w0)  (r : (Bool)) (H : L_subwaylaw04_SyntaxBack p1 pAddr2 pBits3 p4 = some r) :
  Calls Tryd.prog 4 #[(.int .u32 p1), (.agg #[(.int .u32 pAddr2), (.int .i64 pBits3)]), (.string ⟨List.toArray p4⟩)] w0 (fun e w' => e = .returned (.bool r) ∧ SP [] w0 w' []) := by
 unfold L_subwaylaw04_SyntaxBack at H
 refine calls_start (n := 92) Tryd.func4 (by kernel_rfl) (by kernel_rfl) (by kernel_rfl) ?_
 have hs0 := SP.start [] w0
 refine At.seq (by kernel_rfl) (p0 := [false]) (p1 := [true]) rfl rfl ?_
 refine At.region (by kernel_rfl) (by kernel_rfl) ?_
 refine In.step (k' := 1) rfl (by kernel_rfl) ?_
 refine Step.box (t := 24) (x := (.tmp 1)) (v := (.agg #[(.int .u32 pAddr2), (.int .i64 pBits3)])) (d := (some 4)) (k := 0) (by kernel_rfl) rfl (by kernel_rfl) hs0 ?_
 intro g5 w6 hs7
 have hs8 : SP [] w0 w6 [boxE g5 24 #[(.int .u32 pAddr2), (.int .i64 pBits3)]] := hs7
 clear hs7
 refine In.run' 1 (k' := 2) rfl [(6, (.bool false))] (by kernel_rfl) ?_
 refine In.fin (by kernel_rfl) ?_
 refine At.seq (by kernel_rfl) (p0 := [true, false]) (p1 := [true, true]) rfl rfl ?_
 refine At.region (by kernel_rfl) (by kernel_rfl) ?_
 obtain ⟨z9, hz10, H⟩ := bind_elim H
 refine In.step (k' := 1) rfl (by kernel_rfl) ?_
 refine Step.callF (f := 10) (fo := (.func 10)) (xs := #[]) (tys := #[]) (first := #[]) (captured := #[]) (d := (some 17)) (k := 0) (by kernel_rfl) rfl (by kernel_rfl) (by kernel_rfl) Tryd.call10 (L_subwaylaw04_head_walk   w6 (laid_below hL (SP.keeps hs8)) z9 hz10) ?_
 rintro e w11 ⟨rfl, hs12⟩
 refine ⟨_, rfl, ?_⟩
 have hs13 := SP.call hs8 hs12
 clear hs12
 have hs14 : SP [] w0 w11 [boxE g5 24 #[(.int .u32 pAddr2), (.int .i64 pBits3)]] := hs13
 clear hs13
 refine In.run' 1 (k' := 2) rfl [(7, (.bool z9))] (by kernel_rfl) ?_
 refine In.fin (by kernel_rfl) ?_
 refine At.seq (by kernel_rfl) (p0 := [true, true, false]) (p1 := [true, true, true]) rfl rfl ?_
 refine At.seq (by kernel_rfl) (p0 := [true, true, false, false]) (p1 := [true, true, false, true]) rfl rfl ?_
 refine At.region (by kernel_rfl) (by kernel_rfl) ?_
 refine In.run' 3 (k' := 3) rfl [(18, (.string ⟨List.toArray p4⟩)), (19, (.int .i64 ((List.length p4 : Nat) : Int))), (20, (.bool (decide (((List.length p4 : Nat) : Int) > 9000))))] (by kernel_rfl) ?_
 refine In.fin (by kernel_rfl) ?_
 refine At.cond (by kernel_rfl) (o := (.tmp 20)) (by kernel_rfl) (b := (decide (((List.length p4 : Nat) : Int) > 9000))) (by kernel_rfl) (p0 := [true, true, false, true, false]) (p1 := [true, true, false, true, true]) rfl rfl (fun hb15 => ?_) (fun hb15 => ?_)
 ·have H := ct H hb15
  refine At.seq (by kernel_rfl) (p0 := [true, true, false, true, false, false]) (p1 := [true, true, false, true, false, true]) rfl rfl ?_
  refine At.region (by kernel_rfl) (by kernel_rfl) ?_
  refine In.run' 2 (k' := 2) rfl [(21, (.bool z9)), (6, (.bool z9))] (by kernel_rfl) ?_
  refine In.fin (by kernel_rfl) ?_
  refine At.ret (by kernel_rfl) ?_
  refine ⟨(.bool z9), by kernel_rfl, ?_⟩
  obtain rfl := some_elim H
  exact ⟨rfl, SP.sel hs14 [] rfl rfl⟩
 ·have H := cf H hb15
  refine At.skip (by kernel_rfl) ?_
  refine At.seq (by kernel_rfl) (p0 := [true, true, true, false]) (p1 := [true, true, true, true]) rfl rfl ?_
  refine At.region (by kernel_rfl) (by kernel_rfl) ?_
  refine In.run' 1 (k' := 1) rfl [(23, (.int .u32 p1))] (by kernel_rfl) ?_
  obtain ⟨z16, hz17, H⟩ := bind_elim H
  refine In.step (k' := 2) rfl (by kernel_rfl) ?_
  refine Step.callF (f := 17) (fo := (.func 17)) (xs := #[(.tmp 23)]) (tys := #[22]) (first := #[]) (captured := #[]) (d := (some 24)) (k := 1) (by kernel_rfl) rfl (by kernel_rfl) (by kernel_rfl) Tryd.call17 (L_syntax_Dots_walk  p1 w11 (laid_below hL (SP.keeps hs14)) z16 hz17) ?_
  rintro e w18 ⟨rfl, hs19⟩
  refine ⟨_, rfl, ?_⟩
  have hs20 := SP.call hs14 hs19
  clear hs19
  have hs21 : SP [] w0 w18 [boxE g5 24 #[(.int .u32 pAddr2), (.int .i64 pBits3)]] := hs20
  clear hs20
  obtain ⟨z22, hz23, H⟩ := bind_elim H
  refine In.step (k' := 3) rfl (by kernel_rfl) ?_
  refine Step.callF (f := 11) (fo := (.func 11)) (xs := #[(.tmp 24)]) (tys := #[9]) (first := #[]) (captured := #[]) (d := (some 25)) (k := 2) (by kernel_rfl) rfl (by kernel_rfl) (by kernel_rfl) Tryd.call11 (L_syntax_Addr_walk  z16 w18 (laid_below hL (SP.keeps hs21)) z22 hz23) ?_
  rintro e w24 ⟨rfl, hs25⟩
  refine ⟨_, rfl, ?_⟩
  have hs26 := SP.call hs21 hs25
  clear hs25
  have hs27 : SP [] w0 w24 [boxE g5 24 #[(.int .u32 pAddr2), (.int .i64 pBits3)]] := hs26
  clear hs26
  refine In.run' 5 (k' := 8) rfl [(22, (.tuple #[(.int .u32 z22.1), (.bool z22.2)])), (26, (.int .u32 z22.1)), (27, (.bool z22.2)), (8, (.int .u32 z22.1)), (9, (.bool z22.2))] (by kernel_rfl) ?_
  refine In.fin (by kernel_rfl) ?_
  refine At.seq (by kernel_rfl) (p0 := [true, true, true, true, false]) (p1 := [true, true, true, true, true]) rfl rfl ?_
  refine At.seq (by kernel_rfl) (p0 := [true, true, true, true, false, false]) (p1 := [true, true, true, true, false, true]) rfl rfl ?_
  refine At.join (fun ρ w => ∃ (v29 : Bool), Known ρ [(2, (.string ⟨List.toArray p4⟩)), (4, (.pointer (some ⟨g5, 0, none⟩))), (7, (.bool z9)), (34, (.bool v29))] ∧ SP [] w0 w [boxE g5 24 #[(.int .u32 pAddr2), (.int .i64 pBits3)]] ∧ L_subwaylaw04_SyntaxBack_k1 pAddr2 pBits3 p4 z9 v29 = some r) ?_ ?_
  ·refine At.region (by kernel_rfl) (by kernel_rfl) ?_
   refine In.run' 3 (k' := 3) rfl [(28, (.bool z22.2)), (29, (.bool (!z22.2))), (30, (.bool (!z22.2)))] (by kernel_rfl) ?_
   refine In.guard (t := 30) (b := (!z22.2)) (by kernel_rfl) (fun hb140 => ?_) (fun hb140 => ?_)
   ·have H := ct H hb140
    refine In.run' 4 (k' := 7) rfl [(31, undef), (32, undef), (33, undef), (34, (.bool true))] (by kernel_rfl) ?_
    refine In.fin (by kernel_rfl) ?_
    exact ⟨true, ⟨(by kernel_rfl), (by kernel_rfl), (by kernel_rfl), (by kernel_rfl), trivial⟩, SP.sel hs27 [0] rfl rfl, H⟩
   ·have H := cf H hb140
    refine In.run' 4 (k' := 7) rfl [(31, (.int .u32 z22.1)), (32, (.int .u32 p1)), (33, (.bool (z22.1 != p1))), (34, (.bool (z22.1 != p1)))] (by kernel_rfl) ?_
    refine In.fin (by kernel_rfl) ?_
    exact ⟨(z22.1 != p1), ⟨(by kernel_rfl), (by kernel_rfl), (by kernel_rfl), (by kernel_rfl), trivial⟩, SP.sel hs27 [0] rfl rfl, H⟩
  ·rintro ρ w30 ⟨v29, hk, hs31, H⟩
   unfold L_subwaylaw04_SyntaxBack_k1 at H
   refine At.known [(2, (.string ⟨List.toArray p4⟩)), (4, (.pointer (some ⟨g5, 0, none⟩))), (7, (.bool z9)), (34, (.bool v29))] hk ?_
   refine At.cond (by kernel_rfl) (o := (.tmp 34)) (by kernel_rfl) (b := v29) (by kernel_rfl) (p0 := [true, true, true, true, false, true, false]) (p1 := [true, true, true, true, false, true, true]) rfl rfl (fun hb32 => ?_) (fun hb32 => ?_)
   ·have H := ct H hb32
    refine At.seq (by kernel_rfl) (p0 := [true, true, true, true, false, true, false, false]) (p1 := [true, true, true, true, false, true, false, true]) rfl rfl ?_
    refine At.region (by kernel_rfl) (by kernel_rfl) ?_
    refine In.run' 1 (k' := 1) rfl [(6, (.bool false))] (by kernel_rfl) ?_
    refine In.fin (by kernel_rfl) ?_
    refine At.ret (by kernel_rfl) ?_
    refine ⟨(.bool false), by kernel_rfl, ?_⟩
    obtain rfl := some_elim H
    exact ⟨rfl, SP.sel hs31 [] rfl rfl⟩
   ·have H := cf H hb32
    refine At.skip (by kernel_rfl) ?_
    refine At.seq (by kernel_rfl) (p0 := [true, true, true, true, true, false]) (p1 := [true, true, true, true, true, true]) rfl rfl ?_
    refine At.region (by kernel_rfl) (by kernel_rfl) ?_
    refine In.step (k' := 1) rfl (by kernel_rfl) ?_
    refine Step.load (t := 24) (x := (.tmp 4)) (g := g5) (off := 0) (i := 0) (v := (.agg #[(.int .u32 pAddr2), (.int .i64 pBits3)])) (d := (some 35)) (k := 0) (by kernel_rfl) rfl (by kernel_rfl) hs31 rfl (by kernel_rfl) ?_
    obtain ⟨z33, hz34, H⟩ := bind_elim H
    refine In.step (k' := 2) rfl (by kernel_rfl) ?_
    refine Step.callF (f := 19) (fo := (.func 19)) (xs := #[(.tmp 35)]) (tys := #[24]) (first := #[]) (captured := #[]) (d := (some 36)) (k := 1) (by kernel_rfl) rfl (by kernel_rfl) (by kernel_rfl) Tryd.call19 (L_syntax_Slash_walk  pAddr2 pBits3 w30 (laid_below hL (SP.keeps hs31)) z33 hz34) ?_
    rintro e w35 ⟨rfl, hs36⟩
    refine ⟨_, rfl, ?_⟩
    have hs37 := SP.call hs31 hs36
    clear hs36
    have hs38 : SP [] w0 w35 [boxE g5 24 #[(.int .u32 pAddr2), (.int .i64 pBits3)]] := hs37
    clear hs37
    refine In.run' 1 (k' := 3) rfl [(10, (.string ⟨List.toArray z33⟩))] (by kernel_rfl) ?_
    refine In.fin (by kernel_rfl) ?_
    refine At.seq (by kernel_rfl) (p0 := [true, true, true, true, true, true, false]) (p1 := [true, true, true, true, true, true, true]) rfl rfl ?_
    refine At.region (by kernel_rfl) (by kernel_rfl) ?_
    refine In.run' 1 (k' := 1) rfl [(38, (.string ⟨List.toArray z33⟩))] (by kernel_rfl) ?_
    obtain ⟨z39, hz40, H⟩ := bind_elim H
    refine In.step (k' := 2) rfl (by kernel_rfl) ?_
    refine Step.callF (f := 13) (fo := (.func 13)) (xs := #[(.tmp 38)]) (tys := #[9]) (first := #[]) (captured := #[]) (d := (some 39)) (k := 1) (by kernel_rfl) rfl (by kernel_rfl) (by kernel_rfl) Tryd.call13 (L_syntax_Net_walk  z33 w35 (laid_below hL (SP.keeps hs38)) z39 hz40) ?_
    rintro e w41 ⟨rfl, hs42⟩
    refine ⟨_, rfl, ?_⟩
    have hs43 := SP.call hs38 hs42
    clear hs42
    have hs44 : SP [] w0 w41 [boxE g5 24 #[(.int .u32 pAddr2), (.int .i64 pBits3)]] := hs43
    clear hs43
    refine In.run' 3 (k' := 5) rfl [(37, (.tuple #[(.agg #[(.int .u32 z39.1), (.int .i64 z39.2.1)]), (.bool z39.2.2)])), (40, (.agg #[(.int .u32 z39.1), (.int .i64 z39.2.1)])), (41, (.bool z39.2.2))] (by kernel_rfl) ?_
    refine In.step (k' := 6) rfl (by kernel_rfl) ?_
    refine Step.alloc (t := 24) (z := (.agg #[(.int .u32 0), (.int .i64 0)])) (d := (some 11)) (k := 5) (by kernel_rfl) rfl (by kernel_rfl) hs44 ?_
    intro g45 w46 hs47
    have hs48 : SP [] w0 w46 [boxE g5 24 #[(.int .u32 pAddr2), (.int .i64 pBits3)], boxE g45 24 #[(.int .u32 0), (.int .i64 0)]] := hs47
    clear hs47
    refine In.step (k' := 7) rfl (by kernel_rfl) ?_
    refine Step.store (t := 24) (x := (.tmp 11)) (y := (.tmp 40)) (g := g45) (off := 0) (i := 1) (v := (.agg #[(.int .u32 z39.1), (.int .i64 z39.2.1)])) (cs' := #[(.int .u32 z39.1), (.int .i64 z39.2.1)]) (d := none) (k := 6) (by kernel_rfl) rfl (by kernel_rfl) (by kernel_rfl) hs48 rfl (by kernel_rfl) ?_
    intro w49 hs50
    have hs51 : SP [] w0 w49 [boxE g5 24 #[(.int .u32 pAddr2), (.int .i64 pBits3)], boxE g45 24 #[(.int .u32 z39.1), (.int .i64 z39.2.1)]] := hs50
    clear hs50
    refine In.run' 1 (k' := 8) rfl [(12, (.bool z39.2.2))] (by kernel_rfl) ?_
    refine In.fin (by kernel_rfl) ?_
    refine At.seq (by kernel_rfl) (p0 := [true, true, true, true, true, true, true, false]) (p1 := [true, true, true, true, true, true, true, true]) rfl rfl ?_
    refine At.seq (by kernel_rfl) (p0 := [true, true, true, true, true, true, true, false, false]) (p1 := [true, true, true, true, true, true, true, false, true]) rfl rfl ?_
    refine At.join (fun ρ w => ∃ (v54 : Bool), Known ρ [(2, (.string ⟨List.toArray p4⟩)), (7, (.bool z9)), (53, (.bool v54))] ∧ SP [] w0 w [] ∧ L_subwaylaw04_SyntaxBack_k2 p4 z9 v54 = some r) ?_ ?_
    ·refine At.region (by kernel_rfl) (by kernel_rfl) ?_
     refine In.run' 1 (k' := 1) rfl [(42, (.string ⟨List.toArray z33⟩))] (by kernel_rfl) ?_
     refine In.step (k' := 2) rfl (by kernel_rfl) ?_
     refine Step.strOp (op := .neq) (T := 9) (T' := 9) (x := (.tmp 42)) (y := (.const (.string ⟨List.toArray ([] : List UInt8)⟩))) (a := z33) (b := ([] : List UInt8)) (r := (.bool (!(z33 == ([] : List UInt8))))) (d := (some 43)) (k := 1) (by kernel_rfl) rfl (by kernel_rfl) (by kernel_rfl) rfl ?_
     refine In.run' 3 (k' := 5) rfl [(44, (.bool z39.2.2)), (45, (.bool (!((!(z33 == ([] : List UInt8))) == z39.2.2)))), (46, (.bool (!((!(z33 == ([] : List UInt8))) == z39.2.2))))] (by kernel_rfl) ?_
     refine In.guard (t := 46) (b := (!((!(z33 == ([] : List UInt8))) == z39.2.2))) (by kernel_rfl) (fun hb138 => ?_) (fun hb138 => ?_)
     ·have H := ct H hb138
      refine In.run' 7 (k' := 12) rfl [(47, undef), (48, undef), (49, undef), (50, undef), (51, undef), (52, undef), (53, (.bool true))] (by kernel_rfl) ?_
      refine In.fin (by kernel_rfl) ?_
      exact ⟨true, ⟨(by kernel_rfl), (by kernel_rfl), (by kernel_rfl), trivial⟩, SP.sel hs51 [] rfl rfl, H⟩
     ·have H := cf H hb138
      refine In.run' 2 (k' := 7) rfl [(47, (.bool z39.2.2)), (48, (.bool z39.2.2))] (by kernel_rfl) ?_
      refine In.guard (t := 48) (b := z39.2.2) (by kernel_rfl) (fun hb139 => ?_) (fun hb139 => ?_)
      ·have H := ct H hb139
       refine In.step (k' := 8) rfl (by kernel_rfl) ?_
       refine Step.load (t := 24) (x := (.tmp 11)) (g := g45) (off := 0) (i := 1) (v := (.agg #[(.int .u32 z39.1), (.int .i64 z39.2.1)])) (d := (some 49)) (k := 7) (by kernel_rfl) rfl (by kernel_rfl) hs51 rfl (by kernel_rfl) ?_
       refine In.step (k' := 9) rfl (by kernel_rfl) ?_
       refine Step.load (t := 24) (x := (.tmp 4)) (g := g5) (off := 0) (i := 0) (v := (.agg #[(.int .u32 pAddr2), (.int .i64 pBits3)])) (d := (some 50)) (k := 8) (by kernel_rfl) rfl (by kernel_rfl) hs51 rfl (by kernel_rfl) ?_
       refine In.step (k' := 10) rfl (by kernel_rfl) ?_
       refine Step.bin (op := .neq) (T := 24) (T' := 24) (x := (.tmp 49)) (y := (.tmp 50)) (vx := (.agg #[(.int .u32 z39.1), (.int .i64 z39.2.1)])) (vy := (.agg #[(.int .u32 pAddr2), (.int .i64 pBits3)])) (v := (.bool (!((z39.1 == pAddr2) && (z39.2.1 == pBits3))))) (d := (some 51)) (k := 9) (by kernel_rfl) rfl (by kernel_rfl) (by kernel_rfl) (by clear H; intro w; simp only [beq_dec]; go_simp; simp only [struct_ifn, struct_ifn0, struct_if, beq_dec, Bool.and_true] <;> simp only [Bool.not_and]) ?_
       refine In.run' 2 (k' := 12) rfl [(52, (.bool (!((z39.1 == pAddr2) && (z39.2.1 == pBits3))))), (53, (.bool (!((z39.1 == pAddr2) && (z39.2.1 == pBits3)))))] (by kernel_rfl) ?_
       refine In.fin (by kernel_rfl) ?_
       exact ⟨(!((z39.1 == pAddr2) && (z39.2.1 == pBits3))), ⟨(by kernel_rfl), (by kernel_rfl), (by kernel_rfl), trivial⟩, SP.sel hs51 [] rfl rfl, H⟩
      ·have H := cf H hb139
       refine In.run' 5 (k' := 12) rfl [(49, undef), (50, undef), (51, undef), (52, (.bool false)), (53, (.bool false))] (by kernel_rfl) ?_
       refine In.fin (by kernel_rfl) ?_
       exact ⟨false, ⟨(by kernel_rfl), (by kernel_rfl), (by kernel_rfl), trivial⟩, SP.sel hs51 [] rfl rfl, H⟩
    ·rintro ρ w55 ⟨v54, hk, hs56, H⟩
     unfold L_subwaylaw04_SyntaxBack_k2 at H
     refine At.known [(2, (.string ⟨List.toArray p4⟩)), (7, (.bool z9)), (53, (.bool v54))] hk ?_
     refine At.cond (by kernel_rfl) (o := (.tmp 53)) (by kernel_rfl) (b := v54) (by kernel_rfl) (p0 := [true, true, true, true, true, true, true, false, true, false]) (p1 := [true, true, true, true, true, true, true, false, true, true]) rfl rfl (fun hb57 => ?_) (fun hb57 => ?_)
     ·have H := ct H hb57
      refine At.seq (by kernel_rfl) (p0 := [true, true, true, true, true, true, true, false, true, false, false]) (p1 := [true, true, true, true, true, true, true, false, true, false, true]) rfl rfl ?_
      refine At.region (by kernel_rfl) (by kernel_rfl) ?_
      refine In.run' 1 (k' := 1) rfl [(6, (.bool false))] (by kernel_rfl) ?_
      refine In.fin (by kernel_rfl) ?_
      refine At.ret (by kernel_rfl) ?_
      refine ⟨(.bool false), by kernel_rfl, ?_⟩
      obtain rfl := some_elim H
      exact ⟨rfl, SP.sel hs56 [] rfl rfl⟩
     ·have H := cf H hb57
      refine At.skip (by kernel_rfl) ?_
      refine At.seq (by kernel_rfl) (p0 := [true, true, true, true, true, true, true, true, false]) (p1 := [true, true, true, true, true, true, true, true, true]) rfl rfl ?_
      refine At.region (by kernel_rfl) (by kernel_rfl) ?_
      refine In.run' 1 (k' := 1) rfl [(55, (.string ⟨List.toArray p4⟩))] (by kernel_rfl) ?_
      obtain ⟨z58, hz59, H⟩ := bind_elim H
      refine In.step (k' := 2) rfl (by kernel_rfl) ?_
      refine Step.callF (f := 11) (fo := (.func 11)) (xs := #[(.tmp 55)]) (tys := #[9]) (first := #[]) (captured := #[]) (d := (some 56)) (k := 1) (by kernel_rfl) rfl (by kernel_rfl) (by kernel_rfl) Tryd.call11 (L_syntax_Addr_walk  p4 w55 (laid_below hL (SP.keeps hs56)) z58 hz59) ?_
      rintro e w60 ⟨rfl, hs61⟩
      refine ⟨_, rfl, ?_⟩
      have hs62 := SP.call hs56 hs61
      clear hs61
      have hs63 : SP [] w0 w60 [] := hs62
      clear hs62
      refine In.run' 5 (k' := 7) rfl [(54, (.tuple #[(.int .u32 z58.1), (.bool z58.2)])), (57, (.int .u32 z58.1)), (58, (.bool z58.2)), (13, (.int .u32 z58.1)), (14, (.bool z58.2))] (by kernel_rfl) ?_
      refine In.fin (by kernel_rfl) ?_
      refine At.seq (by kernel_rfl) (p0 := [true, true, true, true, true, true, true, true, true, false]) (p1 := [true, true, true, true, true, true, true, true, true, true]) rfl rfl ?_
      refine At.region (by kernel_rfl) (by kernel_rfl) ?_
      refine In.run' 1 (k' := 1) rfl [(60, (.string ⟨List.toArray p4⟩))] (by kernel_rfl) ?_
      obtain ⟨z64, hz65, H⟩ := bind_elim H
      refine In.step (k' := 2) rfl (by kernel_rfl) ?_
      refine Step.callF (f := 13) (fo := (.func 13)) (xs := #[(.tmp 60)]) (tys := #[9]) (first := #[]) (captured := #[]) (d := (some 61)) (k := 1) (by kernel_rfl) rfl (by kernel_rfl) (by kernel_rfl) Tryd.call13 (L_syntax_Net_walk  p4 w60 (laid_below hL (SP.keeps hs63)) z64 hz65) ?_
      rintro e w66 ⟨rfl, hs67⟩
      refine ⟨_, rfl, ?_⟩
      have hs68 := SP.call hs63 hs67
      clear hs67
      have hs69 : SP [] w0 w66 [] := hs68
      clear hs68
      refine In.run' 3 (k' := 5) rfl [(59, (.tuple #[(.agg #[(.int .u32 z64.1), (.int .i64 z64.2.1)]), (.bool z64.2.2)])), (62, (.agg #[(.int .u32 z64.1), (.int .i64 z64.2.1)])), (63, (.bool z64.2.2))] (by kernel_rfl) ?_
      refine In.step (k' := 6) rfl (by kernel_rfl) ?_
      refine Step.alloc (t := 24) (z := (.agg #[(.int .u32 0), (.int .i64 0)])) (d := (some 15)) (k := 5) (by kernel_rfl) rfl (by kernel_rfl) hs69 ?_
      intro g70 w71 hs72
      have hs73 : SP [] w0 w71 [boxE g70 24 #[(.int .u32 0), (.int .i64 0)]] := hs72
      clear hs72
      refine In.step (k' := 7) rfl (by kernel_rfl) ?_
      refine Step.store (t := 24) (x := (.tmp 15)) (y := (.tmp 62)) (g := g70) (off := 0) (i := 0) (v := (.agg #[(.int .u32 z64.1), (.int .i64 z64.2.1)])) (cs' := #[(.int .u32 z64.1), (.int .i64 z64.2.1)]) (d := none) (k := 6) (by kernel_rfl) rfl (by kernel_rfl) (by kernel_rfl) hs73 rfl (by kernel_rfl) ?_
      intro w74 hs75
      have hs76 : SP [] w0 w74 [boxE g70 24 #[(.int .u32 z64.1), (.int .i64 z64.2.1)]] := hs75
      clear hs75
      refine In.run' 1 (k' := 8) rfl [(16, (.bool z64.2.2))] (by kernel_rfl) ?_
      refine In.fin (by kernel_rfl) ?_
      refine At.seq (by kernel_rfl) (p0 := [true, true, true, true, true, true, true, true, true, true, false]) (p1 := [true, true, true, true, true, true, true, true, true, true, true]) rfl rfl ?_
      refine At.join (fun ρ w => ∃ (v106 : Bool), Known ρ [(6, (.bool v106))] ∧ SP [] w0 w [] ∧ L_subwaylaw04_SyntaxBack_k3 v106 = some r) ?_ ?_
      ·refine At.region (by kernel_rfl) (by kernel_rfl) ?_
       refine In.run' 2 (k' := 2) rfl [(64, (.bool z9)), (65, (.bool z9))] (by kernel_rfl) ?_
       refine In.guard (t := 65) (b := z9) (by kernel_rfl) (fun hb109 => ?_) (fun hb109 => ?_)
       ·have H := ct H hb109
        refine In.run' 3 (k' := 5) rfl [(66, (.bool z58.2)), (67, (.bool (!z58.2))), (68, (.bool (!z58.2)))] (by kernel_rfl) ?_
        refine In.guard (t := 68) (b := (!z58.2)) (by kernel_rfl) (fun hb110 => ?_) (fun hb110 => ?_)
        ·have H := ct H hb110
         refine In.run' 10 (k' := 15) rfl [(69, undef), (70, undef), (71, undef), (72, undef), (73, (.bool true)), (74, (.bool true)), (75, (.bool true)), (76, (.bool z64.2.2)), (77, (.bool (!z64.2.2))), (78, (.bool (!z64.2.2)))] (by kernel_rfl) ?_
         refine In.guard (t := 78) (b := (!z64.2.2)) (by kernel_rfl) (fun hb111 => ?_) (fun hb111 => ?_)
         ·have H := ct H hb111
          refine In.run' 9 (k' := 24) rfl [(79, undef), (80, undef), (81, undef), (82, undef), (83, (.bool true)), (84, (.bool true)), (85, (.bool true)), (86, (.bool z58.2)), (87, (.bool z58.2))] (by kernel_rfl) ?_
          refine In.guard (t := 87) (b := z58.2) (by kernel_rfl) (fun hb112 => ?_) (fun hb112 => ?_)
          ·have H := ct H hb112
           refine In.run' 5 (k' := 29) rfl [(88, (.bool z64.2.2)), (89, (.bool z64.2.2)), (90, (.bool (!z64.2.2))), (91, (.bool (!z64.2.2))), (6, (.bool (!z64.2.2)))] (by kernel_rfl) ?_
           refine In.fin (by kernel_rfl) ?_
           exact ⟨(!z64.2.2), ⟨(by kernel_rfl), trivial⟩, SP.sel hs76 [] rfl rfl, H⟩
          ·have H := cf H hb112
           refine In.run' 5 (k' := 29) rfl [(88, undef), (89, (.bool false)), (90, (.bool true)), (91, (.bool true)), (6, (.bool true))] (by kernel_rfl) ?_
           refine In.fin (by kernel_rfl) ?_
           exact ⟨true, ⟨(by kernel_rfl), trivial⟩, SP.sel hs76 [] rfl rfl, H⟩
         ·have H := cf H hb111
          refine In.step (k' := 16) rfl (by kernel_rfl) ?_
          refine Step.load (t := 24) (x := (.tmp 15)) (g := g70) (off := 0) (i := 0) (v := (.agg #[(.int .u32 z64.1), (.int .i64 z64.2.1)])) (d := (some 79)) (k := 15) (by kernel_rfl) rfl (by kernel_rfl) hs76 rfl (by kernel_rfl) ?_
          obtain ⟨z113, hz114, H⟩ := bind_elim H
          refine In.step (k' := 17) rfl (by kernel_rfl) ?_
          refine Step.callF (f := 19) (fo := (.func 19)) (xs := #[(.tmp 79)]) (tys := #[24]) (first := #[]) (captured := #[]) (d := (some 80)) (k := 16) (by kernel_rfl) rfl (by kernel_rfl) (by kernel_rfl) Tryd.call19 (L_syntax_Slash_walk  z64.1 z64.2.1 w74 (laid_below hL (SP.keeps hs76)) z113 hz114) ?_
          rintro e w115 ⟨rfl, hs116⟩
          refine ⟨_, rfl, ?_⟩
          have hs117 := SP.call hs76 hs116
          clear hs116
          have hs118 : SP [] w0 w115 [boxE g70 24 #[(.int .u32 z64.1), (.int .i64 z64.2.1)]] := hs117
          clear hs117
          refine In.run' 1 (k' := 18) rfl [(81, (.string ⟨List.toArray p4⟩))] (by kernel_rfl) ?_
          refine In.step (k' := 19) rfl (by kernel_rfl) ?_
          refine Step.strOp (op := .eql) (T := 9) (T' := 9) (x := (.tmp 80)) (y := (.tmp 81)) (a := z113) (b := p4) (r := (.bool (z113 == p4))) (d := (some 82)) (k := 18) (by kernel_rfl) rfl (by kernel_rfl) (by kernel_rfl) rfl ?_
          refine In.run' 3 (k' := 22) rfl [(83, (.bool (z113 == p4))), (84, (.bool (z113 == p4))), (85, (.bool (z113 == p4)))] (by kernel_rfl) ?_
          refine In.guard (t := 85) (b := (z113 == p4)) (by kernel_rfl) (fun hb119 => ?_) (fun hb119 => ?_)
          ·have H := ct H hb119
           refine In.run' 2 (k' := 24) rfl [(86, (.bool z58.2)), (87, (.bool z58.2))] (by kernel_rfl) ?_
           refine In.guard (t := 87) (b := z58.2) (by kernel_rfl) (fun hb120 => ?_) (fun hb120 => ?_)
           ·have H := ct H hb120
            refine In.run' 5 (k' := 29) rfl [(88, (.bool z64.2.2)), (89, (.bool z64.2.2)), (90, (.bool (!z64.2.2))), (91, (.bool (!z64.2.2))), (6, (.bool (!z64.2.2)))] (by kernel_rfl) ?_
            refine In.fin (by kernel_rfl) ?_
            exact ⟨(!z64.2.2), ⟨(by kernel_rfl), trivial⟩, SP.sel hs118 [] rfl rfl, H⟩
           ·have H := cf H hb120
            refine In.run' 5 (k' := 29) rfl [(88, undef), (89, (.bool false)), (90, (.bool true)), (91, (.bool true)), (6, (.bool true))] (by kernel_rfl) ?_
            refine In.fin (by kernel_rfl) ?_
            exact ⟨true, ⟨(by kernel_rfl), trivial⟩, SP.sel hs118 [] rfl rfl, H⟩
          ·have H := cf H hb119
           refine In.run' 7 (k' := 29) rfl [(86, undef), (87, undef), (88, undef), (89, undef), (90, undef), (91, (.bool false)), (6, (.bool false))] (by kernel_rfl) ?_
           refine In.fin (by kernel_rfl) ?_
           exact ⟨false, ⟨(by kernel_rfl), trivial⟩, SP.sel hs118 [] rfl rfl, H⟩
        ·have H := cf H hb110
         refine In.run' 1 (k' := 6) rfl [(69, (.int .u32 z58.1))] (by kernel_rfl) ?_
         obtain ⟨z121, hz122, H⟩ := bind_elim H
         refine In.step (k' := 7) rfl (by kernel_rfl) ?_
         refine Step.callF (f := 17) (fo := (.func 17)) (xs := #[(.tmp 69)]) (tys := #[22]) (first := #[]) (captured := #[]) (d := (some 70)) (k := 6) (by kernel_rfl) rfl (by kernel_rfl) (by kernel_rfl) Tryd.call17 (L_syntax_Dots_walk  z58.1 w74 (laid_below hL (SP.keeps hs76)) z121 hz122) ?_
         rintro e w123 ⟨rfl, hs124⟩
         refine ⟨_, rfl, ?_⟩
         have hs125 := SP.call hs76 hs124
         clear hs124
         have hs126 : SP [] w0 w123 [boxE g70 24 #[(.int .u32 z64.1), (.int .i64 z64.2.1)]] := hs125
         clear hs125
         refine In.run' 1 (k' := 8) rfl [(71, (.string ⟨List.toArray p4⟩))] (by kernel_rfl) ?_
         refine In.step (k' := 9) rfl (by kernel_rfl) ?_
         refine Step.strOp (op := .eql) (T := 9) (T' := 9) (x := (.tmp 70)) (y := (.tmp 71)) (a := z121) (b := p4) (r := (.bool (z121 == p4))) (d := (some 72)) (k := 8) (by kernel_rfl) rfl (by kernel_rfl) (by kernel_rfl) rfl ?_
         refine In.run' 3 (k' := 12) rfl [(73, (.bool (z121 == p4))), (74, (.bool (z121 == p4))), (75, (.bool (z121 == p4)))] (by kernel_rfl) ?_
         refine In.guard (t := 75) (b := (z121 == p4)) (by kernel_rfl) (fun hb127 => ?_) (fun hb127 => ?_)
         ·have H := ct H hb127
          refine In.run' 3 (k' := 15) rfl [(76, (.bool z64.2.2)), (77, (.bool (!z64.2.2))), (78, (.bool (!z64.2.2)))] (by kernel_rfl) ?_
          refine In.guard (t := 78) (b := (!z64.2.2)) (by kernel_rfl) (fun hb128 => ?_) (fun hb128 => ?_)
          ·have H := ct H hb128
           refine In.run' 9 (k' := 24) rfl [(79, undef), (80, undef), (81, undef), (82, undef), (83, (.bool true)), (84, (.bool true)), (85, (.bool true)), (86, (.bool z58.2)), (87, (.bool z58.2))] (by kernel_rfl) ?_
           refine In.guard (t := 87) (b := z58.2) (by kernel_rfl) (fun hb129 => ?_) (fun hb129 => ?_)
           ·have H := ct H hb129
            refine In.run' 5 (k' := 29) rfl [(88, (.bool z64.2.2)), (89, (.bool z64.2.2)), (90, (.bool (!z64.2.2))), (91, (.bool (!z64.2.2))), (6, (.bool (!z64.2.2)))] (by kernel_rfl) ?_
            refine In.fin (by kernel_rfl) ?_
            exact ⟨(!z64.2.2), ⟨(by kernel_rfl), trivial⟩, SP.sel hs126 [] rfl rfl, H⟩
           ·have H := cf H hb129
            refine In.run' 5 (k' := 29) rfl [(88, undef), (89, (.bool false)), (90, (.bool true)), (91, (.bool true)), (6, (.bool true))] (by kernel_rfl) ?_
            refine In.fin (by kernel_rfl) ?_
            exact ⟨true, ⟨(by kernel_rfl), trivial⟩, SP.sel hs126 [] rfl rfl, H⟩
          ·have H := cf H hb128
           refine In.step (k' := 16) rfl (by kernel_rfl) ?_
           refine Step.load (t := 24) (x := (.tmp 15)) (g := g70) (off := 0) (i := 0) (v := (.agg #[(.int .u32 z64.1), (.int .i64 z64.2.1)])) (d := (some 79)) (k := 15) (by kernel_rfl) rfl (by kernel_rfl) hs126 rfl (by kernel_rfl) ?_
           obtain ⟨z130, hz131, H⟩ := bind_elim H
           refine In.step (k' := 17) rfl (by kernel_rfl) ?_
           refine Step.callF (f := 19) (fo := (.func 19)) (xs := #[(.tmp 79)]) (tys := #[24]) (first := #[]) (captured := #[]) (d := (some 80)) (k := 16) (by kernel_rfl) rfl (by kernel_rfl) (by kernel_rfl) Tryd.call19 (L_syntax_Slash_walk  z64.1 z64.2.1 w123 (laid_below hL (SP.keeps hs126)) z130 hz131) ?_
           rintro e w132 ⟨rfl, hs133⟩
           refine ⟨_, rfl, ?_⟩
           have hs134 := SP.call hs126 hs133
           clear hs133
           have hs135 : SP [] w0 w132 [boxE g70 24 #[(.int .u32 z64.1), (.int .i64 z64.2.1)]] := hs134
           clear hs134
           refine In.run' 1 (k' := 18) rfl [(81, (.string ⟨List.toArray p4⟩))] (by kernel_rfl) ?_
           refine In.step (k' := 19) rfl (by kernel_rfl) ?_
           refine Step.strOp (op := .eql) (T := 9) (T' := 9) (x := (.tmp 80)) (y := (.tmp 81)) (a := z130) (b := p4) (r := (.bool (z130 == p4))) (d := (some 82)) (k := 18) (by kernel_rfl) rfl (by kernel_rfl) (by kernel_rfl) rfl ?_
           refine In.run' 3 (k' := 22) rfl [(83, (.bool (z130 == p4))), (84, (.bool (z130 == p4))), (85, (.bool (z130 == p4)))] (by kernel_rfl) ?_
           refine In.guard (t := 85) (b := (z130 == p4)) (by kernel_rfl) (fun hb136 => ?_) (fun hb136 => ?_)
           ·have H := ct H hb136
            refine In.run' 2 (k' := 24) rfl [(86, (.bool z58.2)), (87, (.bool z58.2))] (by kernel_rfl) ?_
            refine In.guard (t := 87) (b := z58.2) (by kernel_rfl) (fun hb137 => ?_) (fun hb137 => ?_)
            ·have H := ct H hb137
             refine In.run' 5 (k' := 29) rfl [(88, (.bool z64.2.2)), (89, (.bool z64.2.2)), (90, (.bool (!z64.2.2))), (91, (.bool (!z64.2.2))), (6, (.bool (!z64.2.2)))] (by kernel_rfl) ?_
             refine In.fin (by kernel_rfl) ?_
             exact ⟨(!z64.2.2), ⟨(by kernel_rfl), trivial⟩, SP.sel hs135 [] rfl rfl, H⟩
            ·have H := cf H hb137
             refine In.run' 5 (k' := 29) rfl [(88, undef), (89, (.bool false)), (90, (.bool true)), (91, (.bool true)), (6, (.bool true))] (by kernel_rfl) ?_
             refine In.fin (by kernel_rfl) ?_
             exact ⟨true, ⟨(by kernel_rfl), trivial⟩, SP.sel hs135 [] rfl rfl, H⟩
           ·have H := cf H hb136
            refine In.run' 7 (k' := 29) rfl [(86, undef), (87, undef), (88, undef), (89, undef), (90, undef), (91, (.bool false)), (6, (.bool false))] (by kernel_rfl) ?_
            refine In.fin (by kernel_rfl) ?_
            exact ⟨false, ⟨(by kernel_rfl), trivial⟩, SP.sel hs135 [] rfl rfl, H⟩
         ·have H := cf H hb127
          refine In.run' 17 (k' := 29) rfl [(76, undef), (77, undef), (78, undef), (79, undef), (80, undef), (81, undef), (82, undef), (83, undef), (84, (.bool false)), (85, (.bool false)), (86, undef), (87, undef), (88, undef), (89, undef), (90, undef), (91, (.bool false)), (6, (.bool false))] (by kernel_rfl) ?_
          refine In.fin (by kernel_rfl) ?_
          exact ⟨false, ⟨(by kernel_rfl), trivial⟩, SP.sel hs126 [] rfl rfl, H⟩
       ·have H := cf H hb109
        refine In.run' 27 (k' := 29) rfl [(66, undef), (67, undef), (68, undef), (69, undef), (70, undef), (71, undef), (72, undef), (73, undef), (74, (.bool false)), (75, (.bool false)), (76, undef), (77, undef), (78, undef), (79, undef), (80, undef), (81, undef), (82, undef), (83, undef), (84, (.bool false)), (85, (.bool false)), (86, undef), (87, undef), (88, undef), (89, undef), (90, undef), (91, (.bool false)), (6, (.bool false))] (by kernel_rfl) ?_
        refine In.fin (by kernel_rfl) ?_
        exact ⟨false, ⟨(by kernel_rfl), trivial⟩, SP.sel hs76 [] rfl rfl, H⟩
      ·rintro ρ w107 ⟨v106, hk, hs108, H⟩
       unfold L_subwaylaw04_SyntaxBack_k3 at H
       refine At.known [(6, (.bool v106))] hk ?_
       refine At.ret (by kernel_rfl) ?_
       refine ⟨(.bool v106), by kernel_rfl, ?_⟩
       obtain rfl := some_elim H
       exact ⟨rfl, SP.sel hs108 [] rfl rfl⟩
end Go.Proofs.YthnakiihenbcjaaDoor
