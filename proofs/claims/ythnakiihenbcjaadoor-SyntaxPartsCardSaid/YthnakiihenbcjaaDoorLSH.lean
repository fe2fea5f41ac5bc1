/- LIFTED BY PROGRAM (tools/lift.py): what functions compute, and that they do. -/
import Derived.Test.YthnakiihenbcjaaDoorLS
import Derived.Test.YthnakiihenbcjaaDoorLR4
namespace Go.Proofs.YthnakiihenbcjaaDoor
set_option linter.unusedSimpArgs false
set_option linter.unusedVariables false
open Go.RowKit

/-! L_subwaylaw04_head -/
def L_subwaylaw04_head_k1 (v93 : Bool) : Option (Bool) :=
  (some (v93))
def L_subwaylaw04_head  : Option (Bool) :=
  ((L_syntax_Addr ([49, 48, 46, 49, 46, 50, 46, 51] : List UInt8)).bind fun z1 => ((L_syntax_Net ([49, 48, 46, 49, 46, 48, 46, 48, 47, 49, 54] : List UInt8)).bind fun z7 => ((L_syntax_Net ([49, 48, 46, 49, 46, 50, 46, 48, 47, 49, 54] : List UInt8)).bind fun z20 => ((L_syntax_Addr ([49, 48, 46, 49, 46, 50, 46, 48, 51] : List UInt8)).bind fun z33 => (cond z1.2 (cond (z1.1 == 167838211) (cond z7.2.2 (cond (z7.2.1 == 16) ((L_syntax_In z7.1 z7.2.1 z1.1).bind fun z100 => (cond z100 ((L_syntax_In z7.1 z7.2.1 167903747).bind fun z107 => (cond (!z107) (cond (!z20.2.2) (cond (!z33.2) ((L_syntax_Slash z7.1 z7.2.1).bind fun z116 => (cond (z116 == ([49, 48, 46, 49, 46, 48, 46, 48, 47, 49, 54] : List UInt8)) ((L_syntax_Dots z1.1).bind fun z123 => (cond (z123 == ([49, 48, 46, 49, 46, 50, 46, 51] : List UInt8)) ((L_syntax_Name ([97, 45, 49] : List UInt8)).bind fun z130 => (cond z130 ((L_syntax_Name ([45, 97] : List UInt8)).bind fun z137 => (cond (!z137) ((L_syntax_Name ([] : List UInt8)).bind fun z144 => (L_subwaylaw04_head_k1 (!z144))) (L_subwaylaw04_head_k1 false))) (L_subwaylaw04_head_k1 false))) (L_subwaylaw04_head_k1 false))) (L_subwaylaw04_head_k1 false))) (L_subwaylaw04_head_k1 false)) (L_subwaylaw04_head_k1 false)) (L_subwaylaw04_head_k1 false))) (L_subwaylaw04_head_k1 false))) (L_subwaylaw04_head_k1 false)) (L_subwaylaw04_head_k1 false)) (L_subwaylaw04_head_k1 false)) (L_subwaylaw04_head_k1 false))))))
set_option maxRecDepth 100000 in
set_option maxHeartbeats 4000000 in
theorem L_subwaylaw04_head_walk   (w0 : World) (hL : LaidW w0)  (r : (Bool)) (H : L_subwaylaw04_head  = some r) :
  Calls Tryd.prog 10 #[] w0 (fun e w' => e = .returned (.bool r) ∧ SP [] w0 w' []) := by
 unfold L_subwaylaw04_head at H
 refine calls_start (n := 77) Tryd.func10 (by kernel_rfl) (by kernel_rfl) (by kernel_rfl) ?_
 have hs0 := SP.start [] w0
 refine At.seq (by kernel_rfl) (p0 := [false]) (p1 := [true]) rfl rfl ?_
 refine At.region (by kernel_rfl) (by kernel_rfl) ?_
 refine In.run' 1 (k' := 1) rfl [(0, (.bool false))] (by kernel_rfl) ?_
 refine In.fin (by kernel_rfl) ?_
 refine At.seq (by kernel_rfl) (p0 := [true, false]) (p1 := [true, true]) rfl rfl ?_
 refine At.region (by kernel_rfl) (by kernel_rfl) ?_
 obtain ⟨z1, hz2, H⟩ := bind_elim H
 refine In.step (k' := 1) rfl (by kernel_rfl) ?_
 refine Step.callF (f := 11) (fo := (.func 11)) (xs := #[(.const (.string ⟨List.toArray ([49, 48, 46, 49, 46, 50, 46, 51] : List UInt8)⟩))]) (tys := #[9]) (first := #[]) (captured := #[]) (d := (some 10)) (k := 0) (by kernel_rfl) rfl (by kernel_rfl) (by kernel_rfl) Tryd.call11 (L_syntax_Addr_walk  ([49, 48, 46, 49, 46, 50, 46, 51] : List UInt8) w0 (laid_below hL (SP.keeps hs0)) z1 hz2) ?_
 rintro e w3 ⟨rfl, hs4⟩
 refine ⟨_, rfl, ?_⟩
 have hs5 := SP.call hs0 hs4
 clear hs4
 have hs6 : SP [] w0 w3 [] := hs5
 clear hs5
 refine In.run' 5 (k' := 6) rfl [(9, (.tuple #[(.int .u32 z1.1), (.bool z1.2)])), (11, (.int .u32 z1.1)), (12, (.bool z1.2)), (1, (.int .u32 z1.1)), (2, (.bool z1.2))] (by kernel_rfl) ?_
 refine In.fin (by kernel_rfl) ?_
 refine At.seq (by kernel_rfl) (p0 := [true, true, false]) (p1 := [true, true, true]) rfl rfl ?_
 refine At.region (by kernel_rfl) (by kernel_rfl) ?_
 obtain ⟨z7, hz8, H⟩ := bind_elim H
 refine In.step (k' := 1) rfl (by kernel_rfl) ?_
 refine Step.callF (f := 13) (fo := (.func 13)) (xs := #[(.const (.string ⟨List.toArray ([49, 48, 46, 49, 46, 48, 46, 48, 47, 49, 54] : List UInt8)⟩))]) (tys := #[9]) (first := #[]) (captured := #[]) (d := (some 14)) (k := 0) (by kernel_rfl) rfl (by kernel_rfl) (by kernel_rfl) Tryd.call13 (L_syntax_Net_walk  ([49, 48, 46, 49, 46, 48, 46, 48, 47, 49, 54] : List UInt8) w3 (laid_below hL (SP.keeps hs6)) z7 hz8) ?_
 rintro e w9 ⟨rfl, hs10⟩
 refine ⟨_, rfl, ?_⟩
 have hs11 := SP.call hs6 hs10
 clear hs10
 have hs12 : SP [] w0 w9 [] := hs11
 clear hs11
 refine In.run' 3 (k' := 4) rfl [(13, (.tuple #[(.agg #[(.int .u32 z7.1), (.int .i64 z7.2.1)]), (.bool z7.2.2)])), (15, (.agg #[(.int .u32 z7.1), (.int .i64 z7.2.1)])), (16, (.bool z7.2.2))] (by kernel_rfl) ?_
 refine In.step (k' := 5) rfl (by kernel_rfl) ?_
 refine Step.alloc (t := 24) (z := (.agg #[(.int .u32 0), (.int .i64 0)])) (d := (some 3)) (k := 4) (by kernel_rfl) rfl (by kernel_rfl) hs12 ?_
 intro g13 w14 hs15
 have hs16 : SP [] w0 w14 [boxE g13 24 #[(.int .u32 0), (.int .i64 0)]] := hs15
 clear hs15
 refine In.step (k' := 6) rfl (by kernel_rfl) ?_
 refine Step.store (t := 24) (x := (.tmp 3)) (y := (.tmp 15)) (g := g13) (off := 0) (i := 0) (v := (.agg #[(.int .u32 z7.1), (.int .i64 z7.2.1)])) (cs' := #[(.int .u32 z7.1), (.int .i64 z7.2.1)]) (d := none) (k := 5) (by kernel_rfl) rfl (by kernel_rfl) (by kernel_rfl) hs16 rfl (by kernel_rfl) ?_
 intro w17 hs18
 have hs19 : SP [] w0 w17 [boxE g13 24 #[(.int .u32 z7.1), (.int .i64 z7.2.1)]] := hs18
 clear hs18
 refine In.run' 1 (k' := 7) rfl [(4, (.bool z7.2.2))] (by kernel_rfl) ?_
 refine In.fin (by kernel_rfl) ?_
 refine At.seq (by kernel_rfl) (p0 := [true, true, true, false]) (p1 := [true, true, true, true]) rfl rfl ?_
 refine At.region (by kernel_rfl) (by kernel_rfl) ?_
 obtain ⟨z20, hz21, H⟩ := bind_elim H
 refine In.step (k' := 1) rfl (by kernel_rfl) ?_
 refine Step.callF (f := 13) (fo := (.func 13)) (xs := #[(.const (.string ⟨List.toArray ([49, 48, 46, 49, 46, 50, 46, 48, 47, 49, 54] : List UInt8)⟩))]) (tys := #[9]) (first := #[]) (captured := #[]) (d := (some 18)) (k := 0) (by kernel_rfl) rfl (by kernel_rfl) (by kernel_rfl) Tryd.call13 (L_syntax_Net_walk  ([49, 48, 46, 49, 46, 50, 46, 48, 47, 49, 54] : List UInt8) w17 (laid_below hL (SP.keeps hs19)) z20 hz21) ?_
 rintro e w22 ⟨rfl, hs23⟩
 refine ⟨_, rfl, ?_⟩
 have hs24 := SP.call hs19 hs23
 clear hs23
 have hs25 : SP [] w0 w22 [boxE g13 24 #[(.int .u32 z7.1), (.int .i64 z7.2.1)]] := hs24
 clear hs24
 refine In.run' 3 (k' := 4) rfl [(17, (.tuple #[(.agg #[(.int .u32 z20.1), (.int .i64 z20.2.1)]), (.bool z20.2.2)])), (19, (.agg #[(.int .u32 z20.1), (.int .i64 z20.2.1)])), (20, (.bool z20.2.2))] (by kernel_rfl) ?_
 refine In.step (k' := 5) rfl (by kernel_rfl) ?_
 refine Step.alloc (t := 24) (z := (.agg #[(.int .u32 0), (.int .i64 0)])) (d := (some 5)) (k := 4) (by kernel_rfl) rfl (by kernel_rfl) hs25 ?_
 intro g26 w27 hs28
 have hs29 : SP [] w0 w27 [boxE g13 24 #[(.int .u32 z7.1), (.int .i64 z7.2.1)], boxE g26 24 #[(.int .u32 0), (.int .i64 0)]] := hs28
 clear hs28
 refine In.step (k' := 6) rfl (by kernel_rfl) ?_
 refine Step.store (t := 24) (x := (.tmp 5)) (y := (.tmp 19)) (g := g26) (off := 0) (i := 1) (v := (.agg #[(.int .u32 z20.1), (.int .i64 z20.2.1)])) (cs' := #[(.int .u32 z20.1), (.int .i64 z20.2.1)]) (d := none) (k := 5) (by kernel_rfl) rfl (by kernel_rfl) (by kernel_rfl) hs29 rfl (by kernel_rfl) ?_
 intro w30 hs31
 have hs32 : SP [] w0 w30 [boxE g13 24 #[(.int .u32 z7.1), (.int .i64 z7.2.1)], boxE g26 24 #[(.int .u32 z20.1), (.int .i64 z20.2.1)]] := hs31
 clear hs31
 refine In.run' 1 (k' := 7) rfl [(6, (.bool z20.2.2))] (by kernel_rfl) ?_
 refine In.fin (by kernel_rfl) ?_
 refine At.seq (by kernel_rfl) (p0 := [true, true, true, true, false]) (p1 := [true, true, true, true, true]) rfl rfl ?_
 refine At.region (by kernel_rfl) (by kernel_rfl) ?_
 obtain ⟨z33, hz34, H⟩ := bind_elim H
 refine In.step (k' := 1) rfl (by kernel_rfl) ?_
 refine Step.callF (f := 11) (fo := (.func 11)) (xs := #[(.const (.string ⟨List.toArray ([49, 48, 46, 49, 46, 50, 46, 48, 51] : List UInt8)⟩))]) (tys := #[9]) (first := #[]) (captured := #[]) (d := (some 22)) (k := 0) (by kernel_rfl) rfl (by kernel_rfl) (by kernel_rfl) Tryd.call11 (L_syntax_Addr_walk  ([49, 48, 46, 49, 46, 50, 46, 48, 51] : List UInt8) w30 (laid_below hL (SP.keeps hs32)) z33 hz34) ?_
 rintro e w35 ⟨rfl, hs36⟩
 refine ⟨_, rfl, ?_⟩
 have hs37 := SP.call hs32 hs36
 clear hs36
 have hs38 : SP [] w0 w35 [boxE g13 24 #[(.int .u32 z7.1), (.int .i64 z7.2.1)], boxE g26 24 #[(.int .u32 z20.1), (.int .i64 z20.2.1)]] := hs37
 clear hs37
 refine In.run' 5 (k' := 6) rfl [(21, (.tuple #[(.int .u32 z33.1), (.bool z33.2)])), (23, (.int .u32 z33.1)), (24, (.bool z33.2)), (7, (.int .u32 z33.1)), (8, (.bool z33.2))] (by kernel_rfl) ?_
 refine In.fin (by kernel_rfl) ?_
 refine At.seq (by kernel_rfl) (p0 := [true, true, true, true, true, false]) (p1 := [true, true, true, true, true, true]) rfl rfl ?_
 refine At.join (fun ρ w => ∃ (v93 : Bool), Known ρ [(0, (.bool v93))] ∧ SP [] w0 w [] ∧ L_subwaylaw04_head_k1 v93 = some r) ?_ ?_
 ·refine At.region (by kernel_rfl) (by kernel_rfl) ?_
  refine In.run' 2 (k' := 2) rfl [(25, (.bool z1.2)), (26, (.bool z1.2))] (by kernel_rfl) ?_
  refine In.guard (t := 26) (b := z1.2) (by kernel_rfl) (fun hb96 => ?_) (fun hb96 => ?_)
  ·have H := ct H hb96
   refine In.run' 4 (k' := 6) rfl [(27, (.int .u32 z1.1)), (28, (.bool (z1.1 == 167838211))), (29, (.bool (z1.1 == 167838211))), (30, (.bool (z1.1 == 167838211)))] (by kernel_rfl) ?_
   refine In.guard (t := 30) (b := (z1.1 == 167838211)) (by kernel_rfl) (fun hb97 => ?_) (fun hb97 => ?_)
   ·have H := ct H hb97
    refine In.run' 3 (k' := 9) rfl [(31, (.bool z7.2.2)), (32, (.bool z7.2.2)), (33, (.bool z7.2.2))] (by kernel_rfl) ?_
    refine In.guard (t := 33) (b := z7.2.2) (by kernel_rfl) (fun hb98 => ?_) (fun hb98 => ?_)
    ·have H := ct H hb98
     refine In.run' 1 (k' := 10) rfl [(34, (.pointer (some ⟨g13, 1, none⟩)))] (by kernel_rfl) ?_
     refine In.step (k' := 11) rfl (by kernel_rfl) ?_
     refine Step.load (t := 3) (x := (.tmp 34)) (g := g13) (off := 1) (i := 0) (v := (.int .i64 z7.2.1)) (d := (some 35)) (k := 10) (by kernel_rfl) rfl (by kernel_rfl) hs38 rfl (by kernel_rfl) ?_
     refine In.run' 3 (k' := 14) rfl [(36, (.bool (z7.2.1 == 16))), (37, (.bool (z7.2.1 == 16))), (38, (.bool (z7.2.1 == 16)))] (by kernel_rfl) ?_
     refine In.guard (t := 38) (b := (z7.2.1 == 16)) (by kernel_rfl) (fun hb99 => ?_) (fun hb99 => ?_)
     ·have H := ct H hb99
      refine In.step (k' := 15) rfl (by kernel_rfl) ?_
      refine Step.load (t := 24) (x := (.tmp 3)) (g := g13) (off := 0) (i := 0) (v := (.agg #[(.int .u32 z7.1), (.int .i64 z7.2.1)])) (d := (some 39)) (k := 14) (by kernel_rfl) rfl (by kernel_rfl) hs38 rfl (by kernel_rfl) ?_
      refine In.run' 1 (k' := 16) rfl [(40, (.int .u32 z1.1))] (by kernel_rfl) ?_
      obtain ⟨z100, hz101, H⟩ := bind_elim H
      refine In.step (k' := 17) rfl (by kernel_rfl) ?_
      refine Step.callF (f := 21) (fo := (.func 21)) (xs := #[(.tmp 39), (.tmp 40)]) (tys := #[24, 22]) (first := #[]) (captured := #[]) (d := (some 41)) (k := 16) (by kernel_rfl) rfl (by kernel_rfl) (by kernel_rfl) Tryd.call21 (L_syntax_In_walk  z7.1 z7.2.1 z1.1 w35  z100 hz101) ?_
      rintro e w102 ⟨rfl, hs103⟩
      refine ⟨_, rfl, ?_⟩
      have hs104 := SP.call hs38 hs103
      clear hs103
      have hs105 : SP [] w0 w102 [boxE g13 24 #[(.int .u32 z7.1), (.int .i64 z7.2.1)], boxE g26 24 #[(.int .u32 z20.1), (.int .i64 z20.2.1)]] := hs104
      clear hs104
      refine In.run' 2 (k' := 19) rfl [(42, (.bool z100)), (43, (.bool z100))] (by kernel_rfl) ?_
      refine In.guard (t := 43) (b := z100) (by kernel_rfl) (fun hb106 => ?_) (fun hb106 => ?_)
      ·have H := ct H hb106
       refine In.step (k' := 20) rfl (by kernel_rfl) ?_
       refine Step.load (t := 24) (x := (.tmp 3)) (g := g13) (off := 0) (i := 0) (v := (.agg #[(.int .u32 z7.1), (.int .i64 z7.2.1)])) (d := (some 44)) (k := 19) (by kernel_rfl) rfl (by kernel_rfl) hs105 rfl (by kernel_rfl) ?_
       obtain ⟨z107, hz108, H⟩ := bind_elim H
       refine In.step (k' := 21) rfl (by kernel_rfl) ?_
       refine Step.callF (f := 21) (fo := (.func 21)) (xs := #[(.tmp 44), (.const (.int .u32 (167903747)))]) (tys := #[24, 22]) (first := #[]) (captured := #[]) (d := (some 45)) (k := 20) (by kernel_rfl) rfl (by kernel_rfl) (by kernel_rfl) Tryd.call21 (L_syntax_In_walk  z7.1 z7.2.1 167903747 w102  z107 hz108) ?_
       rintro e w109 ⟨rfl, hs110⟩
       refine ⟨_, rfl, ?_⟩
       have hs111 := SP.call hs105 hs110
       clear hs110
       have hs112 : SP [] w0 w109 [boxE g13 24 #[(.int .u32 z7.1), (.int .i64 z7.2.1)], boxE g26 24 #[(.int .u32 z20.1), (.int .i64 z20.2.1)]] := hs111
       clear hs111
       refine In.run' 3 (k' := 24) rfl [(46, (.bool (!z107))), (47, (.bool (!z107))), (48, (.bool (!z107)))] (by kernel_rfl) ?_
       refine In.guard (t := 48) (b := (!z107)) (by kernel_rfl) (fun hb113 => ?_) (fun hb113 => ?_)
       ·have H := ct H hb113
        refine In.run' 4 (k' := 28) rfl [(49, (.bool z20.2.2)), (50, (.bool (!z20.2.2))), (51, (.bool (!z20.2.2))), (52, (.bool (!z20.2.2)))] (by kernel_rfl) ?_
        refine In.guard (t := 52) (b := (!z20.2.2)) (by kernel_rfl) (fun hb114 => ?_) (fun hb114 => ?_)
        ·have H := ct H hb114
         refine In.run' 4 (k' := 32) rfl [(53, (.bool z33.2)), (54, (.bool (!z33.2))), (55, (.bool (!z33.2))), (56, (.bool (!z33.2)))] (by kernel_rfl) ?_
         refine In.guard (t := 56) (b := (!z33.2)) (by kernel_rfl) (fun hb115 => ?_) (fun hb115 => ?_)
         ·have H := ct H hb115
          refine In.step (k' := 33) rfl (by kernel_rfl) ?_
          refine Step.load (t := 24) (x := (.tmp 3)) (g := g13) (off := 0) (i := 0) (v := (.agg #[(.int .u32 z7.1), (.int .i64 z7.2.1)])) (d := (some 57)) (k := 32) (by kernel_rfl) rfl (by kernel_rfl) hs112 rfl (by kernel_rfl) ?_
          obtain ⟨z116, hz117, H⟩ := bind_elim H
          refine In.step (k' := 34) rfl (by kernel_rfl) ?_
          refine Step.callF (f := 19) (fo := (.func 19)) (xs := #[(.tmp 57)]) (tys := #[24]) (first := #[]) (captured := #[]) (d := (some 58)) (k := 33) (by kernel_rfl) rfl (by kernel_rfl) (by kernel_rfl) Tryd.call19 (L_syntax_Slash_walk  z7.1 z7.2.1 w109 (laid_below hL (SP.keeps hs112)) z116 hz117) ?_
          rintro e w118 ⟨rfl, hs119⟩
          refine ⟨_, rfl, ?_⟩
          have hs120 := SP.call hs112 hs119
          clear hs119
          have hs121 : SP [] w0 w118 [boxE g13 24 #[(.int .u32 z7.1), (.int .i64 z7.2.1)], boxE g26 24 #[(.int .u32 z20.1), (.int .i64 z20.2.1)]] := hs120
          clear hs120
          refine In.step (k' := 35) rfl (by kernel_rfl) ?_
          refine Step.strOp (op := .eql) (T := 9) (T' := 9) (x := (.tmp 58)) (y := (.const (.string ⟨List.toArray ([49, 48, 46, 49, 46, 48, 46, 48, 47, 49, 54] : List UInt8)⟩))) (a := z116) (b := ([49, 48, 46, 49, 46, 48, 46, 48, 47, 49, 54] : List UInt8)) (r := (.bool (z116 == ([49, 48, 46, 49, 46, 48, 46, 48, 47, 49, 54] : List UInt8)))) (d := (some 59)) (k := 34) (by kernel_rfl) rfl (by kernel_rfl) (by kernel_rfl) rfl ?_
          refine In.run' 2 (k' := 37) rfl [(60, (.bool (z116 == ([49, 48, 46, 49, 46, 48, 46, 48, 47, 49, 54] : List UInt8)))), (61, (.bool (z116 == ([49, 48, 46, 49, 46, 48, 46, 48, 47, 49, 54] : List UInt8))))] (by kernel_rfl) ?_
          refine In.guard (t := 61) (b := (z116 == ([49, 48, 46, 49, 46, 48, 46, 48, 47, 49, 54] : List UInt8))) (by kernel_rfl) (fun hb122 => ?_) (fun hb122 => ?_)
          ·have H := ct H hb122
           refine In.run' 1 (k' := 38) rfl [(62, (.int .u32 z1.1))] (by kernel_rfl) ?_
           obtain ⟨z123, hz124, H⟩ := bind_elim H
           refine In.step (k' := 39) rfl (by kernel_rfl) ?_
           refine Step.callF (f := 17) (fo := (.func 17)) (xs := #[(.tmp 62)]) (tys := #[22]) (first := #[]) (captured := #[]) (d := (some 63)) (k := 38) (by kernel_rfl) rfl (by kernel_rfl) (by kernel_rfl) Tryd.call17 (L_syntax_Dots_walk  z1.1 w118 (laid_below hL (SP.keeps hs121)) z123 hz124) ?_
           rintro e w125 ⟨rfl, hs126⟩
           refine ⟨_, rfl, ?_⟩
           have hs127 := SP.call hs121 hs126
           clear hs126
           have hs128 : SP [] w0 w125 [boxE g13 24 #[(.int .u32 z7.1), (.int .i64 z7.2.1)], boxE g26 24 #[(.int .u32 z20.1), (.int .i64 z20.2.1)]] := hs127
           clear hs127
           refine In.step (k' := 40) rfl (by kernel_rfl) ?_
           refine Step.strOp (op := .eql) (T := 9) (T' := 9) (x := (.tmp 63)) (y := (.const (.string ⟨List.toArray ([49, 48, 46, 49, 46, 50, 46, 51] : List UInt8)⟩))) (a := z123) (b := ([49, 48, 46, 49, 46, 50, 46, 51] : List UInt8)) (r := (.bool (z123 == ([49, 48, 46, 49, 46, 50, 46, 51] : List UInt8)))) (d := (some 64)) (k := 39) (by kernel_rfl) rfl (by kernel_rfl) (by kernel_rfl) rfl ?_
           refine In.run' 2 (k' := 42) rfl [(65, (.bool (z123 == ([49, 48, 46, 49, 46, 50, 46, 51] : List UInt8)))), (66, (.bool (z123 == ([49, 48, 46, 49, 46, 50, 46, 51] : List UInt8))))] (by kernel_rfl) ?_
           refine In.guard (t := 66) (b := (z123 == ([49, 48, 46, 49, 46, 50, 46, 51] : List UInt8))) (by kernel_rfl) (fun hb129 => ?_) (fun hb129 => ?_)
           ·have H := ct H hb129
            obtain ⟨z130, hz131, H⟩ := bind_elim H
            refine In.step (k' := 43) rfl (by kernel_rfl) ?_
            refine Step.callF (f := 15) (fo := (.func 15)) (xs := #[(.const (.string ⟨List.toArray ([97, 45, 49] : List UInt8)⟩))]) (tys := #[9]) (first := #[]) (captured := #[]) (d := (some 67)) (k := 42) (by kernel_rfl) rfl (by kernel_rfl) (by kernel_rfl) Tryd.call15 (L_syntax_Name_walk  ([97, 45, 49] : List UInt8) w125  z130 hz131) ?_
            rintro e w132 ⟨rfl, hs133⟩
            refine ⟨_, rfl, ?_⟩
            have hs134 := SP.call hs128 hs133
            clear hs133
            have hs135 : SP [] w0 w132 [boxE g13 24 #[(.int .u32 z7.1), (.int .i64 z7.2.1)], boxE g26 24 #[(.int .u32 z20.1), (.int .i64 z20.2.1)]] := hs134
            clear hs134
            refine In.run' 2 (k' := 45) rfl [(68, (.bool z130)), (69, (.bool z130))] (by kernel_rfl) ?_
            refine In.guard (t := 69) (b := z130) (by kernel_rfl) (fun hb136 => ?_) (fun hb136 => ?_)
            ·have H := ct H hb136
             obtain ⟨z137, hz138, H⟩ := bind_elim H
             refine In.step (k' := 46) rfl (by kernel_rfl) ?_
             refine Step.callF (f := 15) (fo := (.func 15)) (xs := #[(.const (.string ⟨List.toArray ([45, 97] : List UInt8)⟩))]) (tys := #[9]) (first := #[]) (captured := #[]) (d := (some 70)) (k := 45) (by kernel_rfl) rfl (by kernel_rfl) (by kernel_rfl) Tryd.call15 (L_syntax_Name_walk  ([45, 97] : List UInt8) w132  z137 hz138) ?_
             rintro e w139 ⟨rfl, hs140⟩
             refine ⟨_, rfl, ?_⟩
             have hs141 := SP.call hs135 hs140
             clear hs140
             have hs142 : SP [] w0 w139 [boxE g13 24 #[(.int .u32 z7.1), (.int .i64 z7.2.1)], boxE g26 24 #[(.int .u32 z20.1), (.int .i64 z20.2.1)]] := hs141
             clear hs141
             refine In.run' 3 (k' := 49) rfl [(71, (.bool (!z137))), (72, (.bool (!z137))), (73, (.bool (!z137)))] (by kernel_rfl) ?_
             refine In.guard (t := 73) (b := (!z137)) (by kernel_rfl) (fun hb143 => ?_) (fun hb143 => ?_)
             ·have H := ct H hb143
              obtain ⟨z144, hz145, H⟩ := bind_elim H
              refine In.step (k' := 50) rfl (by kernel_rfl) ?_
              refine Step.callF (f := 15) (fo := (.func 15)) (xs := #[(.const (.string ⟨List.toArray ([] : List UInt8)⟩))]) (tys := #[9]) (first := #[]) (captured := #[]) (d := (some 74)) (k := 49) (by kernel_rfl) rfl (by kernel_rfl) (by kernel_rfl) Tryd.call15 (L_syntax_Name_walk  ([] : List UInt8) w139  z144 hz145) ?_
              rintro e w146 ⟨rfl, hs147⟩
              refine ⟨_, rfl, ?_⟩
              have hs148 := SP.call hs142 hs147
              clear hs147
              have hs149 : SP [] w0 w146 [boxE g13 24 #[(.int .u32 z7.1), (.int .i64 z7.2.1)], boxE g26 24 #[(.int .u32 z20.1), (.int .i64 z20.2.1)]] := hs148
              clear hs148
              refine In.run' 3 (k' := 53) rfl [(75, (.bool (!z144))), (76, (.bool (!z144))), (0, (.bool (!z144)))] (by kernel_rfl) ?_
              refine In.fin (by kernel_rfl) ?_
              exact ⟨(!z144), ⟨(by kernel_rfl), trivial⟩, SP.sel hs149 [] rfl rfl, H⟩
             ·have H := cf H hb143
              refine In.run' 4 (k' := 53) rfl [(74, undef), (75, undef), (76, (.bool false)), (0, (.bool false))] (by kernel_rfl) ?_
              refine In.fin (by kernel_rfl) ?_
              exact ⟨false, ⟨(by kernel_rfl), trivial⟩, SP.sel hs142 [] rfl rfl, H⟩
            ·have H := cf H hb136
             refine In.run' 8 (k' := 53) rfl [(70, undef), (71, undef), (72, (.bool false)), (73, (.bool false)), (74, undef), (75, undef), (76, (.bool false)), (0, (.bool false))] (by kernel_rfl) ?_
             refine In.fin (by kernel_rfl) ?_
             exact ⟨false, ⟨(by kernel_rfl), trivial⟩, SP.sel hs135 [] rfl rfl, H⟩
           ·have H := cf H hb129
            refine In.run' 11 (k' := 53) rfl [(67, undef), (68, (.bool false)), (69, (.bool false)), (70, undef), (71, undef), (72, (.bool false)), (73, (.bool false)), (74, undef), (75, undef), (76, (.bool false)), (0, (.bool false))] (by kernel_rfl) ?_
            refine In.fin (by kernel_rfl) ?_
            exact ⟨false, ⟨(by kernel_rfl), trivial⟩, SP.sel hs128 [] rfl rfl, H⟩
          ·have H := cf H hb122
           refine In.run' 16 (k' := 53) rfl [(62, undef), (63, undef), (64, undef), (65, (.bool false)), (66, (.bool false)), (67, undef), (68, (.bool false)), (69, (.bool false)), (70, undef), (71, undef), (72, (.bool false)), (73, (.bool false)), (74, undef), (75, undef), (76, (.bool false)), (0, (.bool false))] (by kernel_rfl) ?_
           refine In.fin (by kernel_rfl) ?_
           exact ⟨false, ⟨(by kernel_rfl), trivial⟩, SP.sel hs121 [] rfl rfl, H⟩
         ·have H := cf H hb115
          refine In.run' 21 (k' := 53) rfl [(57, undef), (58, undef), (59, undef), (60, (.bool false)), (61, (.bool false)), (62, undef), (63, undef), (64, undef), (65, (.bool false)), (66, (.bool false)), (67, undef), (68, (.bool false)), (69, (.bool false)), (70, undef), (71, undef), (72, (.bool false)), (73, (.bool false)), (74, undef), (75, undef), (76, (.bool false)), (0, (.bool false))] (by kernel_rfl) ?_
          refine In.fin (by kernel_rfl) ?_
          exact ⟨false, ⟨(by kernel_rfl), trivial⟩, SP.sel hs112 [] rfl rfl, H⟩
        ·have H := cf H hb114
         refine In.run' 25 (k' := 53) rfl [(53, undef), (54, undef), (55, (.bool false)), (56, (.bool false)), (57, undef), (58, undef), (59, undef), (60, (.bool false)), (61, (.bool false)), (62, undef), (63, undef), (64, undef), (65, (.bool false)), (66, (.bool false)), (67, undef), (68, (.bool false)), (69, (.bool false)), (70, undef), (71, undef), (72, (.bool false)), (73, (.bool false)), (74, undef), (75, undef), (76, (.bool false)), (0, (.bool false))] (by kernel_rfl) ?_
         refine In.fin (by kernel_rfl) ?_
         exact ⟨false, ⟨(by kernel_rfl), trivial⟩, SP.sel hs112 [] rfl rfl, H⟩
       ·have H := cf H hb113
        refine In.run' 29 (k' := 53) rfl [(49, undef), (50, undef), (51, (.bool false)), (52, (.bool false)), (53, undef), (54, undef), (55, (.bool false)), (56, (.bool false)), (57, undef), (58, undef), (59, undef), (60, (.bool false)), (61, (.bool false)), (62, undef), (63, undef), (64, undef), (65, (.bool false)), (66, (.bool false)), (67, undef), (68, (.bool false)), (69, (.bool false)), (70, undef), (71, undef), (72, (.bool false)), (73, (.bool false)), (74, undef), (75, undef), (76, (.bool false)), (0, (.bool false))] (by kernel_rfl) ?_
        refine In.fin (by kernel_rfl) ?_
        exact ⟨false, ⟨(by kernel_rfl), trivial⟩, SP.sel hs112 [] rfl rfl, H⟩
      ·have H := cf H hb106
       refine In.run' 34 (k' := 53) rfl [(44, undef), (45, undef), (46, undef), (47, (.bool false)), (48, (.bool false)), (49, undef), (50, undef), (51, (.bool false)), (52, (.bool false)), (53, undef), (54, undef), (55, (.bool false)), (56, (.bool false)), (57, undef), (58, undef), (59, undef), (60, (.bool false)), (61, (.bool false)), (62, undef), (63, undef), (64, undef), (65, (.bool false)), (66, (.bool false)), (67, undef), (68, (.bool false)), (69, (.bool false)), (70, undef), (71, undef), (72, (.bool false)), (73, (.bool false)), (74, undef), (75, undef), (76, (.bool false)), (0, (.bool false))] (by kernel_rfl) ?_
       refine In.fin (by kernel_rfl) ?_
       exact ⟨false, ⟨(by kernel_rfl), trivial⟩, SP.sel hs105 [] rfl rfl, H⟩
     ·have H := cf H hb99
      refine In.run' 39 (k' := 53) rfl [(39, undef), (40, undef), (41, undef), (42, (.bool false)), (43, (.bool false)), (44, undef), (45, undef), (46, undef), (47, (.bool false)), (48, (.bool false)), (49, undef), (50, undef), (51, (.bool false)), (52, (.bool false)), (53, undef), (54, undef), (55, (.bool false)), (56, (.bool false)), (57, undef), (58, undef), (59, undef), (60, (.bool false)), (61, (.bool false)), (62, undef), (63, undef), (64, undef), (65, (.bool false)), (66, (.bool false)), (67, undef), (68, (.bool false)), (69, (.bool false)), (70, undef), (71, undef), (72, (.bool false)), (73, (.bool false)), (74, undef), (75, undef), (76, (.bool false)), (0, (.bool false))] (by kernel_rfl) ?_
      refine In.fin (by kernel_rfl) ?_
      exact ⟨false, ⟨(by kernel_rfl), trivial⟩, SP.sel hs38 [] rfl rfl, H⟩
    ·have H := cf H hb98
     refine In.run' 44 (k' := 53) rfl [(34, undef), (35, undef), (36, undef), (37, (.bool false)), (38, (.bool false)), (39, undef), (40, undef), (41, undef), (42, (.bool false)), (43, (.bool false)), (44, undef), (45, undef), (46, undef), (47, (.bool false)), (48, (.bool false)), (49, undef), (50, undef), (51, (.bool false)), (52, (.bool false)), (53, undef), (54, undef), (55, (.bool false)), (56, (.bool false)), (57, undef), (58, undef), (59, undef), (60, (.bool false)), (61, (.bool false)), (62, undef), (63, undef), (64, undef), (65, (.bool false)), (66, (.bool false)), (67, undef), (68, (.bool false)), (69, (.bool false)), (70, undef), (71, undef), (72, (.bool false)), (73, (.bool false)), (74, undef), (75, undef), (76, (.bool false)), (0, (.bool false))] (by kernel_rfl) ?_
     refine In.fin (by kernel_rfl) ?_
     exact ⟨false, ⟨(by kernel_rfl), trivial⟩, SP.sel hs38 [] rfl rfl, H⟩
   ·have H := cf H hb97
    refine In.run' 47 (k' := 53) rfl [(31, undef), (32, (.bool false)), (33, (.bool false)), (34, undef), (35, undef), (36, undef), (37, (.bool false)), (38, (.bool false)), (39, undef), (40, undef), (41, undef), (42, (.bool false)), (43, (.bool false)), (44, undef), (45, undef), (46, undef), (47, (.bool false)), (48, (.bool false)), (49, undef), (50, undef), (51, (.bool false)), (52, (.bool false)), (53, undef), (54, undef), (55, (.bool false)), (56, (.bool false)), (57, undef), (58, undef), (59, undef), (60, (.bool false)), (61, (.bool false)), (62, undef), (63, undef), (64, undef), (65, (.bool false)), (66, (.bool false)), (67, undef), (68, (.bool false)), (69, (.bool false)), (70, undef), (71, undef), (72, (.bool false)), (73, (.bool false)), (74, undef), (75, undef), (76, (.bool false)), (0, (.bool false))] (by kernel_rfl) ?_
    refine In.fin (by kernel_rfl) ?_
    exact ⟨false, ⟨(by kernel_rfl), trivial⟩, SP.sel hs38 [] rfl rfl, H⟩
  ·have H := cf H hb96
   refine In.run' 51 (k' := 53) rfl [(27, undef), (28, undef), (29, (.bool false)), (30, (.bool false)), (31, undef), (32, (.bool false)), (33, (.bool false)), (34, undef), (35, undef), (36, undef), (37, (.bool false)), (38, (.bool false)), (39, undef), (40, undef), (41, undef), (42, (.bool false)), (43, (.bool false)), (44, undef), (45, undef), (46, undef), (47, (.bool false)), (48, (.bool false)), (49, undef), (50, undef), (51, (.bool false)), (52, (.bool false)), (53, undef), (54, undef), (55, (.bool false)), (56, (.bool false)), (57, undef), (58, undef), (59, undef), (60, (.bool false)), (61, (.bool false)), (62, undef), (63, undef), (64, undef), (65, (.bool false)), (66, (.bool false)), (67, undef), (68, (.bool false)), (69, (.bool false)), (70, undef), (71, undef), (72, (.bool false)), (73, (.bool false)), (74, undef), (75, undef), (76, (.bool false)), (0, (.bool false))] (by kernel_rfl) ?_
   refine In.fin (by kernel_rfl) ?_
   exact ⟨false, ⟨(by kernel_rfl), trivial⟩, SP.sel hs38 [] rfl rfl, H⟩
 ·rintro ρ w94 ⟨v93, hk, hs95, H⟩
  unfold L_subwaylaw04_head_k1 at H
  refine At.known [(0, (.bool v93))] hk ?_
  refine At.ret (by kernel_rfl) ?_
  refine ⟨(.bool v93), by kernel_rfl, ?_⟩
  obtain rfl := some_elim H
  exact ⟨rfl, SP.sel hs95 [] rfl rfl⟩
/-! L_subwaylaw04_net -/
def L_subwaylaw04_net_b1 (rec1 : Int → Int → Option (Int × Int)) (p1 : Int) (p2 : Int) (v16 : Int) (v17 : Int) : Option (Int × Int) :=
  (cond (decide (v17 < p2)) ((chk (decide (0 ≤ (IntKind.wrap .i64 (31 - v17))))).bind fun _ => (rec1 (bOr .u32 v16 (bShl .u32 1 (IntKind.wrap .i64 (31 - v17)))) (IntKind.wrap .i64 (v17 + 1)))) (some ((bAnd .u32 p1 v16), p2)))
def L_subwaylaw04_net_l1 (p1 : Int) (p2 : Int) : Nat → Int → Int → Option (Int × Int)
  | 0, _, _ => none
  | f + 1, v16, v17 => L_subwaylaw04_net_b1  (L_subwaylaw04_net_l1 p1 p2 f) p1 p2 v16 v17
def L_subwaylaw04_net (p1 : Int) (p2 : Int) : Option (Int × Int) :=
  (L_subwaylaw04_net_l1 p1 p2 fuel 0 0)
set_option maxRecDepth 100000 in
set_option maxHeartbeats 4000000 in
theorem L_subwaylaw04_net_walk  (p1 : Int) (p2 : Int) (w0 : World)  (r : (Int × Int)) (H : L_subwaylaw04_net p1 p2 = some r) :
  Calls Tryd.prog 23 #[(.int .u32 p1), (.int .i64 p2)] w0 (fun e w' => e = .returned (.agg #[(.int .u32 r.1), (.int .i64 r.2)]) ∧ SP [] w0 w' []) := by
 unfold L_subwaylaw04_net at H
 refine calls_start (n := 22) Tryd.func23 (by kernel_rfl) (by kernel_rfl) (by kernel_rfl) ?_
 have hs0 := SP.start [] w0
 refine At.seq (by kernel_rfl) (p0 := [false]) (p1 := [true]) rfl rfl ?_
 refine At.region (by kernel_rfl) (by kernel_rfl) ?_
 refine In.step (k' := 1) rfl (by kernel_rfl) ?_
 refine Step.alloc (t := 24) (z := (.agg #[(.int .u32 0), (.int .i64 0)])) (d := (some 4)) (k := 0) (by kernel_rfl) rfl (by kernel_rfl) hs0 ?_
 intro g3 w4 hs5
 have hs6 : SP [] w0 w4 [boxE g3 24 #[(.int .u32 0), (.int .i64 0)]] := hs5
 clear hs5
 refine In.fin (by kernel_rfl) ?_
 refine At.seq (by kernel_rfl) (p0 := [true, false]) (p1 := [true, true]) rfl rfl ?_
 refine At.region (by kernel_rfl) (by kernel_rfl) ?_
 refine In.run' 1 (k' := 1) rfl [(5, (.int .u32 0))] (by kernel_rfl) ?_
 refine In.fin (by kernel_rfl) ?_
 refine At.seq (by kernel_rfl) (p0 := [true, true, false]) (p1 := [true, true, true]) rfl rfl ?_
 refine At.seq (by kernel_rfl) (p0 := [true, true, false, false]) (p1 := [true, true, false, true]) rfl rfl ?_
 refine At.region (by kernel_rfl) (by kernel_rfl) ?_
 refine In.run' 1 (k' := 1) rfl [(6, (.int .i64 0))] (by kernel_rfl) ?_
 refine In.fin (by kernel_rfl) ?_
 refine At.block (by kernel_rfl) (id := 0) (by kernel_rfl) (p0 := [true, true, false, true, false]) rfl ?_
 refine At.loop (by kernel_rfl) (p0 := [true, true, false, true, false, false]) rfl (fun f1 ρ w => ∃ (v16 : Int) (v17 : Int), Known ρ [(0, (.int .u32 p1)), (1, (.int .i64 p2)), (4, (.pointer (some ⟨g3, 0, none⟩))), (5, (.int .u32 v16)), (6, (.int .i64 v17))] ∧ SP [] w0 w [boxE g3 24 #[(.int .u32 0), (.int .i64 0)]] ∧ L_subwaylaw04_net_l1 p1 p2 f1 v16 v17 = some r) (by rintro ρ w ⟨v16, v17, hk, hs, H⟩; cases H) ?_ fuel ?_
 ·rintro f1 ρ w14 ⟨v16, v17, hk, hs15, H⟩
  refine At.known [(0, (.int .u32 p1)), (1, (.int .i64 p2)), (4, (.pointer (some ⟨g3, 0, none⟩))), (5, (.int .u32 v16)), (6, (.int .i64 v17))] hk ?_
  replace H := (show L_subwaylaw04_net_b1 (L_subwaylaw04_net_l1 p1 p2 f1) p1 p2 v16 v17 = some r from H)
  unfold L_subwaylaw04_net_b1 at H
  refine At.seq (by kernel_rfl) (p0 := [true, true, false, true, false, false, false]) (p1 := [true, true, false, true, false, false, true]) rfl rfl ?_
  refine At.seq (by kernel_rfl) (p0 := [true, true, false, true, false, false, false, false]) (p1 := [true, true, false, true, false, false, false, true]) rfl rfl ?_
  refine At.region (by kernel_rfl) (by kernel_rfl) ?_
  refine In.run' 3 (k' := 3) rfl [(7, (.int .i64 v17)), (8, (.int .i64 p2)), (9, (.bool (decide (v17 < p2))))] (by kernel_rfl) ?_
  refine In.fin (by kernel_rfl) ?_
  refine At.cond (by kernel_rfl) (o := (.tmp 9)) (by kernel_rfl) (b := (decide (v17 < p2))) (by kernel_rfl) (p0 := [true, true, false, true, false, false, false, true, false]) (p1 := [true, true, false, true, false, false, false, true, true]) rfl rfl (fun hb23 => ?_) (fun hb23 => ?_)
  ·have H := ct H hb23
   refine At.skip (by kernel_rfl) ?_
   refine At.seq (by kernel_rfl) (p0 := [true, true, false, true, false, false, true, false]) (p1 := [true, true, false, true, false, false, true, true]) rfl rfl ?_
   refine At.block (by kernel_rfl) (id := 1) (by kernel_rfl) (p0 := [true, true, false, true, false, false, true, false, false]) rfl ?_
   refine At.region (by kernel_rfl) (by kernel_rfl) ?_
   refine In.run' 3 (k' := 3) rfl [(12, (.int .u32 v16)), (13, (.int .i64 v17)), (14, (.int .i64 (IntKind.wrap .i64 (31 - v17))))] (by kernel_rfl) ?_
   obtain ⟨hl24, H⟩ := chk_elim H
   refine In.step (k' := 4) rfl (by kernel_rfl) ?_
   refine Step.shift (op := .shl) (T := 22) (T' := 3) (x := (.const (.int .u32 (1)))) (y := (.tmp 14)) (kx := .u32) (ky := .i64) (a := 1) (b := (IntKind.wrap .i64 (31 - v17))) (v := (.int .u32 (bShl .u32 1 (IntKind.wrap .i64 (31 - v17))))) (d := (some 15)) (k := 3) (by kernel_rfl) rfl (by kernel_rfl) (by kernel_rfl) (of_decide_eq_true hl24) rfl ?_
   refine In.run' 2 (k' := 6) rfl [(16, (.int .u32 (bOr .u32 v16 (bShl .u32 1 (IntKind.wrap .i64 (31 - v17)))))), (5, (.int .u32 (bOr .u32 v16 (bShl .u32 1 (IntKind.wrap .i64 (31 - v17))))))] (by kernel_rfl) ?_
   refine In.fin (by kernel_rfl) ?_
   refine At.region (by kernel_rfl) (by kernel_rfl) ?_
   refine In.run' 3 (k' := 3) rfl [(10, (.int .i64 v17)), (11, (.int .i64 (IntKind.wrap .i64 (v17 + 1)))), (6, (.int .i64 (IntKind.wrap .i64 (v17 + 1))))] (by kernel_rfl) ?_
   refine In.fin (by kernel_rfl) ?_
   exact ⟨(bOr .u32 v16 (bShl .u32 1 (IntKind.wrap .i64 (31 - v17)))), (IntKind.wrap .i64 (v17 + 1)), ⟨(by kernel_rfl), (by kernel_rfl), (by kernel_rfl), (by kernel_rfl), (by kernel_rfl), trivial⟩, SP.sel hs15 [0] rfl rfl, H⟩
  ·have H := cf H hb23
   refine At.exit (by kernel_rfl) (id := 0) (by kernel_rfl) ?_
   refine At.seq (by kernel_rfl) (p0 := [true, true, true, false]) (p1 := [true, true, true, true]) rfl rfl ?_
   refine At.region (by kernel_rfl) (by kernel_rfl) ?_
   refine In.run' 5 (k' := 5) rfl [(17, (.int .u32 p1)), (18, (.int .u32 v16)), (19, (.int .u32 (bAnd .u32 p1 v16))), (20, (.int .i64 p2)), (21, (.agg #[(.int .u32 (bAnd .u32 p1 v16)), (.int .i64 p2)]))] (by kernel_rfl) ?_
   refine In.step (k' := 6) rfl (by kernel_rfl) ?_
   refine Step.store (t := 24) (x := (.tmp 4)) (y := (.tmp 21)) (g := g3) (off := 0) (i := 0) (v := (.agg #[(.int .u32 (bAnd .u32 p1 v16)), (.int .i64 p2)])) (cs' := #[(.int .u32 (bAnd .u32 p1 v16)), (.int .i64 p2)]) (d := none) (k := 5) (by kernel_rfl) rfl (by kernel_rfl) (by kernel_rfl) hs15 rfl (by kernel_rfl) ?_
   intro w25 hs26
   have hs27 : SP [] w0 w25 [boxE g3 24 #[(.int .u32 (bAnd .u32 p1 v16)), (.int .i64 p2)]] := hs26
   clear hs26
   refine In.fin (by kernel_rfl) ?_
   refine At.ret (by kernel_rfl) ?_
   refine ⟨(.agg #[(.int .u32 (bAnd .u32 p1 v16)), (.int .i64 p2)]), res_1 (by kernel_rfl) (rv_cell (a := 4) (t := 24) (g := g3) (off := 0) (by kernel_rfl) (SP.get hs27 (i := 0) rfl) (by kernel_rfl)), ?_⟩
   obtain rfl := some_elim H
   exact ⟨rfl, SP.sel hs27 [] rfl rfl⟩
 ·exact ⟨0, 0, ⟨(by kernel_rfl), (by kernel_rfl), (by kernel_rfl), (by kernel_rfl), (by kernel_rfl), trivial⟩, SP.sel hs6 [0] rfl rfl, H⟩
end Go.Proofs.YthnakiihenbcjaaDoor
