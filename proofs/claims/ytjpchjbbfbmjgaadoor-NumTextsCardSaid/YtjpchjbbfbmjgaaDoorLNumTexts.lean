/- LIFTED BY PROGRAM (tools/lift.py): what functions compute, and that they do. -/
import Derived.Test.YtjpchjbbfbmjgaaDoorLN
namespace Go.Proofs.YtjpchjbbfbmjgaaDoor
set_option linter.unusedSimpArgs false
set_option linter.unusedVariables false
open Go.RowKit

/-! L_subwaylaw01_NumTexts -/
def L_subwaylaw01_NumTexts_k2 (v27 : Bool) : Option (Bool) :=
  (some (v27))
def L_subwaylaw01_NumTexts_k3 (v73 : Bool) : Option (Bool) :=
  (some (v73))
def L_subwaylaw01_NumTexts_k1 (p1 : (List UInt8)) (p2 : (List UInt8)) (z6 : (Bool)) (v13 : Bool) : Option (Bool) :=
  (cond v13 (some (z6)) ((L_num_Text p1).bind fun z17 => (cond (decide (((List.length p1 : Nat) : Int) > 255)) (cond z6 (L_subwaylaw01_NumTexts_k2 (((List.length z17 : Nat) : Int) == 0)) (L_subwaylaw01_NumTexts_k2 false)) (cond (((List.length z17 : Nat) : Int) != (IntKind.wrap .i64 (((List.length p1 : Nat) : Int) + 1))) (some (false)) ((app ([] : List UInt8) z17).bind fun l37 => ((app l37 p2).bind fun l44 => ((L_num_Read l44).bind fun z50 => ((sub z17 0 (IntKind.wrap .i64 (((List.length z17 : Nat) : Int) - 1))).bind fun l59 => ((L_num_Read l59).bind fun z63 => (cond z6 (cond z50.2.2 (cond (z50.1 == p1) (cond (z50.2.1 == ((List.length z17 : Nat) : Int)) (L_subwaylaw01_NumTexts_k3 (!z63.2.2)) (L_subwaylaw01_NumTexts_k3 false)) (L_subwaylaw01_NumTexts_k3 false)) (L_subwaylaw01_NumTexts_k3 false)) (L_subwaylaw01_NumTexts_k3 false)))))))))))
def L_subwaylaw01_NumTexts (p1 : (List UInt8)) (p2 : (List UInt8)) : Option (Bool) :=
  ((L_subwaylaw01_head ).bind fun z6 => (cond (decide (((List.length p1 : Nat) : Int) > 9000)) (L_subwaylaw01_NumTexts_k1 p1 p2 z6 true) (L_subwaylaw01_NumTexts_k1 p1 p2 z6 (decide (((List.length p2 : Nat) : Int) > 9000)))))
set_option maxRecDepth 100000 in
set_option maxHeartbeats 4000000 in
theorem L_subwaylaw01_NumTexts_walk (A3 : Option Addr) (c4 : Nat) (p1 : (List UInt8)) (p2 : (List UInt8)) (w0 : World) (hL : LaidW w0) (hr5 : RdT eU8 w0 A3 c4 p2) (r : (Bool)) (H : L_subwaylaw01_NumTexts p1 p2 = some r) :
  Calls Tryd.prog 5 #[(.string ⟨List.toArray p1⟩), (.slice A3 (List.length p2) c4)] w0 (fun e w' => e = .returned (.bool r) ∧ SP [] w0 w' []) := by
 unfold L_subwaylaw01_NumTexts at H
 refine calls_start (n := 79) Tryd.func5 (by kernel_rfl) (by kernel_rfl) (by kernel_rfl) ?_
 have hs0 := SP.start [] w0
 refine At.seq (by kernel_rfl) (p0 := [false]) (p1 := [true]) rfl rfl ?_
 refine At.region (by kernel_rfl) (by kernel_rfl) ?_
 refine In.run' 1 (k' := 1) rfl [(4, (.bool false))] (by kernel_rfl) ?_
 refine In.fin (by kernel_rfl) ?_
 refine At.seq (by kernel_rfl) (p0 := [true, false]) (p1 := [true, true]) rfl rfl ?_
 refine At.region (by kernel_rfl) (by kernel_rfl) ?_
 obtain ⟨z6, hz7, H⟩ := bind_elim H
 refine In.step (k' := 1) rfl (by kernel_rfl) ?_
 refine Step.callF (f := 9) (fo := (.func 9)) (xs := #[]) (tys := #[]) (first := #[]) (captured := #[]) (d := (some 13)) (k := 0) (by kernel_rfl) rfl (by kernel_rfl) (by kernel_rfl) Tryd.call9 (L_subwaylaw01_head_walk   w0 (laid_below hL (SP.keeps hs0)) z6 hz7) ?_
 rintro e w8 ⟨rfl, hs9⟩
 refine ⟨_, rfl, ?_⟩
 have hs10 := SP.call hs0 hs9
 clear hs9
 have hs11 : SP [] w0 w8 [] := hs10
 clear hs10
 refine In.run' 1 (k' := 2) rfl [(5, (.bool z6))] (by kernel_rfl) ?_
 refine In.fin (by kernel_rfl) ?_
 refine At.seq (by kernel_rfl) (p0 := [true, true, false]) (p1 := [true, true, true]) rfl rfl ?_
 refine At.seq (by kernel_rfl) (p0 := [true, true, false, false]) (p1 := [true, true, false, true]) rfl rfl ?_
 refine At.join (fun ρ w => ∃ (v13 : Bool), Known ρ [(0, (.string ⟨List.toArray p1⟩)), (1, (.slice A3 (List.length p2) c4)), (5, (.bool z6)), (21, (.bool v13))] ∧ SP [] w0 w [] ∧ L_subwaylaw01_NumTexts_k1 p1 p2 z6 v13 = some r) ?_ ?_
 ·refine At.region (by kernel_rfl) (by kernel_rfl) ?_
  refine In.run' 4 (k' := 4) rfl [(14, (.string ⟨List.toArray p1⟩)), (15, (.int .i64 ((List.length p1 : Nat) : Int))), (16, (.bool (decide (((List.length p1 : Nat) : Int) > 9000)))), (17, (.bool (decide (((List.length p1 : Nat) : Int) > 9000))))] (by kernel_rfl) ?_
  refine In.guard (t := 17) (b := (decide (((List.length p1 : Nat) : Int) > 9000))) (by kernel_rfl) (fun hb80 => ?_) (fun hb80 => ?_)
  ·have H := ct H hb80
   refine In.run' 4 (k' := 8) rfl [(18, undef), (19, undef), (20, undef), (21, (.bool true))] (by kernel_rfl) ?_
   refine In.fin (by kernel_rfl) ?_
   exact ⟨true, ⟨(by kernel_rfl), (by kernel_rfl), (by kernel_rfl), (by kernel_rfl), trivial⟩, SP.sel hs11 [] rfl rfl, H⟩
  ·have H := cf H hb80
   refine In.run' 4 (k' := 8) rfl [(18, (.slice A3 (List.length p2) c4)), (19, (.int .i64 ((List.length p2 : Nat) : Int))), (20, (.bool (decide (((List.length p2 : Nat) : Int) > 9000)))), (21, (.bool (decide (((List.length p2 : Nat) : Int) > 9000))))] (by kernel_rfl) ?_
   refine In.fin (by kernel_rfl) ?_
   exact ⟨(decide (((List.length p2 : Nat) : Int) > 9000)), ⟨(by kernel_rfl), (by kernel_rfl), (by kernel_rfl), (by kernel_rfl), trivial⟩, SP.sel hs11 [] rfl rfl, H⟩
 ·rintro ρ w14 ⟨v13, hk, hs15, H⟩
  unfold L_subwaylaw01_NumTexts_k1 at H
  refine At.known [(0, (.string ⟨List.toArray p1⟩)), (1, (.slice A3 (List.length p2) c4)), (5, (.bool z6)), (21, (.bool v13))] hk ?_
  refine At.cond (by kernel_rfl) (o := (.tmp 21)) (by kernel_rfl) (b := v13) (by kernel_rfl) (p0 := [true, true, false, true, false]) (p1 := [true, true, false, true, true]) rfl rfl (fun hb16 => ?_) (fun hb16 => ?_)
  ·have H := ct H hb16
   refine At.seq (by kernel_rfl) (p0 := [true, true, false, true, false, false]) (p1 := [true, true, false, true, false, true]) rfl rfl ?_
   refine At.region (by kernel_rfl) (by kernel_rfl) ?_
   refine In.run' 2 (k' := 2) rfl [(22, (.bool z6)), (4, (.bool z6))] (by kernel_rfl) ?_
   refine In.fin (by kernel_rfl) ?_
   refine At.ret (by kernel_rfl) ?_
   refine ⟨(.bool z6), by kernel_rfl, ?_⟩
   obtain rfl := some_elim H
   exact ⟨rfl, SP.sel hs15 [] rfl rfl⟩
  ·have H := cf H hb16
   refine At.skip (by kernel_rfl) ?_
   refine At.seq (by kernel_rfl) (p0 := [true, true, true, false]) (p1 := [true, true, true, true]) rfl rfl ?_
   refine At.region (by kernel_rfl) (by kernel_rfl) ?_
   refine In.run' 1 (k' := 1) rfl [(23, (.string ⟨List.toArray p1⟩))] (by kernel_rfl) ?_
   obtain ⟨z17, hz18, H⟩ := bind_elim H
   refine In.step (k' := 2) rfl (by kernel_rfl) ?_
   refine Step.callF (f := 18) (fo := (.func 18)) (xs := #[(.tmp 23)]) (tys := #[9]) (first := #[]) (captured := #[]) (d := (some 24)) (k := 1) (by kernel_rfl) rfl (by kernel_rfl) (by kernel_rfl) Tryd.call18 (L_num_Text_walk  p1 w14  z17 hz18) ?_
   rintro e w19 ⟨A21, c22, rfl, hs20⟩
   refine ⟨_, rfl, ?_⟩
   have hs23 := SP.call hs15 hs20
   clear hs20
   have hs24 : SP [] w0 w19 [rowT 5 eU8 A21 c22 z17] := hs23
   clear hs23
   refine In.run' 1 (k' := 3) rfl [(6, (.slice A21 (List.length z17) c22))] (by kernel_rfl) ?_
   refine In.fin (by kernel_rfl) ?_
   refine At.seq (by kernel_rfl) (p0 := [true, true, true, true, false]) (p1 := [true, true, true, true, true]) rfl rfl ?_
   refine At.seq (by kernel_rfl) (p0 := [true, true, true, true, false, false]) (p1 := [true, true, true, true, false, true]) rfl rfl ?_
   refine At.region (by kernel_rfl) (by kernel_rfl) ?_
   refine In.run' 3 (k' := 3) rfl [(25, (.string ⟨List.toArray p1⟩)), (26, (.int .i64 ((List.length p1 : Nat) : Int))), (27, (.bool (decide (((List.length p1 : Nat) : Int) > 255))))] (by kernel_rfl) ?_
   refine In.fin (by kernel_rfl) ?_
   refine At.cond (by kernel_rfl) (o := (.tmp 27)) (by kernel_rfl) (b := (decide (((List.length p1 : Nat) : Int) > 255))) (by kernel_rfl) (p0 := [true, true, true, true, false, true, false]) (p1 := [true, true, true, true, false, true, true]) rfl rfl (fun hb25 => ?_) (fun hb25 => ?_)
   ·have H := ct H hb25
    refine At.seq (by kernel_rfl) (p0 := [true, true, true, true, false, true, false, false]) (p1 := [true, true, true, true, false, true, false, true]) rfl rfl ?_
    refine At.join (fun ρ w => ∃ (v27 : Bool), Known ρ [(4, (.bool v27))] ∧ SP [] w0 w [] ∧ L_subwaylaw01_NumTexts_k2 v27 = some r) ?_ ?_
    ·refine At.region (by kernel_rfl) (by kernel_rfl) ?_
     refine In.run' 2 (k' := 2) rfl [(28, (.bool z6)), (29, (.bool z6))] (by kernel_rfl) ?_
     refine In.guard (t := 29) (b := z6) (by kernel_rfl) (fun hb30 => ?_) (fun hb30 => ?_)
     ·have H := ct H hb30
      refine In.run' 5 (k' := 7) rfl [(30, (.slice A21 (List.length z17) c22)), (31, (.int .i64 ((List.length z17 : Nat) : Int))), (32, (.bool (((List.length z17 : Nat) : Int) == 0))), (33, (.bool (((List.length z17 : Nat) : Int) == 0))), (4, (.bool (((List.length z17 : Nat) : Int) == 0)))] (by kernel_rfl) ?_
      refine In.fin (by kernel_rfl) ?_
      exact ⟨(((List.length z17 : Nat) : Int) == 0), ⟨(by kernel_rfl), trivial⟩, SP.sel hs24 [] rfl rfl, H⟩
     ·have H := cf H hb30
      refine In.run' 5 (k' := 7) rfl [(30, undef), (31, undef), (32, undef), (33, (.bool false)), (4, (.bool false))] (by kernel_rfl) ?_
      refine In.fin (by kernel_rfl) ?_
      exact ⟨false, ⟨(by kernel_rfl), trivial⟩, SP.sel hs24 [] rfl rfl, H⟩
    ·rintro ρ w28 ⟨v27, hk, hs29, H⟩
     unfold L_subwaylaw01_NumTexts_k2 at H
     refine At.known [(4, (.bool v27))] hk ?_
     refine At.ret (by kernel_rfl) ?_
     refine ⟨(.bool v27), by kernel_rfl, ?_⟩
     obtain rfl := some_elim H
     exact ⟨rfl, SP.sel hs29 [] rfl rfl⟩
   ·have H := cf H hb25
    refine At.skip (by kernel_rfl) ?_
    refine At.seq (by kernel_rfl) (p0 := [true, true, true, true, true, false]) (p1 := [true, true, true, true, true, true]) rfl rfl ?_
    refine At.seq (by kernel_rfl) (p0 := [true, true, true, true, true, false, false]) (p1 := [true, true, true, true, true, false, true]) rfl rfl ?_
    refine At.region (by kernel_rfl) (by kernel_rfl) ?_
    refine In.run' 6 (k' := 6) rfl [(34, (.slice A21 (List.length z17) c22)), (35, (.int .i64 ((List.length z17 : Nat) : Int))), (36, (.string ⟨List.toArray p1⟩)), (37, (.int .i64 ((List.length p1 : Nat) : Int))), (38, (.int .i64 (IntKind.wrap .i64 (((List.length p1 : Nat) : Int) + 1)))), (39, (.bool (((List.length z17 : Nat) : Int) != (IntKind.wrap .i64 (((List.length p1 : Nat) : Int) + 1)))))] (by kernel_rfl) ?_
    refine In.fin (by kernel_rfl) ?_
    refine At.cond (by kernel_rfl) (o := (.tmp 39)) (by kernel_rfl) (b := (((List.length z17 : Nat) : Int) != (IntKind.wrap .i64 (((List.length p1 : Nat) : Int) + 1)))) (by kernel_rfl) (p0 := [true, true, true, true, true, false, true, false]) (p1 := [true, true, true, true, true, false, true, true]) rfl rfl (fun hb31 => ?_) (fun hb31 => ?_)
    ·have H := ct H hb31
     refine At.seq (by kernel_rfl) (p0 := [true, true, true, true, true, false, true, false, false]) (p1 := [true, true, true, true, true, false, true, false, true]) rfl rfl ?_
     refine At.region (by kernel_rfl) (by kernel_rfl) ?_
     refine In.run' 1 (k' := 1) rfl [(4, (.bool false))] (by kernel_rfl) ?_
     refine In.fin (by kernel_rfl) ?_
     refine At.ret (by kernel_rfl) ?_
     refine ⟨(.bool false), by kernel_rfl, ?_⟩
     obtain rfl := some_elim H
     exact ⟨rfl, SP.sel hs24 [] rfl rfl⟩
    ·have H := cf H hb31
     refine At.skip (by kernel_rfl) ?_
     refine At.seq (by kernel_rfl) (p0 := [true, true, true, true, true, true, false]) (p1 := [true, true, true, true, true, true, true]) rfl rfl ?_
     refine At.region (by kernel_rfl) (by kernel_rfl) ?_
     refine In.step (k' := 1) rfl (by kernel_rfl) ?_
     refine Step.newSlice (e := eU8) (T := 22) (E := 5) (len := 0) (parts := #[]) (cs := #[]) ([] : List UInt8) (d := (some 41)) (k := 0) (by kernel_rfl) rfl (fun _ => by kernel_rfl) hs24 rfl rfl rfl rfl ?_
     intro g32 w33 hs34
     have hs35 : SP [] w0 w33 [rowT 5 eU8 A21 c22 z17, rowT 5 eU8 (some ⟨g32, 0, none⟩) (List.length ([] : List UInt8)) ([] : List UInt8)] := hs34
     clear hs34
     refine In.run' 1 (k' := 2) rfl [(42, (.slice A21 (List.length z17) c22))] (by kernel_rfl) ?_
     obtain ⟨hl36, H⟩ := app_elim H
     obtain ⟨l37, hyl37⟩ : ∃ y, ([] : List UInt8) ++ z17 = y := ⟨_, rfl⟩
     rw [hyl37] at H
     refine In.step (k' := 3) rfl (by kernel_rfl) ?_
     refine Step.append (e := eU8) (l := ([] : List UInt8)) (m := z17) (A := (some ⟨g32, 0, none⟩)) (c := (List.length ([] : List UInt8))) (T := 22) (TX := 22) (E := 5) (b := 1) (s := (.tmp 41)) (x := (.tmp 42)) (i := 1) (vx := (.slice A21 (List.length z17) c22)) (d := (some 43)) (k := 2) (by kernel_rfl) rfl (by kernel_rfl) (by kernel_rfl) (by kernel_rfl) (by kernel_rfl) rfl hs35 rfl (src_rdt (E := 5) (by kernel_rfl) (rowT_rd (SP.get hs35 (i := 0) rfl))) hl36 ?_
     rw [hyl37]
     intro A38 c39 w40 hs41
     have hs42 : SP [] w0 w40 [rowT 5 eU8 A21 c22 z17, rowT 5 eU8 A38 c39 l37] := hs41
     clear hs41
     refine In.run' 1 (k' := 4) rfl [(44, (.slice A3 (List.length p2) c4))] (by kernel_rfl) ?_
     obtain ⟨hl43, H⟩ := app_elim H
     obtain ⟨l44, hyl44⟩ : ∃ y, l37 ++ p2 = y := ⟨_, rfl⟩
     rw [hyl44] at H
     refine In.step (k' := 5) rfl (by kernel_rfl) ?_
     refine Step.append (e := eU8) (l := l37) (m := p2) (A := A38) (c := c39) (T := 22) (TX := 22) (E := 5) (b := 1) (s := (.tmp 43)) (x := (.tmp 44)) (i := 1) (vx := (.slice A3 (List.length p2) c4)) (d := (some 45)) (k := 4) (by kernel_rfl) rfl (by kernel_rfl) (by kernel_rfl) (by kernel_rfl) (by kernel_rfl) rfl hs42 rfl (src_rdt (E := 5) (by kernel_rfl) (RdT.sp hr5 hs42)) hl43 ?_
     rw [hyl44]
     intro A45 c46 w47 hs48
     have hs49 : SP [] w0 w47 [rowT 5 eU8 A21 c22 z17, rowT 5 eU8 A45 c46 l44] := hs48
     clear hs48
     obtain ⟨z50, hz51, H⟩ := bind_elim H
     refine In.step (k' := 6) rfl (by kernel_rfl) ?_
     refine Step.callF (f := 12) (fo := (.func 12)) (xs := #[(.tmp 45)]) (tys := #[22]) (first := #[]) (captured := #[]) (d := (some 46)) (k := 5) (by kernel_rfl) rfl (by kernel_rfl) (by kernel_rfl) Tryd.call12 (L_num_Read_walk A45 c46 l44 w47 (rowT_rd (SP.get hs49 (i := 1) rfl)) z50 hz51) ?_
     rintro e w52 ⟨rfl, hs53⟩
     refine ⟨_, rfl, ?_⟩
     have hs54 := SP.call hs49 hs53
     clear hs53
     have hs55 : SP [] w0 w52 [rowT 5 eU8 A21 c22 z17, rowT 5 eU8 A45 c46 l44] := hs54
     clear hs54
     refine In.run' 7 (k' := 13) rfl [(40, (.tuple #[(.string ⟨List.toArray z50.1⟩), (.int .i64 z50.2.1), (.bool z50.2.2)])), (47, (.string ⟨List.toArray z50.1⟩)), (48, (.int .i64 z50.2.1)), (49, (.bool z50.2.2)), (7, (.string ⟨List.toArray z50.1⟩)), (8, (.int .i64 z50.2.1)), (9, (.bool z50.2.2))] (by kernel_rfl) ?_
     refine In.fin (by kernel_rfl) ?_
     refine At.seq (by kernel_rfl) (p0 := [true, true, true, true, true, true, true, false]) (p1 := [true, true, true, true, true, true, true, true]) rfl rfl ?_
     refine At.region (by kernel_rfl) (by kernel_rfl) ?_
     refine In.run' 4 (k' := 4) rfl [(51, (.slice A21 (List.length z17) c22)), (52, (.slice A21 (List.length z17) c22)), (53, (.int .i64 ((List.length z17 : Nat) : Int))), (54, (.int .i64 (IntKind.wrap .i64 (((List.length z17 : Nat) : Int) - 1))))] (by kernel_rfl) ?_
     obtain ⟨hz56, hz57, hz58, H⟩ := sub_elim H
     obtain ⟨l59, hyl59⟩ : ∃ y, (List.drop (Int.toNat 0) (List.take (Int.toNat (IntKind.wrap .i64 (((List.length z17 : Nat) : Int) - 1))) z17)) = y := ⟨_, rfl⟩
     rw [hyl59] at H
     refine In.step (k' := 5) rfl (by kernel_rfl) ?_
     refine Step.slice (e := eU8) (l := z17) (A := A21) (c := c22) (T := 22) (E := 5) (x := (.tmp 51)) (lo := none) (hi := (some (.tmp 54))) (i := 0) (j := (IntKind.wrap .i64 (((List.length z17 : Nat) : Int) - 1))) (d := (some 55)) (k := 4) (by kernel_rfl) rfl (by kernel_rfl) (by kernel_rfl) (by kernel_rfl) rfl ⟨.i64, by kernel_rfl⟩ (RdX.le (rowT_rd (SP.get hs55 (i := 0) rfl))) hz56 hz57 hz58 ?_
     intro A60 c61 _ _ hcut62
     rw [hyl59] at hcut62 ⊢
     obtain ⟨z63, hz64, H⟩ := bind_elim H
     refine In.step (k' := 6) rfl (by kernel_rfl) ?_
     refine Step.callF (f := 12) (fo := (.func 12)) (xs := #[(.tmp 55)]) (tys := #[22]) (first := #[]) (captured := #[]) (d := (some 56)) (k := 5) (by kernel_rfl) rfl (by kernel_rfl) (by kernel_rfl) Tryd.call12 (L_num_Read_walk A60 c61 l59 w52 (hcut62 w52 (rowT_rd (SP.get hs55 (i := 0) rfl))) z63 hz64) ?_
     rintro e w65 ⟨rfl, hs66⟩
     refine ⟨_, rfl, ?_⟩
     have hs67 := SP.call hs55 hs66
     clear hs66
     have hs68 : SP [] w0 w65 [rowT 5 eU8 A21 c22 z17, rowT 5 eU8 A45 c46 l44] := hs67
     clear hs67
     refine In.run' 7 (k' := 13) rfl [(50, (.tuple #[(.string ⟨List.toArray z63.1⟩), (.int .i64 z63.2.1), (.bool z63.2.2)])), (57, (.string ⟨List.toArray z63.1⟩)), (58, (.int .i64 z63.2.1)), (59, (.bool z63.2.2)), (10, (.string ⟨List.toArray z63.1⟩)), (11, (.int .i64 z63.2.1)), (12, (.bool z63.2.2))] (by kernel_rfl) ?_
     refine In.fin (by kernel_rfl) ?_
     refine At.seq (by kernel_rfl) (p0 := [true, true, true, true, true, true, true, true, false]) (p1 := [true, true, true, true, true, true, true, true, true]) rfl rfl ?_
     refine At.join (fun ρ w => ∃ (v73 : Bool), Known ρ [(4, (.bool v73))] ∧ SP [] w0 w [] ∧ L_subwaylaw01_NumTexts_k3 v73 = some r) ?_ ?_
     ·refine At.region (by kernel_rfl) (by kernel_rfl) ?_
      refine In.run' 2 (k' := 2) rfl [(60, (.bool z6)), (61, (.bool z6))] (by kernel_rfl) ?_
      refine In.guard (t := 61) (b := z6) (by kernel_rfl) (fun hb76 => ?_) (fun hb76 => ?_)
      ·have H := ct H hb76
       refine In.run' 3 (k' := 5) rfl [(62, (.bool z50.2.2)), (63, (.bool z50.2.2)), (64, (.bool z50.2.2))] (by kernel_rfl) ?_
       refine In.guard (t := 64) (b := z50.2.2) (by kernel_rfl) (fun hb77 => ?_) (fun hb77 => ?_)
       ·have H := ct H hb77
        refine In.run' 2 (k' := 7) rfl [(65, (.string ⟨List.toArray z50.1⟩)), (66, (.string ⟨List.toArray p1⟩))] (by kernel_rfl) ?_
        refine In.step (k' := 8) rfl (by kernel_rfl) ?_
        refine Step.strOp (op := .eql) (T := 9) (T' := 9) (x := (.tmp 65)) (y := (.tmp 66)) (a := z50.1) (b := p1) (r := (.bool (z50.1 == p1))) (d := (some 67)) (k := 7) (by kernel_rfl) rfl (by kernel_rfl) (by kernel_rfl) rfl ?_
        refine In.run' 2 (k' := 10) rfl [(68, (.bool (z50.1 == p1))), (69, (.bool (z50.1 == p1)))] (by kernel_rfl) ?_
        refine In.guard (t := 69) (b := (z50.1 == p1)) (by kernel_rfl) (fun hb78 => ?_) (fun hb78 => ?_)
        ·have H := ct H hb78
         refine In.run' 6 (k' := 16) rfl [(70, (.int .i64 z50.2.1)), (71, (.slice A21 (List.length z17) c22)), (72, (.int .i64 ((List.length z17 : Nat) : Int))), (73, (.bool (z50.2.1 == ((List.length z17 : Nat) : Int)))), (74, (.bool (z50.2.1 == ((List.length z17 : Nat) : Int)))), (75, (.bool (z50.2.1 == ((List.length z17 : Nat) : Int))))] (by kernel_rfl) ?_
         refine In.guard (t := 75) (b := (z50.2.1 == ((List.length z17 : Nat) : Int))) (by kernel_rfl) (fun hb79 => ?_) (fun hb79 => ?_)
         ·have H := ct H hb79
          refine In.run' 4 (k' := 20) rfl [(76, (.bool z63.2.2)), (77, (.bool (!z63.2.2))), (78, (.bool (!z63.2.2))), (4, (.bool (!z63.2.2)))] (by kernel_rfl) ?_
          refine In.fin (by kernel_rfl) ?_
          exact ⟨(!z63.2.2), ⟨(by kernel_rfl), trivial⟩, SP.sel hs68 [] rfl rfl, H⟩
         ·have H := cf H hb79
          refine In.run' 4 (k' := 20) rfl [(76, undef), (77, undef), (78, (.bool false)), (4, (.bool false))] (by kernel_rfl) ?_
          refine In.fin (by kernel_rfl) ?_
          exact ⟨false, ⟨(by kernel_rfl), trivial⟩, SP.sel hs68 [] rfl rfl, H⟩
        ·have H := cf H hb78
         refine In.run' 10 (k' := 20) rfl [(70, undef), (71, undef), (72, undef), (73, undef), (74, (.bool false)), (75, (.bool false)), (76, undef), (77, undef), (78, (.bool false)), (4, (.bool false))] (by kernel_rfl) ?_
         refine In.fin (by kernel_rfl) ?_
         exact ⟨false, ⟨(by kernel_rfl), trivial⟩, SP.sel hs68 [] rfl rfl, H⟩
       ·have H := cf H hb77
        refine In.run' 15 (k' := 20) rfl [(65, undef), (66, undef), (67, undef), (68, (.bool false)), (69, (.bool false)), (70, undef), (71, undef), (72, undef), (73, undef), (74, (.bool false)), (75, (.bool false)), (76, undef), (77, undef), (78, (.bool false)), (4, (.bool false))] (by kernel_rfl) ?_
        refine In.fin (by kernel_rfl) ?_
        exact ⟨false, ⟨(by kernel_rfl), trivial⟩, SP.sel hs68 [] rfl rfl, H⟩
      ·have H := cf H hb76
       refine In.run' 18 (k' := 20) rfl [(62, undef), (63, (.bool false)), (64, (.bool false)), (65, undef), (66, undef), (67, undef), (68, (.bool false)), (69, (.bool false)), (70, undef), (71, undef), (72, undef), (73, undef), (74, (.bool false)), (75, (.bool false)), (76, undef), (77, undef), (78, (.bool false)), (4, (.bool false))] (by kernel_rfl) ?_
       refine In.fin (by kernel_rfl) ?_
       exact ⟨false, ⟨(by kernel_rfl), trivial⟩, SP.sel hs68 [] rfl rfl, H⟩
     ·rintro ρ w74 ⟨v73, hk, hs75, H⟩
      unfold L_subwaylaw01_NumTexts_k3 at H
      refine At.known [(4, (.bool v73))] hk ?_
      refine At.ret (by kernel_rfl) ?_
      refine ⟨(.bool v73), by kernel_rfl, ?_⟩
      obtain rfl := some_elim H
      exact ⟨rfl, SP.sel hs75 [] rfl rfl⟩
end Go.Proofs.YtjpchjbbfbmjgaaDoor
