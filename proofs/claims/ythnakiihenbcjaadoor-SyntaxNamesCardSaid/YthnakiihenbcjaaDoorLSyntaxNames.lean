/- LIFTED BY PROGRAM (tools/lift.py): what functions compute, and that they do. -/
import Derived.Test.YthnakiihenbcjaaDoorLSH
namespace Go.Proofs.YthnakiihenbcjaaDoor
set_option linter.unusedSimpArgs false
set_option linter.unusedVariables false
open Go.RowKit

/-! L_subwaylaw04_SyntaxNames -/
def L_subwaylaw04_SyntaxNames_k2 (v36 : Bool) : Option (Bool) :=
  (some (v36))
def L_subwaylaw04_SyntaxNames_k3 (v189 : Bool) : Option (Bool) :=
  (some (v189))
def L_subwaylaw04_SyntaxNames_k1 (p1 : (List UInt8)) (p2 : UInt8) (z3 : (Bool)) (v18 : Bool) : Option (Bool) :=
  ((L_syntax_Name p1).bind fun z21 => (cond (p1 == ([] : List UInt8)) (cond z3 (cond (!z21) ((L_syntax_Name ([p2] : List UInt8)).bind fun z41 => (L_subwaylaw04_SyntaxNames_k2 (z41 == v18))) (L_subwaylaw04_SyntaxNames_k2 false)) (L_subwaylaw04_SyntaxNames_k2 false)) (cond z3 (cond (!z21) (cond (!z21) (cond (!z21) (L_subwaylaw04_SyntaxNames_k3 true) ((app p1 ([45] : List UInt8)).bind fun l196 => ((app l196 ([p2] : List UInt8)).bind fun l198 => ((L_syntax_Name l198).bind fun z200 => (cond v18 (L_subwaylaw04_SyntaxNames_k3 (z200 == (decide (((List.length p1 : Nat) : Int) < 19)))) (L_subwaylaw04_SyntaxNames_k3 (z200 == false))))))) ((app p1 ([45] : List UInt8)).bind fun l207 => ((L_syntax_Name l207).bind fun z209 => (cond (!z209) ((app ([45] : List UInt8) p1).bind fun l216 => ((L_syntax_Name l216).bind fun z218 => (cond (!z218) (cond (!z21) (L_subwaylaw04_SyntaxNames_k3 true) ((app p1 ([45] : List UInt8)).bind fun l226 => ((app l226 ([p2] : List UInt8)).bind fun l228 => ((L_syntax_Name l228).bind fun z230 => (cond v18 (L_subwaylaw04_SyntaxNames_k3 (z230 == (decide (((List.length p1 : Nat) : Int) < 19)))) (L_subwaylaw04_SyntaxNames_k3 (z230 == false))))))) (L_subwaylaw04_SyntaxNames_k3 false)))) (L_subwaylaw04_SyntaxNames_k3 false))))) ((app p1 ([p2] : List UInt8)).bind fun l237 => ((L_syntax_Name l237).bind fun z239 => (cond v18 (cond (z239 == (decide (((List.length p1 : Nat) : Int) < 20))) (cond (!z21) (cond (!z21) (L_subwaylaw04_SyntaxNames_k3 true) ((app p1 ([45] : List UInt8)).bind fun l249 => ((app l249 ([p2] : List UInt8)).bind fun l251 => ((L_syntax_Name l251).bind fun z253 => (cond v18 (L_subwaylaw04_SyntaxNames_k3 (z253 == (decide (((List.length p1 : Nat) : Int) < 19)))) (L_subwaylaw04_SyntaxNames_k3 (z253 == false))))))) ((app p1 ([45] : List UInt8)).bind fun l260 => ((L_syntax_Name l260).bind fun z262 => (cond (!z262) ((app ([45] : List UInt8) p1).bind fun l269 => ((L_syntax_Name l269).bind fun z271 => (cond (!z271) (cond (!z21) (L_subwaylaw04_SyntaxNames_k3 true) ((app p1 ([45] : List UInt8)).bind fun l279 => ((app l279 ([p2] : List UInt8)).bind fun l281 => ((L_syntax_Name l281).bind fun z283 => (cond v18 (L_subwaylaw04_SyntaxNames_k3 (z283 == (decide (((List.length p1 : Nat) : Int) < 19)))) (L_subwaylaw04_SyntaxNames_k3 (z283 == false))))))) (L_subwaylaw04_SyntaxNames_k3 false)))) (L_subwaylaw04_SyntaxNames_k3 false))))) (L_subwaylaw04_SyntaxNames_k3 false)) (cond (z239 == false) (cond (!z21) (cond (!z21) (L_subwaylaw04_SyntaxNames_k3 true) ((app p1 ([45] : List UInt8)).bind fun l293 => ((app l293 ([p2] : List UInt8)).bind fun l295 => ((L_syntax_Name l295).bind fun z297 => (cond v18 (L_subwaylaw04_SyntaxNames_k3 (z297 == (decide (((List.length p1 : Nat) : Int) < 19)))) (L_subwaylaw04_SyntaxNames_k3 (z297 == false))))))) ((app p1 ([45] : List UInt8)).bind fun l304 => ((L_syntax_Name l304).bind fun z306 => (cond (!z306) ((app ([45] : List UInt8) p1).bind fun l313 => ((L_syntax_Name l313).bind fun z315 => (cond (!z315) (cond (!z21) (L_subwaylaw04_SyntaxNames_k3 true) ((app p1 ([45] : List UInt8)).bind fun l323 => ((app l323 ([p2] : List UInt8)).bind fun l325 => ((L_syntax_Name l325).bind fun z327 => (cond v18 (L_subwaylaw04_SyntaxNames_k3 (z327 == (decide (((List.length p1 : Nat) : Int) < 19)))) (L_subwaylaw04_SyntaxNames_k3 (z327 == false))))))) (L_subwaylaw04_SyntaxNames_k3 false)))) (L_subwaylaw04_SyntaxNames_k3 false))))) (L_subwaylaw04_SyntaxNames_k3 false)))))) (L_subwaylaw04_SyntaxNames_k3 false))))
def L_subwaylaw04_SyntaxNames (p1 : (List UInt8)) (p2 : UInt8) : Option (Bool) :=
  ((L_subwaylaw04_head ).bind fun z3 => (cond (decide (((List.length p1 : Nat) : Int) > 1000)) (some (z3)) (cond (decide (((p2).toNat : Int) ≥ 97)) (cond (decide (((p2).toNat : Int) ≤ 122)) (L_subwaylaw04_SyntaxNames_k1 p1 p2 z3 true) (cond (decide (((p2).toNat : Int) ≥ 48)) (L_subwaylaw04_SyntaxNames_k1 p1 p2 z3 (decide (((p2).toNat : Int) ≤ 57))) (L_subwaylaw04_SyntaxNames_k1 p1 p2 z3 false))) (cond (decide (((p2).toNat : Int) ≥ 48)) (L_subwaylaw04_SyntaxNames_k1 p1 p2 z3 (decide (((p2).toNat : Int) ≤ 57))) (L_subwaylaw04_SyntaxNames_k1 p1 p2 z3 false)))))
set_option maxRecDepth 100000 in
set_option maxHeartbeats 4000000 in
theorem L_subwaylaw04_SyntaxNames_walk  (p1 : (List UInt8)) (p2 : UInt8) (w0 : World) (hL : LaidW w0)  (r : (Bool)) (H : L_subwaylaw04_SyntaxNames p1 p2 = some r) :
  Calls Tryd.prog 7 #[(.string ⟨List.toArray p1⟩), (.int .u8 ((p2).toNat : Int))] w0 (fun e w' => e = .returned (.bool r) ∧ SP [] w0 w' []) := by
 unfold L_subwaylaw04_SyntaxNames at H
 refine calls_start (n := 98) Tryd.func7 (by kernel_rfl) (by kernel_rfl) (by kernel_rfl) ?_
 have hs0 := SP.start [] w0
 refine At.seq (by kernel_rfl) (p0 := [false]) (p1 := [true]) rfl rfl ?_
 refine At.region (by kernel_rfl) (by kernel_rfl) ?_
 refine In.run' 1 (k' := 1) rfl [(4, (.bool false))] (by kernel_rfl) ?_
 refine In.fin (by kernel_rfl) ?_
 refine At.seq (by kernel_rfl) (p0 := [true, false]) (p1 := [true, true]) rfl rfl ?_
 refine At.region (by kernel_rfl) (by kernel_rfl) ?_
 obtain ⟨z3, hz4, H⟩ := bind_elim H
 refine In.step (k' := 1) rfl (by kernel_rfl) ?_
 refine Step.callF (f := 10) (fo := (.func 10)) (xs := #[]) (tys := #[]) (first := #[]) (captured := #[]) (d := (some 9)) (k := 0) (by kernel_rfl) rfl (by kernel_rfl) (by kernel_rfl) Tryd.call10 (L_subwaylaw04_head_walk   w0 (laid_below hL (SP.keeps hs0)) z3 hz4) ?_
 rintro e w5 ⟨rfl, hs6⟩
 refine ⟨_, rfl, ?_⟩
 have hs7 := SP.call hs0 hs6
 clear hs6
 have hs8 : SP [] w0 w5 [] := hs7
 clear hs7
 refine In.run' 1 (k' := 2) rfl [(5, (.bool z3))] (by kernel_rfl) ?_
 refine In.fin (by kernel_rfl) ?_
 refine At.seq (by kernel_rfl) (p0 := [true, true, false]) (p1 := [true, true, true]) rfl rfl ?_
 refine At.seq (by kernel_rfl) (p0 := [true, true, false, false]) (p1 := [true, true, false, true]) rfl rfl ?_
 refine At.region (by kernel_rfl) (by kernel_rfl) ?_
 refine In.run' 3 (k' := 3) rfl [(10, (.string ⟨List.toArray p1⟩)), (11, (.int .i64 ((List.length p1 : Nat) : Int))), (12, (.bool (decide (((List.length p1 : Nat) : Int) > 1000))))] (by kernel_rfl) ?_
 refine In.fin (by kernel_rfl) ?_
 refine At.cond (by kernel_rfl) (o := (.tmp 12)) (by kernel_rfl) (b := (decide (((List.length p1 : Nat) : Int) > 1000))) (by kernel_rfl) (p0 := [true, true, false, true, false]) (p1 := [true, true, false, true, true]) rfl rfl (fun hb9 => ?_) (fun hb9 => ?_)
 ·have H := ct H hb9
  refine At.seq (by kernel_rfl) (p0 := [true, true, false, true, false, false]) (p1 := [true, true, false, true, false, true]) rfl rfl ?_
  refine At.region (by kernel_rfl) (by kernel_rfl) ?_
  refine In.run' 2 (k' := 2) rfl [(13, (.bool z3)), (4, (.bool z3))] (by kernel_rfl) ?_
  refine In.fin (by kernel_rfl) ?_
  refine At.ret (by kernel_rfl) ?_
  refine ⟨(.bool z3), by kernel_rfl, ?_⟩
  obtain rfl := some_elim H
  exact ⟨rfl, SP.sel hs8 [] rfl rfl⟩
 ·have H := cf H hb9
  refine At.skip (by kernel_rfl) ?_
  refine At.seq (by kernel_rfl) (p0 := [true, true, true, false]) (p1 := [true, true, true, true]) rfl rfl ?_
  refine At.region (by kernel_rfl) (by kernel_rfl) ?_
  refine In.run' 1 (k' := 1) rfl [(14, (.int .u8 ((p2).toNat : Int)))] (by kernel_rfl) ?_
  refine In.step (k' := 2) rfl (by kernel_rfl) ?_
  refine Step.newSlice (e := eU8) (T := 39) (E := 5) (len := 1) (parts := #[(0, (.tmp 14))]) (cs := #[(.int .u8 ((p2).toNat : Int))]) ([p2] : List UInt8) (d := (some 15)) (k := 1) (by kernel_rfl) rfl (fun _ => by kernel_rfl) hs8 (cells_cons8 (Or.inl rfl) rfl) rfl rfl rfl ?_
  intro g10 w11 hs12
  have hs13 : SP [] w0 w11 [rowT 5 eU8 (some ⟨g10, 0, none⟩) (List.length ([p2] : List UInt8)) ([p2] : List UInt8)] := hs12
  clear hs12
  refine In.step (k' := 3) rfl (by kernel_rfl) ?_
  refine Step.toStr (T := 39) (S' := 9) (E := 5) (x := (.tmp 15)) (A := (some ⟨g10, 0, none⟩)) (c := (List.length ([p2] : List UInt8))) (l := ([p2] : List UInt8)) (d := (some 16)) (k := 2) (by kernel_rfl) rfl (by kernel_rfl) (by kernel_rfl) (by kernel_rfl) (by kernel_rfl) (rowT_rd (SP.get hs13 (i := 0) rfl)) ?_
  refine In.run' 1 (k' := 4) rfl [(6, (.string ⟨List.toArray ([p2] : List UInt8)⟩))] (by kernel_rfl) ?_
  refine In.fin (by kernel_rfl) ?_
  refine At.seq (by kernel_rfl) (p0 := [true, true, true, true, false]) (p1 := [true, true, true, true, true]) rfl rfl ?_
  refine At.join (fun ρ w => ∃ (v18 : Bool), Known ρ [(0, (.string ⟨List.toArray p1⟩)), (5, (.bool z3)), (6, (.string ⟨List.toArray ([p2] : List UInt8)⟩)), (7, (.bool v18))] ∧ SP [] w0 w [] ∧ L_subwaylaw04_SyntaxNames_k1 p1 p2 z3 v18 = some r) ?_ ?_
  ·refine At.region (by kernel_rfl) (by kernel_rfl) ?_
   refine In.run' 3 (k' := 3) rfl [(17, (.int .u8 ((p2).toNat : Int))), (18, (.bool (decide (((p2).toNat : Int) ≥ 97)))), (19, (.bool (decide (((p2).toNat : Int) ≥ 97))))] (by kernel_rfl) ?_
   refine In.guard (t := 19) (b := (decide (((p2).toNat : Int) ≥ 97))) (by kernel_rfl) (fun hb334 => ?_) (fun hb334 => ?_)
   ·have H := ct H hb334
    refine In.run' 4 (k' := 7) rfl [(20, (.int .u8 ((p2).toNat : Int))), (21, (.bool (decide (((p2).toNat : Int) ≤ 122)))), (22, (.bool (decide (((p2).toNat : Int) ≤ 122)))), (23, (.bool (decide (((p2).toNat : Int) ≤ 122))))] (by kernel_rfl) ?_
    refine In.guard (t := 23) (b := (decide (((p2).toNat : Int) ≤ 122))) (by kernel_rfl) (fun hb335 => ?_) (fun hb335 => ?_)
    ·have H := ct H hb335
     refine In.run' 8 (k' := 15) rfl [(24, undef), (25, undef), (26, undef), (27, undef), (28, undef), (29, undef), (30, (.bool true)), (7, (.bool true))] (by kernel_rfl) ?_
     refine In.fin (by kernel_rfl) ?_
     exact ⟨true, ⟨(by kernel_rfl), (by kernel_rfl), (by kernel_rfl), (by kernel_rfl), trivial⟩, SP.sel hs13 [] rfl rfl, H⟩
    ·have H := cf H hb335
     refine In.run' 3 (k' := 10) rfl [(24, (.int .u8 ((p2).toNat : Int))), (25, (.bool (decide (((p2).toNat : Int) ≥ 48)))), (26, (.bool (decide (((p2).toNat : Int) ≥ 48))))] (by kernel_rfl) ?_
     refine In.guard (t := 26) (b := (decide (((p2).toNat : Int) ≥ 48))) (by kernel_rfl) (fun hb336 => ?_) (fun hb336 => ?_)
     ·have H := ct H hb336
      refine In.run' 5 (k' := 15) rfl [(27, (.int .u8 ((p2).toNat : Int))), (28, (.bool (decide (((p2).toNat : Int) ≤ 57)))), (29, (.bool (decide (((p2).toNat : Int) ≤ 57)))), (30, (.bool (decide (((p2).toNat : Int) ≤ 57)))), (7, (.bool (decide (((p2).toNat : Int) ≤ 57))))] (by kernel_rfl) ?_
      refine In.fin (by kernel_rfl) ?_
      exact ⟨(decide (((p2).toNat : Int) ≤ 57)), ⟨(by kernel_rfl), (by kernel_rfl), (by kernel_rfl), (by kernel_rfl), trivial⟩, SP.sel hs13 [] rfl rfl, H⟩
     ·have H := cf H hb336
      refine In.run' 5 (k' := 15) rfl [(27, undef), (28, undef), (29, (.bool false)), (30, (.bool false)), (7, (.bool false))] (by kernel_rfl) ?_
      refine In.fin (by kernel_rfl) ?_
      exact ⟨false, ⟨(by kernel_rfl), (by kernel_rfl), (by kernel_rfl), (by kernel_rfl), trivial⟩, SP.sel hs13 [] rfl rfl, H⟩
   ·have H := cf H hb334
    refine In.run' 7 (k' := 10) rfl [(20, undef), (21, undef), (22, (.bool false)), (23, (.bool false)), (24, (.int .u8 ((p2).toNat : Int))), (25, (.bool (decide (((p2).toNat : Int) ≥ 48)))), (26, (.bool (decide (((p2).toNat : Int) ≥ 48))))] (by kernel_rfl) ?_
    refine In.guard (t := 26) (b := (decide (((p2).toNat : Int) ≥ 48))) (by kernel_rfl) (fun hb337 => ?_) (fun hb337 => ?_)
    ·have H := ct H hb337
     refine In.run' 5 (k' := 15) rfl [(27, (.int .u8 ((p2).toNat : Int))), (28, (.bool (decide (((p2).toNat : Int) ≤ 57)))), (29, (.bool (decide (((p2).toNat : Int) ≤ 57)))), (30, (.bool (decide (((p2).toNat : Int) ≤ 57)))), (7, (.bool (decide (((p2).toNat : Int) ≤ 57))))] (by kernel_rfl) ?_
     refine In.fin (by kernel_rfl) ?_
     exact ⟨(decide (((p2).toNat : Int) ≤ 57)), ⟨(by kernel_rfl), (by kernel_rfl), (by kernel_rfl), (by kernel_rfl), trivial⟩, SP.sel hs13 [] rfl rfl, H⟩
    ·have H := cf H hb337
     refine In.run' 5 (k' := 15) rfl [(27, undef), (28, undef), (29, (.bool false)), (30, (.bool false)), (7, (.bool false))] (by kernel_rfl) ?_
     refine In.fin (by kernel_rfl) ?_
     exact ⟨false, ⟨(by kernel_rfl), (by kernel_rfl), (by kernel_rfl), (by kernel_rfl), trivial⟩, SP.sel hs13 [] rfl rfl, H⟩
  ·rintro ρ w19 ⟨v18, hk, hs20, H⟩
   unfold L_subwaylaw04_SyntaxNames_k1 at H
   refine At.known [(0, (.string ⟨List.toArray p1⟩)), (5, (.bool z3)), (6, (.string ⟨List.toArray ([p2] : List UInt8)⟩)), (7, (.bool v18))] hk ?_
   refine At.seq (by kernel_rfl) (p0 := [true, true, true, true, true, false]) (p1 := [true, true, true, true, true, true]) rfl rfl ?_
   refine At.region (by kernel_rfl) (by kernel_rfl) ?_
   refine In.run' 1 (k' := 1) rfl [(31, (.string ⟨List.toArray p1⟩))] (by kernel_rfl) ?_
   obtain ⟨z21, hz22, H⟩ := bind_elim H
   refine In.step (k' := 2) rfl (by kernel_rfl) ?_
   refine Step.callF (f := 15) (fo := (.func 15)) (xs := #[(.tmp 31)]) (tys := #[9]) (first := #[]) (captured := #[]) (d := (some 32)) (k := 1) (by kernel_rfl) rfl (by kernel_rfl) (by kernel_rfl) Tryd.call15 (L_syntax_Name_walk  p1 w19  z21 hz22) ?_
   rintro e w23 ⟨rfl, hs24⟩
   refine ⟨_, rfl, ?_⟩
   have hs25 := SP.call hs20 hs24
   clear hs24
   have hs26 : SP [] w0 w23 [] := hs25
   clear hs25
   refine In.run' 1 (k' := 3) rfl [(8, (.bool z21))] (by kernel_rfl) ?_
   refine In.fin (by kernel_rfl) ?_
   refine At.seq (by kernel_rfl) (p0 := [true, true, true, true, true, true, false]) (p1 := [true, true, true, true, true, true, true]) rfl rfl ?_
   refine At.seq (by kernel_rfl) (p0 := [true, true, true, true, true, true, false, false]) (p1 := [true, true, true, true, true, true, false, true]) rfl rfl ?_
   refine At.region (by kernel_rfl) (by kernel_rfl) ?_
   refine In.run' 1 (k' := 1) rfl [(33, (.string ⟨List.toArray p1⟩))] (by kernel_rfl) ?_
   refine In.step (k' := 2) rfl (by kernel_rfl) ?_
   refine Step.strOp (op := .eql) (T := 9) (T' := 9) (x := (.tmp 33)) (y := (.const (.string ⟨List.toArray ([] : List UInt8)⟩))) (a := p1) (b := ([] : List UInt8)) (r := (.bool (p1 == ([] : List UInt8)))) (d := (some 34)) (k := 1) (by kernel_rfl) rfl (by kernel_rfl) (by kernel_rfl) rfl ?_
   refine In.fin (by kernel_rfl) ?_
   refine At.cond (by kernel_rfl) (o := (.tmp 34)) (by kernel_rfl) (b := (p1 == ([] : List UInt8))) (by kernel_rfl) (p0 := [true, true, true, true, true, true, false, true, false]) (p1 := [true, true, true, true, true, true, false, true, true]) rfl rfl (fun hb27 => ?_) (fun hb27 => ?_)
   ·have H := ct H hb27
    refine At.seq (by kernel_rfl) (p0 := [true, true, true, true, true, true, false, true, false, false]) (p1 := [true, true, true, true, true, true, false, true, false, true]) rfl rfl ?_
    refine At.join (fun ρ w => ∃ (v36 : Bool), Known ρ [(4, (.bool v36))] ∧ SP [] w0 w [] ∧ L_subwaylaw04_SyntaxNames_k2 v36 = some r) ?_ ?_
    ·refine At.region (by kernel_rfl) (by kernel_rfl) ?_
     refine In.run' 2 (k' := 2) rfl [(35, (.bool z3)), (36, (.bool z3))] (by kernel_rfl) ?_
     refine In.guard (t := 36) (b := z3) (by kernel_rfl) (fun hb39 => ?_) (fun hb39 => ?_)
     ·have H := ct H hb39
      refine In.run' 4 (k' := 6) rfl [(37, (.bool z21)), (38, (.bool (!z21))), (39, (.bool (!z21))), (40, (.bool (!z21)))] (by kernel_rfl) ?_
      refine In.guard (t := 40) (b := (!z21)) (by kernel_rfl) (fun hb40 => ?_) (fun hb40 => ?_)
      ·have H := ct H hb40
       refine In.run' 1 (k' := 7) rfl [(41, (.string ⟨List.toArray ([p2] : List UInt8)⟩))] (by kernel_rfl) ?_
       obtain ⟨z41, hz42, H⟩ := bind_elim H
       refine In.step (k' := 8) rfl (by kernel_rfl) ?_
       refine Step.callF (f := 15) (fo := (.func 15)) (xs := #[(.tmp 41)]) (tys := #[9]) (first := #[]) (captured := #[]) (d := (some 42)) (k := 7) (by kernel_rfl) rfl (by kernel_rfl) (by kernel_rfl) Tryd.call15 (L_syntax_Name_walk  ([p2] : List UInt8) w23  z41 hz42) ?_
       rintro e w43 ⟨rfl, hs44⟩
       refine ⟨_, rfl, ?_⟩
       have hs45 := SP.call hs26 hs44
       clear hs44
       have hs46 : SP [] w0 w43 [] := hs45
       clear hs45
       refine In.run' 4 (k' := 12) rfl [(43, (.bool v18)), (44, (.bool (z41 == v18))), (45, (.bool (z41 == v18))), (4, (.bool (z41 == v18)))] (by kernel_rfl) ?_
       refine In.fin (by kernel_rfl) ?_
       exact ⟨(z41 == v18), ⟨(by kernel_rfl), trivial⟩, SP.sel hs46 [] rfl rfl, H⟩
      ·have H := cf H hb40
       refine In.run' 6 (k' := 12) rfl [(41, undef), (42, undef), (43, undef), (44, undef), (45, (.bool false)), (4, (.bool false))] (by kernel_rfl) ?_
       refine In.fin (by kernel_rfl) ?_
       exact ⟨false, ⟨(by kernel_rfl), trivial⟩, SP.sel hs26 [] rfl rfl, H⟩
     ·have H := cf H hb39
      refine In.run' 10 (k' := 12) rfl [(37, undef), (38, undef), (39, (.bool false)), (40, (.bool false)), (41, undef), (42, undef), (43, undef), (44, undef), (45, (.bool false)), (4, (.bool false))] (by kernel_rfl) ?_
      refine In.fin (by kernel_rfl) ?_
      exact ⟨false, ⟨(by kernel_rfl), trivial⟩, SP.sel hs26 [] rfl rfl, H⟩
    ·rintro ρ w37 ⟨v36, hk, hs38, H⟩
     unfold L_subwaylaw04_SyntaxNames_k2 at H
     refine At.known [(4, (.bool v36))] hk ?_
     refine At.ret (by kernel_rfl) ?_
     refine ⟨(.bool v36), by kernel_rfl, ?_⟩
     obtain rfl := some_elim H
     exact ⟨rfl, SP.sel hs38 [] rfl rfl⟩
   ·have H := cf H hb27
    refine At.skip (by kernel_rfl) ?_
    refine At.seq (by kernel_rfl) (p0 := [true, true, true, true, true, true, true, false]) (p1 := [true, true, true, true, true, true, true, true]) rfl rfl ?_
    refine At.join (fun ρ w => ∃ (v189 : Bool), Known ρ [(4, (.bool v189))] ∧ SP [] w0 w [] ∧ L_subwaylaw04_SyntaxNames_k3 v189 = some r) ?_ ?_
    ·refine At.region (by kernel_rfl) (by kernel_rfl) ?_
     refine In.run' 2 (k' := 2) rfl [(46, (.bool z3)), (47, (.bool z3))] (by kernel_rfl) ?_
     refine In.guard (t := 47) (b := z3) (by kernel_rfl) (fun hb192 => ?_) (fun hb192 => ?_)
     ·have H := ct H hb192
      refine In.run' 3 (k' := 5) rfl [(48, (.bool z21)), (49, (.bool (!z21))), (50, (.bool (!z21)))] (by kernel_rfl) ?_
      refine In.guard (t := 50) (b := (!z21)) (by kernel_rfl) (fun hb193 => ?_) (fun hb193 => ?_)
      ·have H := ct H hb193
       refine In.run' 17 (k' := 22) rfl [(51, undef), (52, undef), (53, undef), (54, undef), (55, undef), (56, undef), (57, undef), (58, undef), (59, undef), (60, undef), (61, undef), (62, (.bool true)), (63, (.bool true)), (64, (.bool true)), (65, (.bool z21)), (66, (.bool (!z21))), (67, (.bool (!z21)))] (by kernel_rfl) ?_
       refine In.guard (t := 67) (b := (!z21)) (by kernel_rfl) (fun hb194 => ?_) (fun hb194 => ?_)
       ·have H := ct H hb194
        refine In.run' 16 (k' := 38) rfl [(68, undef), (69, undef), (70, undef), (71, undef), (72, undef), (73, undef), (74, undef), (75, undef), (76, undef), (77, undef), (78, (.bool true)), (79, (.bool true)), (80, (.bool true)), (81, (.bool z21)), (82, (.bool (!z21))), (83, (.bool (!z21)))] (by kernel_rfl) ?_
        refine In.guard (t := 83) (b := (!z21)) (by kernel_rfl) (fun hb195 => ?_) (fun hb195 => ?_)
        ·have H := ct H hb195
         refine In.run' 15 (k' := 53) rfl [(84, undef), (85, undef), (86, undef), (87, undef), (88, undef), (89, undef), (90, undef), (91, undef), (92, undef), (93, undef), (94, undef), (95, undef), (96, (.bool true)), (97, (.bool true)), (4, (.bool true))] (by kernel_rfl) ?_
         refine In.fin (by kernel_rfl) ?_
         exact ⟨true, ⟨(by kernel_rfl), trivial⟩, SP.sel hs26 [] rfl rfl, H⟩
        ·have H := cf H hb195
         refine In.run' 1 (k' := 39) rfl [(84, (.string ⟨List.toArray p1⟩))] (by kernel_rfl) ?_
         obtain ⟨hl197, H⟩ := app_elim H
         obtain ⟨l196, hyl196⟩ : ∃ y, p1 ++ ([45] : List UInt8) = y := ⟨_, rfl⟩
         rw [hyl196] at H
         refine In.step (k' := 40) rfl (by kernel_rfl) ?_
         refine Step.strCat (T := 9) (T' := 9) (x := (.tmp 84)) (y := (.const (.string ⟨List.toArray ([45] : List UInt8)⟩))) (a := p1) (b := ([45] : List UInt8)) (d := (some 85)) (k := 39) (by kernel_rfl) rfl (by kernel_rfl) (by kernel_rfl) hl197 ?_
         rw [hyl196]
         refine In.run' 1 (k' := 41) rfl [(86, (.string ⟨List.toArray ([p2] : List UInt8)⟩))] (by kernel_rfl) ?_
         obtain ⟨hl199, H⟩ := app_elim H
         obtain ⟨l198, hyl198⟩ : ∃ y, l196 ++ ([p2] : List UInt8) = y := ⟨_, rfl⟩
         rw [hyl198] at H
         refine In.step (k' := 42) rfl (by kernel_rfl) ?_
         refine Step.strCat (T := 9) (T' := 9) (x := (.tmp 85)) (y := (.tmp 86)) (a := l196) (b := ([p2] : List UInt8)) (d := (some 87)) (k := 41) (by kernel_rfl) rfl (by kernel_rfl) (by kernel_rfl) hl199 ?_
         rw [hyl198]
         obtain ⟨z200, hz201, H⟩ := bind_elim H
         refine In.step (k' := 43) rfl (by kernel_rfl) ?_
         refine Step.callF (f := 15) (fo := (.func 15)) (xs := #[(.tmp 87)]) (tys := #[9]) (first := #[]) (captured := #[]) (d := (some 88)) (k := 42) (by kernel_rfl) rfl (by kernel_rfl) (by kernel_rfl) Tryd.call15 (L_syntax_Name_walk  l198 w23  z200 hz201) ?_
         rintro e w202 ⟨rfl, hs203⟩
         refine ⟨_, rfl, ?_⟩
         have hs204 := SP.call hs26 hs203
         clear hs203
         have hs205 : SP [] w0 w202 [] := hs204
         clear hs204
         refine In.run' 2 (k' := 45) rfl [(89, (.bool v18)), (90, (.bool v18))] (by kernel_rfl) ?_
         refine In.guard (t := 90) (b := v18) (by kernel_rfl) (fun hb206 => ?_) (fun hb206 => ?_)
         ·have H := ct H hb206
          refine In.run' 8 (k' := 53) rfl [(91, (.string ⟨List.toArray p1⟩)), (92, (.int .i64 ((List.length p1 : Nat) : Int))), (93, (.bool (decide (((List.length p1 : Nat) : Int) < 19)))), (94, (.bool (decide (((List.length p1 : Nat) : Int) < 19)))), (95, (.bool (z200 == (decide (((List.length p1 : Nat) : Int) < 19))))), (96, (.bool (z200 == (decide (((List.length p1 : Nat) : Int) < 19))))), (97, (.bool (z200 == (decide (((List.length p1 : Nat) : Int) < 19))))), (4, (.bool (z200 == (decide (((List.length p1 : Nat) : Int) < 19)))))] (by kernel_rfl) ?_
          refine In.fin (by kernel_rfl) ?_
          exact ⟨(z200 == (decide (((List.length p1 : Nat) : Int) < 19))), ⟨(by kernel_rfl), trivial⟩, SP.sel hs205 [] rfl rfl, H⟩
         ·have H := cf H hb206
          refine In.run' 8 (k' := 53) rfl [(91, undef), (92, undef), (93, undef), (94, (.bool false)), (95, (.bool (z200 == false))), (96, (.bool (z200 == false))), (97, (.bool (z200 == false))), (4, (.bool (z200 == false)))] (by kernel_rfl) ?_
          refine In.fin (by kernel_rfl) ?_
          exact ⟨(z200 == false), ⟨(by kernel_rfl), trivial⟩, SP.sel hs205 [] rfl rfl, H⟩
       ·have H := cf H hb194
        refine In.run' 1 (k' := 23) rfl [(68, (.string ⟨List.toArray p1⟩))] (by kernel_rfl) ?_
        obtain ⟨hl208, H⟩ := app_elim H
        obtain ⟨l207, hyl207⟩ : ∃ y, p1 ++ ([45] : List UInt8) = y := ⟨_, rfl⟩
        rw [hyl207] at H
        refine In.step (k' := 24) rfl (by kernel_rfl) ?_
        refine Step.strCat (T := 9) (T' := 9) (x := (.tmp 68)) (y := (.const (.string ⟨List.toArray ([45] : List UInt8)⟩))) (a := p1) (b := ([45] : List UInt8)) (d := (some 69)) (k := 23) (by kernel_rfl) rfl (by kernel_rfl) (by kernel_rfl) hl208 ?_
        rw [hyl207]
        obtain ⟨z209, hz210, H⟩ := bind_elim H
        refine In.step (k' := 25) rfl (by kernel_rfl) ?_
        refine Step.callF (f := 15) (fo := (.func 15)) (xs := #[(.tmp 69)]) (tys := #[9]) (first := #[]) (captured := #[]) (d := (some 70)) (k := 24) (by kernel_rfl) rfl (by kernel_rfl) (by kernel_rfl) Tryd.call15 (L_syntax_Name_walk  l207 w23  z209 hz210) ?_
        rintro e w211 ⟨rfl, hs212⟩
        refine ⟨_, rfl, ?_⟩
        have hs213 := SP.call hs26 hs212
        clear hs212
        have hs214 : SP [] w0 w211 [] := hs213
        clear hs213
        refine In.run' 2 (k' := 27) rfl [(71, (.bool (!z209))), (72, (.bool (!z209)))] (by kernel_rfl) ?_
        refine In.guard (t := 72) (b := (!z209)) (by kernel_rfl) (fun hb215 => ?_) (fun hb215 => ?_)
        ·have H := ct H hb215
         refine In.run' 1 (k' := 28) rfl [(73, (.string ⟨List.toArray p1⟩))] (by kernel_rfl) ?_
         obtain ⟨hl217, H⟩ := app_elim H
         obtain ⟨l216, hyl216⟩ : ∃ y, ([45] : List UInt8) ++ p1 = y := ⟨_, rfl⟩
         rw [hyl216] at H
         refine In.step (k' := 29) rfl (by kernel_rfl) ?_
         refine Step.strCat (T := 9) (T' := 9) (x := (.const (.string ⟨List.toArray ([45] : List UInt8)⟩))) (y := (.tmp 73)) (a := ([45] : List UInt8)) (b := p1) (d := (some 74)) (k := 28) (by kernel_rfl) rfl (by kernel_rfl) (by kernel_rfl) hl217 ?_
         rw [hyl216]
         obtain ⟨z218, hz219, H⟩ := bind_elim H
         refine In.step (k' := 30) rfl (by kernel_rfl) ?_
         refine Step.callF (f := 15) (fo := (.func 15)) (xs := #[(.tmp 74)]) (tys := #[9]) (first := #[]) (captured := #[]) (d := (some 75)) (k := 29) (by kernel_rfl) rfl (by kernel_rfl) (by kernel_rfl) Tryd.call15 (L_syntax_Name_walk  l216 w211  z218 hz219) ?_
         rintro e w220 ⟨rfl, hs221⟩
         refine ⟨_, rfl, ?_⟩
         have hs222 := SP.call hs214 hs221
         clear hs221
         have hs223 : SP [] w0 w220 [] := hs222
         clear hs222
         refine In.run' 5 (k' := 35) rfl [(76, (.bool (!z218))), (77, (.bool (!z218))), (78, (.bool (!z218))), (79, (.bool (!z218))), (80, (.bool (!z218)))] (by kernel_rfl) ?_
         refine In.guard (t := 80) (b := (!z218)) (by kernel_rfl) (fun hb224 => ?_) (fun hb224 => ?_)
         ·have H := ct H hb224
          refine In.run' 3 (k' := 38) rfl [(81, (.bool z21)), (82, (.bool (!z21))), (83, (.bool (!z21)))] (by kernel_rfl) ?_
          refine In.guard (t := 83) (b := (!z21)) (by kernel_rfl) (fun hb225 => ?_) (fun hb225 => ?_)
          ·have H := ct H hb225
           refine In.run' 15 (k' := 53) rfl [(84, undef), (85, undef), (86, undef), (87, undef), (88, undef), (89, undef), (90, undef), (91, undef), (92, undef), (93, undef), (94, undef), (95, undef), (96, (.bool true)), (97, (.bool true)), (4, (.bool true))] (by kernel_rfl) ?_
           refine In.fin (by kernel_rfl) ?_
           exact ⟨true, ⟨(by kernel_rfl), trivial⟩, SP.sel hs223 [] rfl rfl, H⟩
          ·have H := cf H hb225
           refine In.run' 1 (k' := 39) rfl [(84, (.string ⟨List.toArray p1⟩))] (by kernel_rfl) ?_
           obtain ⟨hl227, H⟩ := app_elim H
           obtain ⟨l226, hyl226⟩ : ∃ y, p1 ++ ([45] : List UInt8) = y := ⟨_, rfl⟩
           rw [hyl226] at H
           refine In.step (k' := 40) rfl (by kernel_rfl) ?_
           refine Step.strCat (T := 9) (T' := 9) (x := (.tmp 84)) (y := (.const (.string ⟨List.toArray ([45] : List UInt8)⟩))) (a := p1) (b := ([45] : List UInt8)) (d := (some 85)) (k := 39) (by kernel_rfl) rfl (by kernel_rfl) (by kernel_rfl) hl227 ?_
           rw [hyl226]
           refine In.run' 1 (k' := 41) rfl [(86, (.string ⟨List.toArray ([p2] : List UInt8)⟩))] (by kernel_rfl) ?_
           obtain ⟨hl229, H⟩ := app_elim H
           obtain ⟨l228, hyl228⟩ : ∃ y, l226 ++ ([p2] : List UInt8) = y := ⟨_, rfl⟩
           rw [hyl228] at H
           refine In.step (k' := 42) rfl (by kernel_rfl) ?_
           refine Step.strCat (T := 9) (T' := 9) (x := (.tmp 85)) (y := (.tmp 86)) (a := l226) (b := ([p2] : List UInt8)) (d := (some 87)) (k := 41) (by kernel_rfl) rfl (by kernel_rfl) (by kernel_rfl) hl229 ?_
           rw [hyl228]
           obtain ⟨z230, hz231, H⟩ := bind_elim H
           refine In.step (k' := 43) rfl (by kernel_rfl) ?_
           refine Step.callF (f := 15) (fo := (.func 15)) (xs := #[(.tmp 87)]) (tys := #[9]) (first := #[]) (captured := #[]) (d := (some 88)) (k := 42) (by kernel_rfl) rfl (by kernel_rfl) (by kernel_rfl) Tryd.call15 (L_syntax_Name_walk  l228 w220  z230 hz231) ?_
           rintro e w232 ⟨rfl, hs233⟩
           refine ⟨_, rfl, ?_⟩
           have hs234 := SP.call hs223 hs233
           clear hs233
           have hs235 : SP [] w0 w232 [] := hs234
           clear hs234
           refine In.run' 2 (k' := 45) rfl [(89, (.bool v18)), (90, (.bool v18))] (by kernel_rfl) ?_
           refine In.guard (t := 90) (b := v18) (by kernel_rfl) (fun hb236 => ?_) (fun hb236 => ?_)
           ·have H := ct H hb236
            refine In.run' 8 (k' := 53) rfl [(91, (.string ⟨List.toArray p1⟩)), (92, (.int .i64 ((List.length p1 : Nat) : Int))), (93, (.bool (decide (((List.length p1 : Nat) : Int) < 19)))), (94, (.bool (decide (((List.length p1 : Nat) : Int) < 19)))), (95, (.bool (z230 == (decide (((List.length p1 : Nat) : Int) < 19))))), (96, (.bool (z230 == (decide (((List.length p1 : Nat) : Int) < 19))))), (97, (.bool (z230 == (decide (((List.length p1 : Nat) : Int) < 19))))), (4, (.bool (z230 == (decide (((List.length p1 : Nat) : Int) < 19)))))] (by kernel_rfl) ?_
            refine In.fin (by kernel_rfl) ?_
            exact ⟨(z230 == (decide (((List.length p1 : Nat) : Int) < 19))), ⟨(by kernel_rfl), trivial⟩, SP.sel hs235 [] rfl rfl, H⟩
           ·have H := cf H hb236
            refine In.run' 8 (k' := 53) rfl [(91, undef), (92, undef), (93, undef), (94, (.bool false)), (95, (.bool (z230 == false))), (96, (.bool (z230 == false))), (97, (.bool (z230 == false))), (4, (.bool (z230 == false)))] (by kernel_rfl) ?_
            refine In.fin (by kernel_rfl) ?_
            exact ⟨(z230 == false), ⟨(by kernel_rfl), trivial⟩, SP.sel hs235 [] rfl rfl, H⟩
         ·have H := cf H hb224
          refine In.run' 18 (k' := 53) rfl [(81, undef), (82, undef), (83, undef), (84, undef), (85, undef), (86, undef), (87, undef), (88, undef), (89, undef), (90, undef), (91, undef), (92, undef), (93, undef), (94, undef), (95, undef), (96, undef), (97, (.bool false)), (4, (.bool false))] (by kernel_rfl) ?_
          refine In.fin (by kernel_rfl) ?_
          exact ⟨false, ⟨(by kernel_rfl), trivial⟩, SP.sel hs223 [] rfl rfl, H⟩
        ·have H := cf H hb215
         refine In.run' 26 (k' := 53) rfl [(73, undef), (74, undef), (75, undef), (76, undef), (77, (.bool false)), (78, (.bool false)), (79, (.bool false)), (80, (.bool false)), (81, undef), (82, undef), (83, undef), (84, undef), (85, undef), (86, undef), (87, undef), (88, undef), (89, undef), (90, undef), (91, undef), (92, undef), (93, undef), (94, undef), (95, undef), (96, undef), (97, (.bool false)), (4, (.bool false))] (by kernel_rfl) ?_
         refine In.fin (by kernel_rfl) ?_
         exact ⟨false, ⟨(by kernel_rfl), trivial⟩, SP.sel hs214 [] rfl rfl, H⟩
      ·have H := cf H hb193
       refine In.run' 2 (k' := 7) rfl [(51, (.string ⟨List.toArray p1⟩)), (52, (.string ⟨List.toArray ([p2] : List UInt8)⟩))] (by kernel_rfl) ?_
       obtain ⟨hl238, H⟩ := app_elim H
       obtain ⟨l237, hyl237⟩ : ∃ y, p1 ++ ([p2] : List UInt8) = y := ⟨_, rfl⟩
       rw [hyl237] at H
       refine In.step (k' := 8) rfl (by kernel_rfl) ?_
       refine Step.strCat (T := 9) (T' := 9) (x := (.tmp 51)) (y := (.tmp 52)) (a := p1) (b := ([p2] : List UInt8)) (d := (some 53)) (k := 7) (by kernel_rfl) rfl (by kernel_rfl) (by kernel_rfl) hl238 ?_
       rw [hyl237]
       obtain ⟨z239, hz240, H⟩ := bind_elim H
       refine In.step (k' := 9) rfl (by kernel_rfl) ?_
       refine Step.callF (f := 15) (fo := (.func 15)) (xs := #[(.tmp 53)]) (tys := #[9]) (first := #[]) (captured := #[]) (d := (some 54)) (k := 8) (by kernel_rfl) rfl (by kernel_rfl) (by kernel_rfl) Tryd.call15 (L_syntax_Name_walk  l237 w23  z239 hz240) ?_
       rintro e w241 ⟨rfl, hs242⟩
       refine ⟨_, rfl, ?_⟩
       have hs243 := SP.call hs26 hs242
       clear hs242
       have hs244 : SP [] w0 w241 [] := hs243
       clear hs243
       refine In.run' 2 (k' := 11) rfl [(55, (.bool v18)), (56, (.bool v18))] (by kernel_rfl) ?_
       refine In.guard (t := 56) (b := v18) (by kernel_rfl) (fun hb245 => ?_) (fun hb245 => ?_)
       ·have H := ct H hb245
        refine In.run' 8 (k' := 19) rfl [(57, (.string ⟨List.toArray p1⟩)), (58, (.int .i64 ((List.length p1 : Nat) : Int))), (59, (.bool (decide (((List.length p1 : Nat) : Int) < 20)))), (60, (.bool (decide (((List.length p1 : Nat) : Int) < 20)))), (61, (.bool (z239 == (decide (((List.length p1 : Nat) : Int) < 20))))), (62, (.bool (z239 == (decide (((List.length p1 : Nat) : Int) < 20))))), (63, (.bool (z239 == (decide (((List.length p1 : Nat) : Int) < 20))))), (64, (.bool (z239 == (decide (((List.length p1 : Nat) : Int) < 20)))))] (by kernel_rfl) ?_
        refine In.guard (t := 64) (b := (z239 == (decide (((List.length p1 : Nat) : Int) < 20)))) (by kernel_rfl) (fun hb246 => ?_) (fun hb246 => ?_)
        ·have H := ct H hb246
         refine In.run' 3 (k' := 22) rfl [(65, (.bool z21)), (66, (.bool (!z21))), (67, (.bool (!z21)))] (by kernel_rfl) ?_
         refine In.guard (t := 67) (b := (!z21)) (by kernel_rfl) (fun hb247 => ?_) (fun hb247 => ?_)
         ·have H := ct H hb247
          refine In.run' 16 (k' := 38) rfl [(68, undef), (69, undef), (70, undef), (71, undef), (72, undef), (73, undef), (74, undef), (75, undef), (76, undef), (77, undef), (78, (.bool true)), (79, (.bool true)), (80, (.bool true)), (81, (.bool z21)), (82, (.bool (!z21))), (83, (.bool (!z21)))] (by kernel_rfl) ?_
          refine In.guard (t := 83) (b := (!z21)) (by kernel_rfl) (fun hb248 => ?_) (fun hb248 => ?_)
          ·have H := ct H hb248
           refine In.run' 15 (k' := 53) rfl [(84, undef), (85, undef), (86, undef), (87, undef), (88, undef), (89, undef), (90, undef), (91, undef), (92, undef), (93, undef), (94, undef), (95, undef), (96, (.bool true)), (97, (.bool true)), (4, (.bool true))] (by kernel_rfl) ?_
           refine In.fin (by kernel_rfl) ?_
           exact ⟨true, ⟨(by kernel_rfl), trivial⟩, SP.sel hs244 [] rfl rfl, H⟩
          ·have H := cf H hb248
           refine In.run' 1 (k' := 39) rfl [(84, (.string ⟨List.toArray p1⟩))] (by kernel_rfl) ?_
           obtain ⟨hl250, H⟩ := app_elim H
           obtain ⟨l249, hyl249⟩ : ∃ y, p1 ++ ([45] : List UInt8) = y := ⟨_, rfl⟩
           rw [hyl249] at H
           refine In.step (k' := 40) rfl (by kernel_rfl) ?_
           refine Step.strCat (T := 9) (T' := 9) (x := (.tmp 84)) (y := (.const (.string ⟨List.toArray ([45] : List UInt8)⟩))) (a := p1) (b := ([45] : List UInt8)) (d := (some 85)) (k := 39) (by kernel_rfl) rfl (by kernel_rfl) (by kernel_rfl) hl250 ?_
           rw [hyl249]
           refine In.run' 1 (k' := 41) rfl [(86, (.string ⟨List.toArray ([p2] : List UInt8)⟩))] (by kernel_rfl) ?_
           obtain ⟨hl252, H⟩ := app_elim H
           obtain ⟨l251, hyl251⟩ : ∃ y, l249 ++ ([p2] : List UInt8) = y := ⟨_, rfl⟩
           rw [hyl251] at H
           refine In.step (k' := 42) rfl (by kernel_rfl) ?_
           refine Step.strCat (T := 9) (T' := 9) (x := (.tmp 85)) (y := (.tmp 86)) (a := l249) (b := ([p2] : List UInt8)) (d := (some 87)) (k := 41) (by kernel_rfl) rfl (by kernel_rfl) (by kernel_rfl) hl252 ?_
           rw [hyl251]
           obtain ⟨z253, hz254, H⟩ := bind_elim H
           refine In.step (k' := 43) rfl (by kernel_rfl) ?_
           refine Step.callF (f := 15) (fo := (.func 15)) (xs := #[(.tmp 87)]) (tys := #[9]) (first := #[]) (captured := #[]) (d := (some 88)) (k := 42) (by kernel_rfl) rfl (by kernel_rfl) (by kernel_rfl) Tryd.call15 (L_syntax_Name_walk  l251 w241  z253 hz254) ?_
           rintro e w255 ⟨rfl, hs256⟩
           refine ⟨_, rfl, ?_⟩
           have hs257 := SP.call hs244 hs256
           clear hs256
           have hs258 : SP [] w0 w255 [] := hs257
           clear hs257
           refine In.run' 2 (k' := 45) rfl [(89, (.bool v18)), (90, (.bool v18))] (by kernel_rfl) ?_
           refine In.guard (t := 90) (b := v18) (by kernel_rfl) (fun hb259 => ?_) (fun hb259 => ?_)
           ·have H := ct H hb259
            refine In.run' 8 (k' := 53) rfl [(91, (.string ⟨List.toArray p1⟩)), (92, (.int .i64 ((List.length p1 : Nat) : Int))), (93, (.bool (decide (((List.length p1 : Nat) : Int) < 19)))), (94, (.bool (decide (((List.length p1 : Nat) : Int) < 19)))), (95, (.bool (z253 == (decide (((List.length p1 : Nat) : Int) < 19))))), (96, (.bool (z253 == (decide (((List.length p1 : Nat) : Int) < 19))))), (97, (.bool (z253 == (decide (((List.length p1 : Nat) : Int) < 19))))), (4, (.bool (z253 == (decide (((List.length p1 : Nat) : Int) < 19)))))] (by kernel_rfl) ?_
            refine In.fin (by kernel_rfl) ?_
            exact ⟨(z253 == (decide (((List.length p1 : Nat) : Int) < 19))), ⟨(by kernel_rfl), trivial⟩, SP.sel hs258 [] rfl rfl, H⟩
           ·have H := cf H hb259
            refine In.run' 8 (k' := 53) rfl [(91, undef), (92, undef), (93, undef), (94, (.bool false)), (95, (.bool (z253 == false))), (96, (.bool (z253 == false))), (97, (.bool (z253 == false))), (4, (.bool (z253 == false)))] (by kernel_rfl) ?_
            refine In.fin (by kernel_rfl) ?_
            exact ⟨(z253 == false), ⟨(by kernel_rfl), trivial⟩, SP.sel hs258 [] rfl rfl, H⟩
         ·have H := cf H hb247
          refine In.run' 1 (k' := 23) rfl [(68, (.string ⟨List.toArray p1⟩))] (by kernel_rfl) ?_
          obtain ⟨hl261, H⟩ := app_elim H
          obtain ⟨l260, hyl260⟩ : ∃ y, p1 ++ ([45] : List UInt8) = y := ⟨_, rfl⟩
          rw [hyl260] at H
          refine In.step (k' := 24) rfl (by kernel_rfl) ?_
          refine Step.strCat (T := 9) (T' := 9) (x := (.tmp 68)) (y := (.const (.string ⟨List.toArray ([45] : List UInt8)⟩))) (a := p1) (b := ([45] : List UInt8)) (d := (some 69)) (k := 23) (by kernel_rfl) rfl (by kernel_rfl) (by kernel_rfl) hl261 ?_
          rw [hyl260]
          obtain ⟨z262, hz263, H⟩ := bind_elim H
          refine In.step (k' := 25) rfl (by kernel_rfl) ?_
          refine Step.callF (f := 15) (fo := (.func 15)) (xs := #[(.tmp 69)]) (tys := #[9]) (first := #[]) (captured := #[]) (d := (some 70)) (k := 24) (by kernel_rfl) rfl (by kernel_rfl) (by kernel_rfl) Tryd.call15 (L_syntax_Name_walk  l260 w241  z262 hz263) ?_
          rintro e w264 ⟨rfl, hs265⟩
          refine ⟨_, rfl, ?_⟩
          have hs266 := SP.call hs244 hs265
          clear hs265
          have hs267 : SP [] w0 w264 [] := hs266
          clear hs266
          refine In.run' 2 (k' := 27) rfl [(71, (.bool (!z262))), (72, (.bool (!z262)))] (by kernel_rfl) ?_
          refine In.guard (t := 72) (b := (!z262)) (by kernel_rfl) (fun hb268 => ?_) (fun hb268 => ?_)
          ·have H := ct H hb268
           refine In.run' 1 (k' := 28) rfl [(73, (.string ⟨List.toArray p1⟩))] (by kernel_rfl) ?_
           obtain ⟨hl270, H⟩ := app_elim H
           obtain ⟨l269, hyl269⟩ : ∃ y, ([45] : List UInt8) ++ p1 = y := ⟨_, rfl⟩
           rw [hyl269] at H
           refine In.step (k' := 29) rfl (by kernel_rfl) ?_
           refine Step.strCat (T := 9) (T' := 9) (x := (.const (.string ⟨List.toArray ([45] : List UInt8)⟩))) (y := (.tmp 73)) (a := ([45] : List UInt8)) (b := p1) (d := (some 74)) (k := 28) (by kernel_rfl) rfl (by kernel_rfl) (by kernel_rfl) hl270 ?_
           rw [hyl269]
           obtain ⟨z271, hz272, H⟩ := bind_elim H
           refine In.step (k' := 30) rfl (by kernel_rfl) ?_
           refine Step.callF (f := 15) (fo := (.func 15)) (xs := #[(.tmp 74)]) (tys := #[9]) (first := #[]) (captured := #[]) (d := (some 75)) (k := 29) (by kernel_rfl) rfl (by kernel_rfl) (by kernel_rfl) Tryd.call15 (L_syntax_Name_walk  l269 w264  z271 hz272) ?_
           rintro e w273 ⟨rfl, hs274⟩
           refine ⟨_, rfl, ?_⟩
           have hs275 := SP.call hs267 hs274
           clear hs274
           have hs276 : SP [] w0 w273 [] := hs275
           clear hs275
           refine In.run' 5 (k' := 35) rfl [(76, (.bool (!z271))), (77, (.bool (!z271))), (78, (.bool (!z271))), (79, (.bool (!z271))), (80, (.bool (!z271)))] (by kernel_rfl) ?_
           refine In.guard (t := 80) (b := (!z271)) (by kernel_rfl) (fun hb277 => ?_) (fun hb277 => ?_)
           ·have H := ct H hb277
            refine In.run' 3 (k' := 38) rfl [(81, (.bool z21)), (82, (.bool (!z21))), (83, (.bool (!z21)))] (by kernel_rfl) ?_
            refine In.guard (t := 83) (b := (!z21)) (by kernel_rfl) (fun hb278 => ?_) (fun hb278 => ?_)
            ·have H := ct H hb278
             refine In.run' 15 (k' := 53) rfl [(84, undef), (85, undef), (86, undef), (87, undef), (88, undef), (89, undef), (90, undef), (91, undef), (92, undef), (93, undef), (94, undef), (95, undef), (96, (.bool true)), (97, (.bool true)), (4, (.bool true))] (by kernel_rfl) ?_
             refine In.fin (by kernel_rfl) ?_
             exact ⟨true, ⟨(by kernel_rfl), trivial⟩, SP.sel hs276 [] rfl rfl, H⟩
            ·have H := cf H hb278
             refine In.run' 1 (k' := 39) rfl [(84, (.string ⟨List.toArray p1⟩))] (by kernel_rfl) ?_
             obtain ⟨hl280, H⟩ := app_elim H
             obtain ⟨l279, hyl279⟩ : ∃ y, p1 ++ ([45] : List UInt8) = y := ⟨_, rfl⟩
             rw [hyl279] at H
             refine In.step (k' := 40) rfl (by kernel_rfl) ?_
             refine Step.strCat (T := 9) (T' := 9) (x := (.tmp 84)) (y := (.const (.string ⟨List.toArray ([45] : List UInt8)⟩))) (a := p1) (b := ([45] : List UInt8)) (d := (some 85)) (k := 39) (by kernel_rfl) rfl (by kernel_rfl) (by kernel_rfl) hl280 ?_
             rw [hyl279]
             refine In.run' 1 (k' := 41) rfl [(86, (.string ⟨List.toArray ([p2] : List UInt8)⟩))] (by kernel_rfl) ?_
             obtain ⟨hl282, H⟩ := app_elim H
             obtain ⟨l281, hyl281⟩ : ∃ y, l279 ++ ([p2] : List UInt8) = y := ⟨_, rfl⟩
             rw [hyl281] at H
             refine In.step (k' := 42) rfl (by kernel_rfl) ?_
             refine Step.strCat (T := 9) (T' := 9) (x := (.tmp 85)) (y := (.tmp 86)) (a := l279) (b := ([p2] : List UInt8)) (d := (some 87)) (k := 41) (by kernel_rfl) rfl (by kernel_rfl) (by kernel_rfl) hl282 ?_
             rw [hyl281]
             obtain ⟨z283, hz284, H⟩ := bind_elim H
             refine In.step (k' := 43) rfl (by kernel_rfl) ?_
             refine Step.callF (f := 15) (fo := (.func 15)) (xs := #[(.tmp 87)]) (tys := #[9]) (first := #[]) (captured := #[]) (d := (some 88)) (k := 42) (by kernel_rfl) rfl (by kernel_rfl) (by kernel_rfl) Tryd.call15 (L_syntax_Name_walk  l281 w273  z283 hz284) ?_
             rintro e w285 ⟨rfl, hs286⟩
             refine ⟨_, rfl, ?_⟩
             have hs287 := SP.call hs276 hs286
             clear hs286
             have hs288 : SP [] w0 w285 [] := hs287
             clear hs287
             refine In.run' 2 (k' := 45) rfl [(89, (.bool v18)), (90, (.bool v18))] (by kernel_rfl) ?_
             refine In.guard (t := 90) (b := v18) (by kernel_rfl) (fun hb289 => ?_) (fun hb289 => ?_)
             ·have H := ct H hb289
              refine In.run' 8 (k' := 53) rfl [(91, (.string ⟨List.toArray p1⟩)), (92, (.int .i64 ((List.length p1 : Nat) : Int))), (93, (.bool (decide (((List.length p1 : Nat) : Int) < 19)))), (94, (.bool (decide (((List.length p1 : Nat) : Int) < 19)))), (95, (.bool (z283 == (decide (((List.length p1 : Nat) : Int) < 19))))), (96, (.bool (z283 == (decide (((List.length p1 : Nat) : Int) < 19))))), (97, (.bool (z283 == (decide (((List.length p1 : Nat) : Int) < 19))))), (4, (.bool (z283 == (decide (((List.length p1 : Nat) : Int) < 19)))))] (by kernel_rfl) ?_
              refine In.fin (by kernel_rfl) ?_
              exact ⟨(z283 == (decide (((List.length p1 : Nat) : Int) < 19))), ⟨(by kernel_rfl), trivial⟩, SP.sel hs288 [] rfl rfl, H⟩
             ·have H := cf H hb289
              refine In.run' 8 (k' := 53) rfl [(91, undef), (92, undef), (93, undef), (94, (.bool false)), (95, (.bool (z283 == false))), (96, (.bool (z283 == false))), (97, (.bool (z283 == false))), (4, (.bool (z283 == false)))] (by kernel_rfl) ?_
              refine In.fin (by kernel_rfl) ?_
              exact ⟨(z283 == false), ⟨(by kernel_rfl), trivial⟩, SP.sel hs288 [] rfl rfl, H⟩
           ·have H := cf H hb277
            refine In.run' 18 (k' := 53) rfl [(81, undef), (82, undef), (83, undef), (84, undef), (85, undef), (86, undef), (87, undef), (88, undef), (89, undef), (90, undef), (91, undef), (92, undef), (93, undef), (94, undef), (95, undef), (96, undef), (97, (.bool false)), (4, (.bool false))] (by kernel_rfl) ?_
            refine In.fin (by kernel_rfl) ?_
            exact ⟨false, ⟨(by kernel_rfl), trivial⟩, SP.sel hs276 [] rfl rfl, H⟩
          ·have H := cf H hb268
           refine In.run' 26 (k' := 53) rfl [(73, undef), (74, undef), (75, undef), (76, undef), (77, (.bool false)), (78, (.bool false)), (79, (.bool false)), (80, (.bool false)), (81, undef), (82, undef), (83, undef), (84, undef), (85, undef), (86, undef), (87, undef), (88, undef), (89, undef), (90, undef), (91, undef), (92, undef), (93, undef), (94, undef), (95, undef), (96, undef), (97, (.bool false)), (4, (.bool false))] (by kernel_rfl) ?_
           refine In.fin (by kernel_rfl) ?_
           exact ⟨false, ⟨(by kernel_rfl), trivial⟩, SP.sel hs267 [] rfl rfl, H⟩
        ·have H := cf H hb246
         refine In.run' 34 (k' := 53) rfl [(65, undef), (66, undef), (67, undef), (68, undef), (69, undef), (70, undef), (71, undef), (72, undef), (73, undef), (74, undef), (75, undef), (76, undef), (77, undef), (78, undef), (79, (.bool false)), (80, (.bool false)), (81, undef), (82, undef), (83, undef), (84, undef), (85, undef), (86, undef), (87, undef), (88, undef), (89, undef), (90, undef), (91, undef), (92, undef), (93, undef), (94, undef), (95, undef), (96, undef), (97, (.bool false)), (4, (.bool false))] (by kernel_rfl) ?_
         refine In.fin (by kernel_rfl) ?_
         exact ⟨false, ⟨(by kernel_rfl), trivial⟩, SP.sel hs244 [] rfl rfl, H⟩
       ·have H := cf H hb245
        refine In.run' 8 (k' := 19) rfl [(57, undef), (58, undef), (59, undef), (60, (.bool false)), (61, (.bool (z239 == false))), (62, (.bool (z239 == false))), (63, (.bool (z239 == false))), (64, (.bool (z239 == false)))] (by kernel_rfl) ?_
        refine In.guard (t := 64) (b := (z239 == false)) (by kernel_rfl) (fun hb290 => ?_) (fun hb290 => ?_)
        ·have H := ct H hb290
         refine In.run' 3 (k' := 22) rfl [(65, (.bool z21)), (66, (.bool (!z21))), (67, (.bool (!z21)))] (by kernel_rfl) ?_
         refine In.guard (t := 67) (b := (!z21)) (by kernel_rfl) (fun hb291 => ?_) (fun hb291 => ?_)
         ·have H := ct H hb291
          refine In.run' 16 (k' := 38) rfl [(68, undef), (69, undef), (70, undef), (71, undef), (72, undef), (73, undef), (74, undef), (75, undef), (76, undef), (77, undef), (78, (.bool true)), (79, (.bool true)), (80, (.bool true)), (81, (.bool z21)), (82, (.bool (!z21))), (83, (.bool (!z21)))] (by kernel_rfl) ?_
          refine In.guard (t := 83) (b := (!z21)) (by kernel_rfl) (fun hb292 => ?_) (fun hb292 => ?_)
          ·have H := ct H hb292
           refine In.run' 15 (k' := 53) rfl [(84, undef), (85, undef), (86, undef), (87, undef), (88, undef), (89, undef), (90, undef), (91, undef), (92, undef), (93, undef), (94, undef), (95, undef), (96, (.bool true)), (97, (.bool true)), (4, (.bool true))] (by kernel_rfl) ?_
           refine In.fin (by kernel_rfl) ?_
           exact ⟨true, ⟨(by kernel_rfl), trivial⟩, SP.sel hs244 [] rfl rfl, H⟩
          ·have H := cf H hb292
           refine In.run' 1 (k' := 39) rfl [(84, (.string ⟨List.toArray p1⟩))] (by kernel_rfl) ?_
           obtain ⟨hl294, H⟩ := app_elim H
           obtain ⟨l293, hyl293⟩ : ∃ y, p1 ++ ([45] : List UInt8) = y := ⟨_, rfl⟩
           rw [hyl293] at H
           refine In.step (k' := 40) rfl (by kernel_rfl) ?_
           refine Step.strCat (T := 9) (T' := 9) (x := (.tmp 84)) (y := (.const (.string ⟨List.toArray ([45] : List UInt8)⟩))) (a := p1) (b := ([45] : List UInt8)) (d := (some 85)) (k := 39) (by kernel_rfl) rfl (by kernel_rfl) (by kernel_rfl) hl294 ?_
           rw [hyl293]
           refine In.run' 1 (k' := 41) rfl [(86, (.string ⟨List.toArray ([p2] : List UInt8)⟩))] (by kernel_rfl) ?_
           obtain ⟨hl296, H⟩ := app_elim H
           obtain ⟨l295, hyl295⟩ : ∃ y, l293 ++ ([p2] : List UInt8) = y := ⟨_, rfl⟩
           rw [hyl295] at H
           refine In.step (k' := 42) rfl (by kernel_rfl) ?_
           refine Step.strCat (T := 9) (T' := 9) (x := (.tmp 85)) (y := (.tmp 86)) (a := l293) (b := ([p2] : List UInt8)) (d := (some 87)) (k := 41) (by kernel_rfl) rfl (by kernel_rfl) (by kernel_rfl) hl296 ?_
           rw [hyl295]
           obtain ⟨z297, hz298, H⟩ := bind_elim H
           refine In.step (k' := 43) rfl (by kernel_rfl) ?_
           refine Step.callF (f := 15) (fo := (.func 15)) (xs := #[(.tmp 87)]) (tys := #[9]) (first := #[]) (captured := #[]) (d := (some 88)) (k := 42) (by kernel_rfl) rfl (by kernel_rfl) (by kernel_rfl) Tryd.call15 (L_syntax_Name_walk  l295 w241  z297 hz298) ?_
           rintro e w299 ⟨rfl, hs300⟩
           refine ⟨_, rfl, ?_⟩
           have hs301 := SP.call hs244 hs300
           clear hs300
           have hs302 : SP [] w0 w299 [] := hs301
           clear hs301
           refine In.run' 2 (k' := 45) rfl [(89, (.bool v18)), (90, (.bool v18))] (by kernel_rfl) ?_
           refine In.guard (t := 90) (b := v18) (by kernel_rfl) (fun hb303 => ?_) (fun hb303 => ?_)
           ·have H := ct H hb303
            refine In.run' 8 (k' := 53) rfl [(91, (.string ⟨List.toArray p1⟩)), (92, (.int .i64 ((List.length p1 : Nat) : Int))), (93, (.bool (decide (((List.length p1 : Nat) : Int) < 19)))), (94, (.bool (decide (((List.length p1 : Nat) : Int) < 19)))), (95, (.bool (z297 == (decide (((List.length p1 : Nat) : Int) < 19))))), (96, (.bool (z297 == (decide (((List.length p1 : Nat) : Int) < 19))))), (97, (.bool (z297 == (decide (((List.length p1 : Nat) : Int) < 19))))), (4, (.bool (z297 == (decide (((List.length p1 : Nat) : Int) < 19)))))] (by kernel_rfl) ?_
            refine In.fin (by kernel_rfl) ?_
            exact ⟨(z297 == (decide (((List.length p1 : Nat) : Int) < 19))), ⟨(by kernel_rfl), trivial⟩, SP.sel hs302 [] rfl rfl, H⟩
           ·have H := cf H hb303
            refine In.run' 8 (k' := 53) rfl [(91, undef), (92, undef), (93, undef), (94, (.bool false)), (95, (.bool (z297 == false))), (96, (.bool (z297 == false))), (97, (.bool (z297 == false))), (4, (.bool (z297 == false)))] (by kernel_rfl) ?_
            refine In.fin (by kernel_rfl) ?_
            exact ⟨(z297 == false), ⟨(by kernel_rfl), trivial⟩, SP.sel hs302 [] rfl rfl, H⟩
         ·have H := cf H hb291
          refine In.run' 1 (k' := 23) rfl [(68, (.string ⟨List.toArray p1⟩))] (by kernel_rfl) ?_
          obtain ⟨hl305, H⟩ := app_elim H
          obtain ⟨l304, hyl304⟩ : ∃ y, p1 ++ ([45] : List UInt8) = y := ⟨_, rfl⟩
          rw [hyl304] at H
          refine In.step (k' := 24) rfl (by kernel_rfl) ?_
          refine Step.strCat (T := 9) (T' := 9) (x := (.tmp 68)) (y := (.const (.string ⟨List.toArray ([45] : List UInt8)⟩))) (a := p1) (b := ([45] : List UInt8)) (d := (some 69)) (k := 23) (by kernel_rfl) rfl (by kernel_rfl) (by kernel_rfl) hl305 ?_
          rw [hyl304]
          obtain ⟨z306, hz307, H⟩ := bind_elim H
          refine In.step (k' := 25) rfl (by kernel_rfl) ?_
          refine Step.callF (f := 15) (fo := (.func 15)) (xs := #[(.tmp 69)]) (tys := #[9]) (first := #[]) (captured := #[]) (d := (some 70)) (k := 24) (by kernel_rfl) rfl (by kernel_rfl) (by kernel_rfl) Tryd.call15 (L_syntax_Name_walk  l304 w241  z306 hz307) ?_
          rintro e w308 ⟨rfl, hs309⟩
          refine ⟨_, rfl, ?_⟩
          have hs310 := SP.call hs244 hs309
          clear hs309
          have hs311 : SP [] w0 w308 [] := hs310
          clear hs310
          refine In.run' 2 (k' := 27) rfl [(71, (.bool (!z306))), (72, (.bool (!z306)))] (by kernel_rfl) ?_
          refine In.guard (t := 72) (b := (!z306)) (by kernel_rfl) (fun hb312 => ?_) (fun hb312 => ?_)
          ·have H := ct H hb312
           refine In.run' 1 (k' := 28) rfl [(73, (.string ⟨List.toArray p1⟩))] (by kernel_rfl) ?_
           obtain ⟨hl314, H⟩ := app_elim H
           obtain ⟨l313, hyl313⟩ : ∃ y, ([45] : List UInt8) ++ p1 = y := ⟨_, rfl⟩
           rw [hyl313] at H
           refine In.step (k' := 29) rfl (by kernel_rfl) ?_
           refine Step.strCat (T := 9) (T' := 9) (x := (.const (.string ⟨List.toArray ([45] : List UInt8)⟩))) (y := (.tmp 73)) (a := ([45] : List UInt8)) (b := p1) (d := (some 74)) (k := 28) (by kernel_rfl) rfl (by kernel_rfl) (by kernel_rfl) hl314 ?_
           rw [hyl313]
           obtain ⟨z315, hz316, H⟩ := bind_elim H
           refine In.step (k' := 30) rfl (by kernel_rfl) ?_
           refine Step.callF (f := 15) (fo := (.func 15)) (xs := #[(.tmp 74)]) (tys := #[9]) (first := #[]) (captured := #[]) (d := (some 75)) (k := 29) (by kernel_rfl) rfl (by kernel_rfl) (by kernel_rfl) Tryd.call15 (L_syntax_Name_walk  l313 w308  z315 hz316) ?_
           rintro e w317 ⟨rfl, hs318⟩
           refine ⟨_, rfl, ?_⟩
           have hs319 := SP.call hs311 hs318
           clear hs318
           have hs320 : SP [] w0 w317 [] := hs319
           clear hs319
           refine In.run' 5 (k' := 35) rfl [(76, (.bool (!z315))), (77, (.bool (!z315))), (78, (.bool (!z315))), (79, (.bool (!z315))), (80, (.bool (!z315)))] (by kernel_rfl) ?_
           refine In.guard (t := 80) (b := (!z315)) (by kernel_rfl) (fun hb321 => ?_) (fun hb321 => ?_)
           ·have H := ct H hb321
            refine In.run' 3 (k' := 38) rfl [(81, (.bool z21)), (82, (.bool (!z21))), (83, (.bool (!z21)))] (by kernel_rfl) ?_
            refine In.guard (t := 83) (b := (!z21)) (by kernel_rfl) (fun hb322 => ?_) (fun hb322 => ?_)
            ·have H := ct H hb322
             refine In.run' 15 (k' := 53) rfl [(84, undef), (85, undef), (86, undef), (87, undef), (88, undef), (89, undef), (90, undef), (91, undef), (92, undef), (93, undef), (94, undef), (95, undef), (96, (.bool true)), (97, (.bool true)), (4, (.bool true))] (by kernel_rfl) ?_
             refine In.fin (by kernel_rfl) ?_
             exact ⟨true, ⟨(by kernel_rfl), trivial⟩, SP.sel hs320 [] rfl rfl, H⟩
            ·have H := cf H hb322
             refine In.run' 1 (k' := 39) rfl [(84, (.string ⟨List.toArray p1⟩))] (by kernel_rfl) ?_
             obtain ⟨hl324, H⟩ := app_elim H
             obtain ⟨l323, hyl323⟩ : ∃ y, p1 ++ ([45] : List UInt8) = y := ⟨_, rfl⟩
             rw [hyl323] at H
             refine In.step (k' := 40) rfl (by kernel_rfl) ?_
             refine Step.strCat (T := 9) (T' := 9) (x := (.tmp 84)) (y := (.const (.string ⟨List.toArray ([45] : List UInt8)⟩))) (a := p1) (b := ([45] : List UInt8)) (d := (some 85)) (k := 39) (by kernel_rfl) rfl (by kernel_rfl) (by kernel_rfl) hl324 ?_
             rw [hyl323]
             refine In.run' 1 (k' := 41) rfl [(86, (.string ⟨List.toArray ([p2] : List UInt8)⟩))] (by kernel_rfl) ?_
             obtain ⟨hl326, H⟩ := app_elim H
             obtain ⟨l325, hyl325⟩ : ∃ y, l323 ++ ([p2] : List UInt8) = y := ⟨_, rfl⟩
             rw [hyl325] at H
             refine In.step (k' := 42) rfl (by kernel_rfl) ?_
             refine Step.strCat (T := 9) (T' := 9) (x := (.tmp 85)) (y := (.tmp 86)) (a := l323) (b := ([p2] : List UInt8)) (d := (some 87)) (k := 41) (by kernel_rfl) rfl (by kernel_rfl) (by kernel_rfl) hl326 ?_
             rw [hyl325]
             obtain ⟨z327, hz328, H⟩ := bind_elim H
             refine In.step (k' := 43) rfl (by kernel_rfl) ?_
             refine Step.callF (f := 15) (fo := (.func 15)) (xs := #[(.tmp 87)]) (tys := #[9]) (first := #[]) (captured := #[]) (d := (some 88)) (k := 42) (by kernel_rfl) rfl (by kernel_rfl) (by kernel_rfl) Tryd.call15 (L_syntax_Name_walk  l325 w317  z327 hz328) ?_
             rintro e w329 ⟨rfl, hs330⟩
             refine ⟨_, rfl, ?_⟩
             have hs331 := SP.call hs320 hs330
             clear hs330
             have hs332 : SP [] w0 w329 [] := hs331
             clear hs331
             refine In.run' 2 (k' := 45) rfl [(89, (.bool v18)), (90, (.bool v18))] (by kernel_rfl) ?_
             refine In.guard (t := 90) (b := v18) (by kernel_rfl) (fun hb333 => ?_) (fun hb333 => ?_)
             ·have H := ct H hb333
              refine In.run' 8 (k' := 53) rfl [(91, (.string ⟨List.toArray p1⟩)), (92, (.int .i64 ((List.length p1 : Nat) : Int))), (93, (.bool (decide (((List.length p1 : Nat) : Int) < 19)))), (94, (.bool (decide (((List.length p1 : Nat) : Int) < 19)))), (95, (.bool (z327 == (decide (((List.length p1 : Nat) : Int) < 19))))), (96, (.bool (z327 == (decide (((List.length p1 : Nat) : Int) < 19))))), (97, (.bool (z327 == (decide (((List.length p1 : Nat) : Int) < 19))))), (4, (.bool (z327 == (decide (((List.length p1 : Nat) : Int) < 19)))))] (by kernel_rfl) ?_
              refine In.fin (by kernel_rfl) ?_
              exact ⟨(z327 == (decide (((List.length p1 : Nat) : Int) < 19))), ⟨(by kernel_rfl), trivial⟩, SP.sel hs332 [] rfl rfl, H⟩
             ·have H := cf H hb333
              refine In.run' 8 (k' := 53) rfl [(91, undef), (92, undef), (93, undef), (94, (.bool false)), (95, (.bool (z327 == false))), (96, (.bool (z327 == false))), (97, (.bool (z327 == false))), (4, (.bool (z327 == false)))] (by kernel_rfl) ?_
              refine In.fin (by kernel_rfl) ?_
              exact ⟨(z327 == false), ⟨(by kernel_rfl), trivial⟩, SP.sel hs332 [] rfl rfl, H⟩
           ·have H := cf H hb321
            refine In.run' 18 (k' := 53) rfl [(81, undef), (82, undef), (83, undef), (84, undef), (85, undef), (86, undef), (87, undef), (88, undef), (89, undef), (90, undef), (91, undef), (92, undef), (93, undef), (94, undef), (95, undef), (96, undef), (97, (.bool false)), (4, (.bool false))] (by kernel_rfl) ?_
            refine In.fin (by kernel_rfl) ?_
            exact ⟨false, ⟨(by kernel_rfl), trivial⟩, SP.sel hs320 [] rfl rfl, H⟩
          ·have H := cf H hb312
           refine In.run' 26 (k' := 53) rfl [(73, undef), (74, undef), (75, undef), (76, undef), (77, (.bool false)), (78, (.bool false)), (79, (.bool false)), (80, (.bool false)), (81, undef), (82, undef), (83, undef), (84, undef), (85, undef), (86, undef), (87, undef), (88, undef), (89, undef), (90, undef), (91, undef), (92, undef), (93, undef), (94, undef), (95, undef), (96, undef), (97, (.bool false)), (4, (.bool false))] (by kernel_rfl) ?_
           refine In.fin (by kernel_rfl) ?_
           exact ⟨false, ⟨(by kernel_rfl), trivial⟩, SP.sel hs311 [] rfl rfl, H⟩
        ·have H := cf H hb290
         refine In.run' 34 (k' := 53) rfl [(65, undef), (66, undef), (67, undef), (68, undef), (69, undef), (70, undef), (71, undef), (72, undef), (73, undef), (74, undef), (75, undef), (76, undef), (77, undef), (78, undef), (79, (.bool false)), (80, (.bool false)), (81, undef), (82, undef), (83, undef), (84, undef), (85, undef), (86, undef), (87, undef), (88, undef), (89, undef), (90, undef), (91, undef), (92, undef), (93, undef), (94, undef), (95, undef), (96, undef), (97, (.bool false)), (4, (.bool false))] (by kernel_rfl) ?_
         refine In.fin (by kernel_rfl) ?_
         exact ⟨false, ⟨(by kernel_rfl), trivial⟩, SP.sel hs244 [] rfl rfl, H⟩
     ·have H := cf H hb192
      refine In.run' 51 (k' := 53) rfl [(48, undef), (49, undef), (50, undef), (51, undef), (52, undef), (53, undef), (54, undef), (55, undef), (56, undef), (57, undef), (58, undef), (59, undef), (60, undef), (61, undef), (62, undef), (63, (.bool false)), (64, (.bool false)), (65, undef), (66, undef), (67, undef), (68, undef), (69, undef), (70, undef), (71, undef), (72, undef), (73, undef), (74, undef), (75, undef), (76, undef), (77, undef), (78, undef), (79, (.bool false)), (80, (.bool false)), (81, undef), (82, undef), (83, undef), (84, undef), (85, undef), (86, undef), (87, undef), (88, undef), (89, undef), (90, undef), (91, undef), (92, undef), (93, undef), (94, undef), (95, undef), (96, undef), (97, (.bool false)), (4, (.bool false))] (by kernel_rfl) ?_
      refine In.fin (by kernel_rfl) ?_
      exact ⟨false, ⟨(by kernel_rfl), trivial⟩, SP.sel hs26 [] rfl rfl, H⟩
    ·rintro ρ w190 ⟨v189, hk, hs191, H⟩
     unfold L_subwaylaw04_SyntaxNames_k3 at H
     refine At.known [(4, (.bool v189))] hk ?_
     refine At.ret (by kernel_rfl) ?_
     refine ⟨(.bool v189), by kernel_rfl, ?_⟩
     obtain rfl := some_elim H
     exact ⟨rfl, SP.sel hs191 [] rfl rfl⟩
end Go.Proofs.YthnakiihenbcjaaDoor
