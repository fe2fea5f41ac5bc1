/- LIFTED BY PROGRAM (tools/lift.py): what functions compute, and that they do. -/
import Derived.Test.YtjllaeceghmjgaaDoorStage
namespace Go.Proofs.YtjllaeceghmjgaaDoor
set_option linter.unusedSimpArgs false
set_option linter.unusedVariables false
open Go.RowKit

/-! L_subwayref01_Text -/
def L_subwayref01_Text (p1 : (List UInt8)) : Option ((List UInt8)) :=
  (cond (decide (((List.length p1 : Nat) : Int) > 255)) (some (([] : List UInt8))) ((app ([(toU8 (IntKind.wrap .u8 ((List.length p1 : Nat) : Int)))] : List UInt8) p1).bind fun l12 => (some (l12))))
set_option maxRecDepth 100000 in
set_option maxHeartbeats 4000000 in
theorem L_subwayref01_Text_walk  (p1 : (List UInt8)) (w0 : World)  (r : ((List UInt8))) (H : L_subwayref01_Text p1 = some r) :
  Calls Tryd.prog 30 #[(.string ⟨List.toArray p1⟩)] w0 (fun e w' => ∃ (A2 : Option Addr) (c3 : Nat), e = .returned (.slice A2 (List.length r) c3) ∧ SP [] w0 w' [rowT 5 eU8 A2 c3 r]) := by
 unfold L_subwayref01_Text at H
 refine calls_go (n := 12) Tryd.func30 K K K ?_
 have hs0 := SP.start [] w0
 refine At.sq K ?_
 refine At.region K K ?_
 refine In.run' 1 (k' := 1) rfl [(2, (.slice none (List.length ([] : List UInt8)) 0))] K ?_
 refine In.fin K ?_
 refine At.sq K ?_
 refine At.sq K ?_
 refine At.region K K ?_
 refine In.run' 3 (k' := 3) rfl [(3, (.string ⟨List.toArray p1⟩)), (4, (.int .i64 ((List.length p1 : Nat) : Int))), (5, (.bool (decide (((List.length p1 : Nat) : Int) > 255))))] K ?_
 refine In.fin K ?_
 refine At.cd K (o := (.tmp 5)) K (b := (decide (((List.length p1 : Nat) : Int) > 255))) K (fun hb4 => ?_) (fun hb4 => ?_)
 ·have H := ct H hb4
  refine At.sq K ?_
  refine At.region K K ?_
  refine In.run' 1 (k' := 1) rfl [(2, (.slice none (List.length ([] : List UInt8)) 0))] K ?_
  refine In.fin K ?_
  refine At.ret K ?_
  have hs6 : SP [] w0 w0 [rowT 5 eU8 none 0 ([] : List UInt8)] := SP.nilrow hs0 5 eU8
  refine ⟨(.slice none (List.length ([] : List UInt8)) 0), K, ?_⟩
  obtain rfl := some_elim H
  exact ⟨none, 0, rfl, SP.sel hs6 [0] rfl rfl⟩
 ·have H := cf H hb4
  refine At.skip K ?_
  refine At.sq K ?_
  refine At.region K K ?_
  refine In.run' 3 (k' := 3) rfl [(6, (.string ⟨List.toArray p1⟩)), (7, (.int .i64 ((List.length p1 : Nat) : Int))), (8, (.int .u8 (IntKind.wrap .u8 ((List.length p1 : Nat) : Int))))] K ?_
  refine In.step (k' := 4) rfl K ?_
  refine Step.newSlice (e := eU8) (T := 50) (E := 5) (len := 1) (parts := #[(0, (.tmp 8))]) (cs := #[(.int .u8 (IntKind.wrap .u8 ((List.length p1 : Nat) : Int)))]) ([(toU8 (IntKind.wrap .u8 ((List.length p1 : Nat) : Int)))] : List UInt8) (d := (some 9)) (k := 3) K rfl (fun _ => K) hs0 (cells_cons8 (Or.inr ⟨rfl, (u8_wrap _)⟩) rfl) rfl rfl rfl ?_
  intro g7 w8 (hs10 : SP [] w0 w8 [rowT 5 eU8 (some ⟨g7, 0, none⟩) (List.length ([(toU8 (IntKind.wrap .u8 ((List.length p1 : Nat) : Int)))] : List UInt8)) ([(toU8 (IntKind.wrap .u8 ((List.length p1 : Nat) : Int)))] : List UInt8)])
  refine In.run' 1 (k' := 5) rfl [(10, (.string ⟨List.toArray p1⟩))] K ?_
  obtain ⟨hl11, H⟩ := app_elim H
  obtain ⟨l12, hyl12⟩ : ∃ y, ([(toU8 (IntKind.wrap .u8 ((List.length p1 : Nat) : Int)))] : List UInt8) ++ p1 = y := ⟨_, rfl⟩
  rw [hyl12] at H
  refine In.step (k' := 6) rfl K ?_
  refine Step.append (e := eU8) (l := ([(toU8 (IntKind.wrap .u8 ((List.length p1 : Nat) : Int)))] : List UInt8)) (m := p1) (A := (some ⟨g7, 0, none⟩)) (c := (List.length ([(toU8 (IntKind.wrap .u8 ((List.length p1 : Nat) : Int)))] : List UInt8))) (T := 50) (TX := 9) (E := 5) (b := 1) (s := (.tmp 9)) (x := (.tmp 10)) (i := 0) (vx := (.string ⟨List.toArray p1⟩)) (d := (some 11)) (k := 5) K rfl K K K K rfl hs10 rfl (src_str K p1) hl11 ?_
  rw [hyl12]
  intro A13 c14 w15 (hs17 : SP [] w0 w15 [rowT 5 eU8 A13 c14 l12])
  refine In.run' 1 (k' := 7) rfl [(2, (.slice A13 (List.length l12) c14))] K ?_
  refine In.fin K ?_
  refine At.ret K ?_
  refine ⟨(.slice A13 (List.length l12) c14), K, ?_⟩
  obtain rfl := some_elim H
  exact ⟨A13, c14, rfl, SP.sel hs17 [0] rfl rfl⟩
end Go.Proofs.YtjllaeceghmjgaaDoor
