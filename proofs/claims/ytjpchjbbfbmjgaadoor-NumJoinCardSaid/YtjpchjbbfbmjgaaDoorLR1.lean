/- LIFTED BY PROGRAM (tools/lift.py): what functions compute, and that they do. -/
import Derived.Test.YtjpchjbbfbmjgaaDoorStage
namespace Go.Proofs.YtjpchjbbfbmjgaaDoor
set_option linter.unusedSimpArgs false
set_option linter.unusedVariables false
open Go.RowKit

/-! L_subwayref01_Text -/
def L_subwayref01_Text (p1 : (List UInt8)) : Option ((List UInt8)) :=
  (cond (decide (((List.length p1 : Nat) : Int) > 255)) (some (([] : List UInt8))) ((app ([(toU8 (IntKind.wrap .u8 ((List.length p1 : Nat) : Int)))] : List UInt8) p1).bind fun l12 => (some (l12))))
set_option maxRecDepth 100000 in
set_option maxHeartbeats 4000000 in
theorem L_subwayref01_Text_walk  (p1 : (List UInt8)) (w0 : World)  (r : ((List UInt8))) (H : L_subwayref01_Text p1 = some r) :
  Calls Tryd.prog 19 #[(.string ⟨List.toArray p1⟩)] w0 (fun e w' => ∃ (A2 : Option Addr) (c3 : Nat), e = .returned (.slice A2 (List.length r) c3) ∧ SP [] w0 w' [rowT 5 eU8 A2 c3 r]) := by
 unfold L_subwayref01_Text at H
 refine calls_start (n := 12) Tryd.func19 (by kernel_rfl) (by kernel_rfl) (by kernel_rfl) ?_
 have hs0 := SP.start [] w0
 refine At.seq (by kernel_rfl) (p0 := [false]) (p1 := [true]) rfl rfl ?_
 refine At.region (by kernel_rfl) (by kernel_rfl) ?_
 refine In.run' 1 (k' := 1) rfl [(2, (.slice none (List.length ([] : List UInt8)) 0))] (by kernel_rfl) ?_
 refine In.fin (by kernel_rfl) ?_
 refine At.seq (by kernel_rfl) (p0 := [true, false]) (p1 := [true, true]) rfl rfl ?_
 refine At.seq (by kernel_rfl) (p0 := [true, false, false]) (p1 := [true, false, true]) rfl rfl ?_
 refine At.region (by kernel_rfl) (by kernel_rfl) ?_
 refine In.run' 3 (k' := 3) rfl [(3, (.string ⟨List.toArray p1⟩)), (4, (.int .i64 ((List.length p1 : Nat) : Int))), (5, (.bool (decide (((List.length p1 : Nat) : Int) > 255))))] (by kernel_rfl) ?_
 refine In.fin (by kernel_rfl) ?_
 refine At.cond (by kernel_rfl) (o := (.tmp 5)) (by kernel_rfl) (b := (decide (((List.length p1 : Nat) : Int) > 255))) (by kernel_rfl) (p0 := [true, false, true, false]) (p1 := [true, false, true, true]) rfl rfl (fun hb4 => ?_) (fun hb4 => ?_)
 ·have H := ct H hb4
  refine At.seq (by kernel_rfl) (p0 := [true, false, true, false, false]) (p1 := [true, false, true, false, true]) rfl rfl ?_
  refine At.region (by kernel_rfl) (by kernel_rfl) ?_
  refine In.run' 1 (k' := 1) rfl [(2, (.slice none (List.length ([] : List UInt8)) 0))] (by kernel_rfl) ?_
  refine In.fin (by kernel_rfl) ?_
  refine At.ret (by kernel_rfl) ?_
  have hs5 := SP.nilrow hs0 5 eU8
  have hs6 : SP [] w0 w0 [rowT 5 eU8 none 0 ([] : List UInt8)] := hs5
  clear hs5
  refine ⟨(.slice none (List.length ([] : List UInt8)) 0), by kernel_rfl, ?_⟩
  obtain rfl := some_elim H
  exact ⟨none, 0, rfl, SP.sel hs6 [0] rfl rfl⟩
 ·have H := cf H hb4
  refine At.skip (by kernel_rfl) ?_
  refine At.seq (by kernel_rfl) (p0 := [true, true, false]) (p1 := [true, true, true]) rfl rfl ?_
  refine At.region (by kernel_rfl) (by kernel_rfl) ?_
  refine In.run' 3 (k' := 3) rfl [(6, (.string ⟨List.toArray p1⟩)), (7, (.int .i64 ((List.length p1 : Nat) : Int))), (8, (.int .u8 (IntKind.wrap .u8 ((List.length p1 : Nat) : Int))))] (by kernel_rfl) ?_
  refine In.step (k' := 4) rfl (by kernel_rfl) ?_
  refine Step.newSlice (e := eU8) (T := 22) (E := 5) (len := 1) (parts := #[(0, (.tmp 8))]) (cs := #[(.int .u8 (IntKind.wrap .u8 ((List.length p1 : Nat) : Int)))]) ([(toU8 (IntKind.wrap .u8 ((List.length p1 : Nat) : Int)))] : List UInt8) (d := (some 9)) (k := 3) (by kernel_rfl) rfl (fun _ => by kernel_rfl) hs0 (cells_cons8 (Or.inr ⟨rfl, (u8_wrap _)⟩) rfl) rfl rfl rfl ?_
  intro g7 w8 hs9
  have hs10 : SP [] w0 w8 [rowT 5 eU8 (some ⟨g7, 0, none⟩) (List.length ([(toU8 (IntKind.wrap .u8 ((List.length p1 : Nat) : Int)))] : List UInt8)) ([(toU8 (IntKind.wrap .u8 ((List.length p1 : Nat) : Int)))] : List UInt8)] := hs9
  clear hs9
  refine In.run' 1 (k' := 5) rfl [(10, (.string ⟨List.toArray p1⟩))] (by kernel_rfl) ?_
  obtain ⟨hl11, H⟩ := app_elim H
  obtain ⟨l12, hyl12⟩ : ∃ y, ([(toU8 (IntKind.wrap .u8 ((List.length p1 : Nat) : Int)))] : List UInt8) ++ p1 = y := ⟨_, rfl⟩
  rw [hyl12] at H
  refine In.step (k' := 6) rfl (by kernel_rfl) ?_
  refine Step.append (e := eU8) (l := ([(toU8 (IntKind.wrap .u8 ((List.length p1 : Nat) : Int)))] : List UInt8)) (m := p1) (A := (some ⟨g7, 0, none⟩)) (c := (List.length ([(toU8 (IntKind.wrap .u8 ((List.length p1 : Nat) : Int)))] : List UInt8))) (T := 22) (TX := 9) (E := 5) (b := 1) (s := (.tmp 9)) (x := (.tmp 10)) (i := 0) (vx := (.string ⟨List.toArray p1⟩)) (d := (some 11)) (k := 5) (by kernel_rfl) rfl (by kernel_rfl) (by kernel_rfl) (by kernel_rfl) (by kernel_rfl) rfl hs10 rfl (src_str (by kernel_rfl) p1) hl11 ?_
  rw [hyl12]
  intro A13 c14 w15 hs16
  have hs17 : SP [] w0 w15 [rowT 5 eU8 A13 c14 l12] := hs16
  clear hs16
  refine In.run' 1 (k' := 7) rfl [(2, (.slice A13 (List.length l12) c14))] (by kernel_rfl) ?_
  refine In.fin (by kernel_rfl) ?_
  refine At.ret (by kernel_rfl) ?_
  refine ⟨(.slice A13 (List.length l12) c14), by kernel_rfl, ?_⟩
  obtain rfl := some_elim H
  exact ⟨A13, c14, rfl, SP.sel hs17 [0] rfl rfl⟩
/-! L_subwayref01_Read -/
def L_subwayref01_Read_k1 (p1 : (List UInt8)) (v15 : Bool) : Option ((List UInt8) × Int × Bool) :=
  (cond v15 (some (([] : List UInt8), 0, false)) ((idx p1 0).bind fun x19 => ((sub p1 1 (IntKind.wrap .i64 ((IntKind.wrap .i64 ((x19).toNat : Int)) + 1))).bind fun l31 => (some (l31, (IntKind.wrap .i64 ((IntKind.wrap .i64 ((x19).toNat : Int)) + 1)), true)))))
def L_subwayref01_Read (p1 : (List UInt8)) : Option ((List UInt8) × Int × Bool) :=
  (cond (((List.length p1 : Nat) : Int) == 0) (L_subwayref01_Read_k1 p1 true) ((idx p1 0).bind fun x33 => (L_subwayref01_Read_k1 p1 (decide ((IntKind.wrap .i64 ((x33).toNat : Int)) > (IntKind.wrap .i64 (((List.length p1 : Nat) : Int) - 1)))))))
set_option maxRecDepth 100000 in
set_option maxHeartbeats 4000000 in
theorem L_subwayref01_Read_walk (A2 : Option Addr) (c3 : Nat) (p1 : (List UInt8)) (w0 : World) (hr4 : RdT eU8 w0 A2 c3 p1) (r : ((List UInt8) × Int × Bool)) (H : L_subwayref01_Read p1 = some r) :
  Calls Tryd.prog 13 #[(.slice A2 (List.length p1) c3)] w0 (fun e w' => e = .returned (.tuple #[(.string ⟨List.toArray r.1⟩), (.int .i64 r.2.1), (.bool r.2.2)]) ∧ SP [] w0 w' []) := by
 unfold L_subwayref01_Read at H
 refine calls_start (n := 29) Tryd.func13 (by kernel_rfl) (by kernel_rfl) (by kernel_rfl) ?_
 have hs0 := SP.start [] w0
 refine At.seq (by kernel_rfl) (p0 := [false]) (p1 := [true]) rfl rfl ?_
 refine At.region (by kernel_rfl) (by kernel_rfl) ?_
 refine In.run' 3 (k' := 3) rfl [(2, (.string ⟨List.toArray ([] : List UInt8)⟩)), (3, (.int .i64 0)), (4, (.bool false))] (by kernel_rfl) ?_
 refine In.fin (by kernel_rfl) ?_
 refine At.seq (by kernel_rfl) (p0 := [true, false]) (p1 := [true, true]) rfl rfl ?_
 refine At.seq (by kernel_rfl) (p0 := [true, false, false]) (p1 := [true, false, true]) rfl rfl ?_
 refine At.join (fun ρ w => ∃ (v15 : Bool), Known ρ [(0, (.slice A2 (List.length p1) c3)), (18, (.bool v15))] ∧ SP [] w0 w [] ∧ L_subwayref01_Read_k1 p1 v15 = some r) ?_ ?_
 ·refine At.region (by kernel_rfl) (by kernel_rfl) ?_
  refine In.run' 4 (k' := 4) rfl [(6, (.slice A2 (List.length p1) c3)), (7, (.int .i64 ((List.length p1 : Nat) : Int))), (8, (.bool (((List.length p1 : Nat) : Int) == 0))), (9, (.bool (((List.length p1 : Nat) : Int) == 0)))] (by kernel_rfl) ?_
  refine In.guard (t := 9) (b := (((List.length p1 : Nat) : Int) == 0)) (by kernel_rfl) (fun hb32 => ?_) (fun hb32 => ?_)
  ·have H := ct H hb32
   refine In.run' 9 (k' := 13) rfl [(10, undef), (11, undef), (12, undef), (13, undef), (14, undef), (15, undef), (16, undef), (17, undef), (18, (.bool true))] (by kernel_rfl) ?_
   refine In.fin (by kernel_rfl) ?_
   exact ⟨true, ⟨(by kernel_rfl), (by kernel_rfl), trivial⟩, SP.sel hs0 [] rfl rfl, H⟩
  ·have H := cf H hb32
   refine In.run' 1 (k' := 5) rfl [(10, (.slice A2 (List.length p1) c3))] (by kernel_rfl) ?_
   obtain ⟨x33, hp34, hq35, hx36, H⟩ := idx_elim H
   refine In.step (k' := 6) rfl (by kernel_rfl) ?_
   refine Step.elem (e := eU8) (l := p1) (A := A2) (c := c3) (T := 22) (E := 5) (x := (.tmp 10)) (ix := (.const (.int .i64 (0)))) (ki := .i64) (iz := 0) (d := (some 11)) (k := 5) (by kernel_rfl) rfl (by kernel_rfl) (by kernel_rfl) (by kernel_rfl) (by kernel_rfl) (RdT.sp hr4 hs0) hp34 hq35 ?_
   intro b37 o38 hA40 hb41 hc39
   refine In.step (k' := 7) rfl (by kernel_rfl) ?_
   refine Step.cell (t := 5) (x := (.tmp 11)) (b := b37) (off := (o38 + Int.toNat 0 * eU8.sz)) (v := (.int .u8 ((x33).toNat : Int))) (d := (some 12)) (k := 6) (by kernel_rfl) rfl (by kernel_rfl) (by kernel_rfl) (elem_cell (e := eU8) (rdt_cells (RdT.sp hr4 hs0) hA40 hp34 hq35) hx36 (j := 0) rfl) ?_
   refine In.run' 6 (k' := 13) rfl [(13, (.int .i64 (IntKind.wrap .i64 ((x33).toNat : Int)))), (14, (.slice A2 (List.length p1) c3)), (15, (.int .i64 ((List.length p1 : Nat) : Int))), (16, (.int .i64 (IntKind.wrap .i64 (((List.length p1 : Nat) : Int) - 1)))), (17, (.bool (decide ((IntKind.wrap .i64 ((x33).toNat : Int)) > (IntKind.wrap .i64 (((List.length p1 : Nat) : Int) - 1)))))), (18, (.bool (decide ((IntKind.wrap .i64 ((x33).toNat : Int)) > (IntKind.wrap .i64 (((List.length p1 : Nat) : Int) - 1))))))] (by kernel_rfl) ?_
   refine In.fin (by kernel_rfl) ?_
   exact ⟨(decide ((IntKind.wrap .i64 ((x33).toNat : Int)) > (IntKind.wrap .i64 (((List.length p1 : Nat) : Int) - 1)))), ⟨(by kernel_rfl), (by kernel_rfl), trivial⟩, SP.sel hs0 [] rfl rfl, H⟩
 ·rintro ρ w16 ⟨v15, hk, hs17, H⟩
  unfold L_subwayref01_Read_k1 at H
  refine At.known [(0, (.slice A2 (List.length p1) c3)), (18, (.bool v15))] hk ?_
  refine At.cond (by kernel_rfl) (o := (.tmp 18)) (by kernel_rfl) (b := v15) (by kernel_rfl) (p0 := [true, false, true, false]) (p1 := [true, false, true, true]) rfl rfl (fun hb18 => ?_) (fun hb18 => ?_)
  ·have H := ct H hb18
   refine At.seq (by kernel_rfl) (p0 := [true, false, true, false, false]) (p1 := [true, false, true, false, true]) rfl rfl ?_
   refine At.region (by kernel_rfl) (by kernel_rfl) ?_
   refine In.run' 3 (k' := 3) rfl [(2, (.string ⟨List.toArray ([] : List UInt8)⟩)), (3, (.int .i64 0)), (4, (.bool false))] (by kernel_rfl) ?_
   refine In.fin (by kernel_rfl) ?_
   refine At.ret (by kernel_rfl) ?_
   refine ⟨(.tuple #[(.string ⟨List.toArray ([] : List UInt8)⟩), (.int .i64 0), (.bool false)]), by kernel_rfl, ?_⟩
   obtain rfl := some_elim H
   exact ⟨rfl, SP.sel hs17 [] rfl rfl⟩
  ·have H := cf H hb18
   refine At.skip (by kernel_rfl) ?_
   refine At.seq (by kernel_rfl) (p0 := [true, true, false]) (p1 := [true, true, true]) rfl rfl ?_
   refine At.region (by kernel_rfl) (by kernel_rfl) ?_
   refine In.run' 1 (k' := 1) rfl [(19, (.slice A2 (List.length p1) c3))] (by kernel_rfl) ?_
   obtain ⟨x19, hp20, hq21, hx22, H⟩ := idx_elim H
   refine In.step (k' := 2) rfl (by kernel_rfl) ?_
   refine Step.elem (e := eU8) (l := p1) (A := A2) (c := c3) (T := 22) (E := 5) (x := (.tmp 19)) (ix := (.const (.int .i64 (0)))) (ki := .i64) (iz := 0) (d := (some 20)) (k := 1) (by kernel_rfl) rfl (by kernel_rfl) (by kernel_rfl) (by kernel_rfl) (by kernel_rfl) (RdT.sp hr4 hs17) hp20 hq21 ?_
   intro b23 o24 hA26 hb27 hc25
   refine In.step (k' := 3) rfl (by kernel_rfl) ?_
   refine Step.cell (t := 5) (x := (.tmp 20)) (b := b23) (off := (o24 + Int.toNat 0 * eU8.sz)) (v := (.int .u8 ((x19).toNat : Int))) (d := (some 21)) (k := 2) (by kernel_rfl) rfl (by kernel_rfl) (by kernel_rfl) (elem_cell (e := eU8) (rdt_cells (RdT.sp hr4 hs17) hA26 hp20 hq21) hx22 (j := 0) rfl) ?_
   refine In.run' 3 (k' := 6) rfl [(22, (.int .i64 (IntKind.wrap .i64 ((x19).toNat : Int)))), (23, (.int .i64 (IntKind.wrap .i64 ((IntKind.wrap .i64 ((x19).toNat : Int)) + 1)))), (5, (.int .i64 (IntKind.wrap .i64 ((IntKind.wrap .i64 ((x19).toNat : Int)) + 1))))] (by kernel_rfl) ?_
   refine In.fin (by kernel_rfl) ?_
   refine At.seq (by kernel_rfl) (p0 := [true, true, true, false]) (p1 := [true, true, true, true]) rfl rfl ?_
   refine At.region (by kernel_rfl) (by kernel_rfl) ?_
   refine In.run' 2 (k' := 2) rfl [(24, (.slice A2 (List.length p1) c3)), (25, (.int .i64 (IntKind.wrap .i64 ((IntKind.wrap .i64 ((x19).toNat : Int)) + 1))))] (by kernel_rfl) ?_
   obtain ⟨hz28, hz29, hz30, H⟩ := sub_elim H
   obtain ⟨l31, hyl31⟩ : ∃ y, (List.drop (Int.toNat 1) (List.take (Int.toNat (IntKind.wrap .i64 ((IntKind.wrap .i64 ((x19).toNat : Int)) + 1))) p1)) = y := ⟨_, rfl⟩
   rw [hyl31] at H
   refine In.step (k' := 3) rfl (by kernel_rfl) ?_
   refine Step.slice2 (e := eU8) (l := p1) (m := l31) (A := A2) (c := c3) (T := 22) (E := 5) (x := (.tmp 24)) (lo := (some (.const (.int .i64 (1))))) (hi := (some (.tmp 25))) (i := 1) (j := (IntKind.wrap .i64 ((IntKind.wrap .i64 ((x19).toNat : Int)) + 1))) (d := (some 26)) (k := 2) (by kernel_rfl) rfl (by kernel_rfl) (by kernel_rfl) (by kernel_rfl) ⟨.i64, by kernel_rfl⟩ ⟨.i64, by kernel_rfl⟩ (RdX.le (RdT.sp hr4 hs17)) hz28 hz29 hz30 hyl31 ?_
   refine In.step (k' := 4) rfl (by kernel_rfl) ?_
   refine Step.toStr (T := 22) (S' := 9) (E := 5) (x := (.tmp 26)) (A := (cutA eU8.sz c3 (Int.toNat 1) A2)) (c := (c3 - Int.toNat 1)) (l := l31) (d := (some 27)) (k := 3) (by kernel_rfl) rfl (by kernel_rfl) (by kernel_rfl) (by kernel_rfl) (by kernel_rfl) ((cut_rd hz28 hz29 hz30 hyl31) w16 (RdT.sp hr4 hs17)) ?_
   refine In.run' 4 (k' := 8) rfl [(28, (.int .i64 (IntKind.wrap .i64 ((IntKind.wrap .i64 ((x19).toNat : Int)) + 1)))), (2, (.string ⟨List.toArray l31⟩)), (3, (.int .i64 (IntKind.wrap .i64 ((IntKind.wrap .i64 ((x19).toNat : Int)) + 1)))), (4, (.bool true))] (by kernel_rfl) ?_
   refine In.fin (by kernel_rfl) ?_
   refine At.ret (by kernel_rfl) ?_
   refine ⟨(.tuple #[(.string ⟨List.toArray l31⟩), (.int .i64 (IntKind.wrap .i64 ((IntKind.wrap .i64 ((x19).toNat : Int)) + 1))), (.bool true)]), by kernel_rfl, ?_⟩
   obtain rfl := some_elim H
   exact ⟨rfl, SP.sel hs17 [] rfl rfl⟩
/-! L_subwayref01_Put -/
def L_subwayref01_Put_b2 (rec2 : Int → (List UInt8) → Option ((List UInt8))) (v33 : Int) (v36 : (List UInt8)) : Option ((List UInt8)) :=
  (cond (decide (v33 > 0)) ((app ([(toU8 (IntKind.wrap .u8 ((IntKind.wrap .u8 (Int.tmod v33 128)) + 128)))] : List UInt8) v36).bind fun l55 => (rec2 (IntKind.wrap .i64 (Int.tdiv v33 128)) l55)) (some (v36)))
def L_subwayref01_Put_l2  : Nat → Int → (List UInt8) → Option ((List UInt8))
  | 0, _, _ => none
  | f + 1, v33, v36 => L_subwayref01_Put_b2  (L_subwayref01_Put_l2  f) v33 v36
def L_subwayref01_Put_k1 (p1 : Int) (v5 : Bool) : Option ((List UInt8)) :=
  (cond v5 (some (([] : List UInt8))) (L_subwayref01_Put_l2  fuel (IntKind.wrap .i64 (Int.tdiv p1 128)) ([(toU8 (IntKind.wrap .u8 (Int.tmod p1 128)))] : List UInt8)))
def L_subwayref01_Put (p1 : Int) : Option ((List UInt8)) :=
  (cond (decide (p1 < 0)) (L_subwayref01_Put_k1 p1 true) (L_subwayref01_Put_k1 p1 (decide (p1 > 1099511627776))))
set_option maxRecDepth 100000 in
set_option maxHeartbeats 4000000 in
theorem L_subwayref01_Put_walk  (p1 : Int) (w0 : World)  (r : ((List UInt8))) (H : L_subwayref01_Put p1 = some r) :
  Calls Tryd.prog 17 #[(.int .i64 p1)] w0 (fun e w' => ∃ (A2 : Option Addr) (c3 : Nat), e = .returned (.slice A2 (List.length r) c3) ∧ SP [] w0 w' [rowT 5 eU8 A2 c3 r]) := by
 unfold L_subwayref01_Put at H
 refine calls_start (n := 28) Tryd.func17 (by kernel_rfl) (by kernel_rfl) (by kernel_rfl) ?_
 have hs0 := SP.start [] w0
 refine At.seq (by kernel_rfl) (p0 := [false]) (p1 := [true]) rfl rfl ?_
 refine At.region (by kernel_rfl) (by kernel_rfl) ?_
 refine In.run' 1 (k' := 1) rfl [(2, (.slice none (List.length ([] : List UInt8)) 0))] (by kernel_rfl) ?_
 refine In.fin (by kernel_rfl) ?_
 refine At.seq (by kernel_rfl) (p0 := [true, false]) (p1 := [true, true]) rfl rfl ?_
 refine At.seq (by kernel_rfl) (p0 := [true, false, false]) (p1 := [true, false, true]) rfl rfl ?_
 refine At.join (fun ρ w => ∃ (v5 : Bool), Known ρ [(0, (.int .i64 p1)), (9, (.bool v5))] ∧ SP [] w0 w [] ∧ L_subwayref01_Put_k1 p1 v5 = some r) ?_ ?_
 ·refine At.region (by kernel_rfl) (by kernel_rfl) ?_
  refine In.run' 3 (k' := 3) rfl [(4, (.int .i64 p1)), (5, (.bool (decide (p1 < 0)))), (6, (.bool (decide (p1 < 0))))] (by kernel_rfl) ?_
  refine In.guard (t := 6) (b := (decide (p1 < 0))) (by kernel_rfl) (fun hb61 => ?_) (fun hb61 => ?_)
  ·have H := ct H hb61
   refine In.run' 3 (k' := 6) rfl [(7, undef), (8, undef), (9, (.bool true))] (by kernel_rfl) ?_
   refine In.fin (by kernel_rfl) ?_
   exact ⟨true, ⟨(by kernel_rfl), (by kernel_rfl), trivial⟩, SP.sel hs0 [] rfl rfl, H⟩
  ·have H := cf H hb61
   refine In.run' 3 (k' := 6) rfl [(7, (.int .i64 p1)), (8, (.bool (decide (p1 > 1099511627776)))), (9, (.bool (decide (p1 > 1099511627776))))] (by kernel_rfl) ?_
   refine In.fin (by kernel_rfl) ?_
   exact ⟨(decide (p1 > 1099511627776)), ⟨(by kernel_rfl), (by kernel_rfl), trivial⟩, SP.sel hs0 [] rfl rfl, H⟩
 ·rintro ρ w6 ⟨v5, hk, hs7, H⟩
  unfold L_subwayref01_Put_k1 at H
  refine At.known [(0, (.int .i64 p1)), (9, (.bool v5))] hk ?_
  refine At.cond (by kernel_rfl) (o := (.tmp 9)) (by kernel_rfl) (b := v5) (by kernel_rfl) (p0 := [true, false, true, false]) (p1 := [true, false, true, true]) rfl rfl (fun hb8 => ?_) (fun hb8 => ?_)
  ·have H := ct H hb8
   refine At.seq (by kernel_rfl) (p0 := [true, false, true, false, false]) (p1 := [true, false, true, false, true]) rfl rfl ?_
   refine At.region (by kernel_rfl) (by kernel_rfl) ?_
   refine In.run' 1 (k' := 1) rfl [(2, (.slice none (List.length ([] : List UInt8)) 0))] (by kernel_rfl) ?_
   refine In.fin (by kernel_rfl) ?_
   refine At.ret (by kernel_rfl) ?_
   have hs9 := SP.nilrow hs7 5 eU8
   have hs10 : SP [] w0 w6 [rowT 5 eU8 none 0 ([] : List UInt8)] := hs9
   clear hs9
   refine ⟨(.slice none (List.length ([] : List UInt8)) 0), by kernel_rfl, ?_⟩
   obtain rfl := some_elim H
   exact ⟨none, 0, rfl, SP.sel hs10 [0] rfl rfl⟩
  ·have H := cf H hb8
   refine At.skip (by kernel_rfl) ?_
   refine At.seq (by kernel_rfl) (p0 := [true, true, false]) (p1 := [true, true, true]) rfl rfl ?_
   refine At.region (by kernel_rfl) (by kernel_rfl) ?_
   refine In.run' 3 (k' := 3) rfl [(10, (.int .i64 p1)), (11, (.int .i64 (Int.tmod p1 128))), (12, (.int .u8 (IntKind.wrap .u8 (Int.tmod p1 128))))] (by kernel_rfl) ?_
   refine In.step (k' := 4) rfl (by kernel_rfl) ?_
   refine Step.newSlice (e := eU8) (T := 22) (E := 5) (len := 1) (parts := #[(0, (.tmp 12))]) (cs := #[(.int .u8 (IntKind.wrap .u8 (Int.tmod p1 128)))]) ([(toU8 (IntKind.wrap .u8 (Int.tmod p1 128)))] : List UInt8) (d := (some 13)) (k := 3) (by kernel_rfl) rfl (fun _ => by kernel_rfl) hs7 (cells_cons8 (Or.inr ⟨rfl, (u8_wrap _)⟩) rfl) rfl rfl rfl ?_
   intro g11 w12 hs13
   have hs14 : SP [] w0 w12 [rowT 5 eU8 (some ⟨g11, 0, none⟩) (List.length ([(toU8 (IntKind.wrap .u8 (Int.tmod p1 128)))] : List UInt8)) ([(toU8 (IntKind.wrap .u8 (Int.tmod p1 128)))] : List UInt8)] := hs13
   clear hs13
   refine In.run' 1 (k' := 5) rfl [(3, (.slice (some ⟨g11, 0, none⟩) (List.length ([(toU8 (IntKind.wrap .u8 (Int.tmod p1 128)))] : List UInt8)) (List.length ([(toU8 (IntKind.wrap .u8 (Int.tmod p1 128)))] : List UInt8))))] (by kernel_rfl) ?_
   refine In.fin (by kernel_rfl) ?_
   refine At.seq (by kernel_rfl) (p0 := [true, true, true, false]) (p1 := [true, true, true, true]) rfl rfl ?_
   refine At.seq (by kernel_rfl) (p0 := [true, true, true, false, false]) (p1 := [true, true, true, false, true]) rfl rfl ?_
   refine At.region (by kernel_rfl) (by kernel_rfl) ?_
   refine In.run' 3 (k' := 3) rfl [(14, (.int .i64 p1)), (15, (.int .i64 (IntKind.wrap .i64 (Int.tdiv p1 128)))), (0, (.int .i64 (IntKind.wrap .i64 (Int.tdiv p1 128))))] (by kernel_rfl) ?_
   refine In.fin (by kernel_rfl) ?_
   refine At.block (by kernel_rfl) (id := 0) (by kernel_rfl) (p0 := [true, true, true, false, true, false]) rfl ?_
   refine At.loop (by kernel_rfl) (p0 := [true, true, true, false, true, false, false]) rfl (fun f2 ρ w => ∃ (v33 : Int) (v36 : (List UInt8)) (A34 : Option Addr) (c35 : Nat), Known ρ [(0, (.int .i64 v33)), (3, (.slice A34 (List.length v36) c35))] ∧ SP [] w0 w [rowT 5 eU8 A34 c35 v36] ∧ L_subwayref01_Put_l2  f2 v33 v36 = some r) (by rintro ρ w ⟨v33, v36, A34, c35, hk, hs, H⟩; cases H) ?_ fuel ?_
   ·rintro f2 ρ w31 ⟨v33, v36, A34, c35, hk, hs32, H⟩
    refine At.known [(0, (.int .i64 v33)), (3, (.slice A34 (List.length v36) c35))] hk ?_
    replace H := (show L_subwayref01_Put_b2 (L_subwayref01_Put_l2 f2) v33 v36 = some r from H)
    unfold L_subwayref01_Put_b2 at H
    refine At.seq (by kernel_rfl) (p0 := [true, true, true, false, true, false, false, false]) (p1 := [true, true, true, false, true, false, false, true]) rfl rfl ?_
    refine At.seq (by kernel_rfl) (p0 := [true, true, true, false, true, false, false, false, false]) (p1 := [true, true, true, false, true, false, false, false, true]) rfl rfl ?_
    refine At.region (by kernel_rfl) (by kernel_rfl) ?_
    refine In.run' 2 (k' := 2) rfl [(16, (.int .i64 v33)), (17, (.bool (decide (v33 > 0))))] (by kernel_rfl) ?_
    refine In.fin (by kernel_rfl) ?_
    refine At.cond (by kernel_rfl) (o := (.tmp 17)) (by kernel_rfl) (b := (decide (v33 > 0))) (by kernel_rfl) (p0 := [true, true, true, false, true, false, false, false, true, false]) (p1 := [true, true, true, false, true, false, false, false, true, true]) rfl rfl (fun hb49 => ?_) (fun hb49 => ?_)
    ·have H := ct H hb49
     refine At.skip (by kernel_rfl) ?_
     refine At.seq (by kernel_rfl) (p0 := [true, true, true, false, true, false, false, true, false]) (p1 := [true, true, true, false, true, false, false, true, true]) rfl rfl ?_
     refine At.block (by kernel_rfl) (id := 1) (by kernel_rfl) (p0 := [true, true, true, false, true, false, false, true, false, false]) rfl ?_
     refine At.region (by kernel_rfl) (by kernel_rfl) ?_
     refine In.run' 4 (k' := 4) rfl [(20, (.int .i64 v33)), (21, (.int .i64 (Int.tmod v33 128))), (22, (.int .u8 (IntKind.wrap .u8 (Int.tmod v33 128)))), (23, (.int .u8 (IntKind.wrap .u8 ((IntKind.wrap .u8 (Int.tmod v33 128)) + 128))))] (by kernel_rfl) ?_
     refine In.step (k' := 5) rfl (by kernel_rfl) ?_
     refine Step.newSlice (e := eU8) (T := 22) (E := 5) (len := 1) (parts := #[(0, (.tmp 23))]) (cs := #[(.int .u8 (IntKind.wrap .u8 ((IntKind.wrap .u8 (Int.tmod v33 128)) + 128)))]) ([(toU8 (IntKind.wrap .u8 ((IntKind.wrap .u8 (Int.tmod v33 128)) + 128)))] : List UInt8) (d := (some 24)) (k := 4) (by kernel_rfl) rfl (fun _ => by kernel_rfl) hs32 (cells_cons8 (Or.inr ⟨rfl, (u8_wrap _)⟩) rfl) rfl rfl rfl ?_
     intro g50 w51 hs52
     have hs53 : SP [] w0 w51 [rowT 5 eU8 A34 c35 v36, rowT 5 eU8 (some ⟨g50, 0, none⟩) (List.length ([(toU8 (IntKind.wrap .u8 ((IntKind.wrap .u8 (Int.tmod v33 128)) + 128)))] : List UInt8)) ([(toU8 (IntKind.wrap .u8 ((IntKind.wrap .u8 (Int.tmod v33 128)) + 128)))] : List UInt8)] := hs52
     clear hs52
     refine In.run' 1 (k' := 6) rfl [(25, (.slice A34 (List.length v36) c35))] (by kernel_rfl) ?_
     obtain ⟨hl54, H⟩ := app_elim H
     obtain ⟨l55, hyl55⟩ : ∃ y, ([(toU8 (IntKind.wrap .u8 ((IntKind.wrap .u8 (Int.tmod v33 128)) + 128)))] : List UInt8) ++ v36 = y := ⟨_, rfl⟩
     rw [hyl55] at H
     refine In.step (k' := 7) rfl (by kernel_rfl) ?_
     refine Step.append (e := eU8) (l := ([(toU8 (IntKind.wrap .u8 ((IntKind.wrap .u8 (Int.tmod v33 128)) + 128)))] : List UInt8)) (m := v36) (A := (some ⟨g50, 0, none⟩)) (c := (List.length ([(toU8 (IntKind.wrap .u8 ((IntKind.wrap .u8 (Int.tmod v33 128)) + 128)))] : List UInt8))) (T := 22) (TX := 22) (E := 5) (b := 1) (s := (.tmp 24)) (x := (.tmp 25)) (i := 1) (vx := (.slice A34 (List.length v36) c35)) (d := (some 26)) (k := 6) (by kernel_rfl) rfl (by kernel_rfl) (by kernel_rfl) (by kernel_rfl) (by kernel_rfl) rfl hs53 rfl (src_rdt (E := 5) (by kernel_rfl) (rowT_rd (SP.get hs53 (i := 0) rfl))) hl54 ?_
     rw [hyl55]
     intro A56 c57 w58 hs59
     have hs60 : SP [] w0 w58 [rowT 5 eU8 A34 c35 v36, rowT 5 eU8 A56 c57 l55] := hs59
     clear hs59
     refine In.run' 1 (k' := 8) rfl [(3, (.slice A56 (List.length l55) c57))] (by kernel_rfl) ?_
     refine In.fin (by kernel_rfl) ?_
     refine At.region (by kernel_rfl) (by kernel_rfl) ?_
     refine In.run' 3 (k' := 3) rfl [(18, (.int .i64 v33)), (19, (.int .i64 (IntKind.wrap .i64 (Int.tdiv v33 128)))), (0, (.int .i64 (IntKind.wrap .i64 (Int.tdiv v33 128))))] (by kernel_rfl) ?_
     refine In.fin (by kernel_rfl) ?_
     exact ⟨(IntKind.wrap .i64 (Int.tdiv v33 128)), l55, A56, c57, ⟨(by kernel_rfl), (by kernel_rfl), trivial⟩, SP.sel hs60 [1] rfl rfl, H⟩
    ·have H := cf H hb49
     refine At.exit (by kernel_rfl) (id := 0) (by kernel_rfl) ?_
     refine At.seq (by kernel_rfl) (p0 := [true, true, true, true, false]) (p1 := [true, true, true, true, true]) rfl rfl ?_
     refine At.region (by kernel_rfl) (by kernel_rfl) ?_
     refine In.run' 2 (k' := 2) rfl [(27, (.slice A34 (List.length v36) c35)), (2, (.slice A34 (List.length v36) c35))] (by kernel_rfl) ?_
     refine In.fin (by kernel_rfl) ?_
     refine At.ret (by kernel_rfl) ?_
     refine ⟨(.slice A34 (List.length v36) c35), by kernel_rfl, ?_⟩
     obtain rfl := some_elim H
     exact ⟨A34, c35, rfl, SP.sel hs32 [0] rfl rfl⟩
   ·exact ⟨(IntKind.wrap .i64 (Int.tdiv p1 128)), ([(toU8 (IntKind.wrap .u8 (Int.tmod p1 128)))] : List UInt8), (some ⟨g11, 0, none⟩), (List.length ([(toU8 (IntKind.wrap .u8 (Int.tmod p1 128)))] : List UInt8)), ⟨(by kernel_rfl), (by kernel_rfl), trivial⟩, SP.sel hs14 [0] rfl rfl, H⟩
/-! L_subwayref01_Get -/
def L_subwayref01_Get_k7 (rec5 : Int → Int → Option (Int × Int × Bool)) (p1 : (List UInt8)) (v59 : Int) (v60 : Int) (v126 : Bool) : Option (Int × Int × Bool) :=
  (cond v126 (some (0, 0, false)) ((idx p1 v60).bind fun x130 => ((idx p1 v60).bind fun x139 => (cond (decide (((x139).toNat : Int) < 128)) (cond (decide ((IntKind.wrap .i64 ((IntKind.wrap .i64 (128 * v59)) + (IntKind.wrap .i64 (Int.tmod ((x130).toNat : Int) 128)))) > 1099511627776)) (some (0, 0, false)) (some ((IntKind.wrap .i64 ((IntKind.wrap .i64 (128 * v59)) + (IntKind.wrap .i64 (Int.tmod ((x130).toNat : Int) 128)))), (IntKind.wrap .i64 (v60 + 1)), true))) (rec5 (IntKind.wrap .i64 ((IntKind.wrap .i64 (128 * v59)) + (IntKind.wrap .i64 (Int.tmod ((x130).toNat : Int) 128)))) (IntKind.wrap .i64 (v60 + 1)))))))
def L_subwayref01_Get_k6 (rec5 : Int → Int → Option (Int × Int × Bool)) (p1 : (List UInt8)) (v59 : Int) (v60 : Int) (v112 : Bool) : Option (Int × Int × Bool) :=
  (cond v112 (cond (v60 == 0) ((idx p1 v60).bind fun x151 => (L_subwayref01_Get_k7 rec5 p1 v59 v60 (((x151).toNat : Int) == 128))) (L_subwayref01_Get_k7 rec5 p1 v59 v60 false)) (some (0, 0, false)))
def L_subwayref01_Get_b3 (rec5 : Int → Int → Option (Int × Int × Bool)) (p1 : (List UInt8)) (v59 : Int) (v60 : Int) : Option (Int × Int × Bool) :=
  (cond (decide (v60 < ((List.length p1 : Nat) : Int))) (L_subwayref01_Get_k6 rec5 p1 v59 v60 (decide (v60 < 6))) (L_subwayref01_Get_k6 rec5 p1 v59 v60 false))
def L_subwayref01_Get_l3 (p1 : (List UInt8)) : Nat → Int → Int → Option (Int × Int × Bool)
  | 0, _, _ => none
  | f + 1, v59, v60 => L_subwayref01_Get_b3  (L_subwayref01_Get_l3 p1 f) p1 v59 v60
def L_subwayref01_Get (p1 : (List UInt8)) : Option (Int × Int × Bool) :=
  (L_subwayref01_Get_l3 p1 fuel 0 0)
set_option maxRecDepth 100000 in
set_option maxHeartbeats 4000000 in
theorem L_subwayref01_Get_walk (A2 : Option Addr) (c3 : Nat) (p1 : (List UInt8)) (w0 : World) (hr4 : RdT eU8 w0 A2 c3 p1) (r : (Int × Int × Bool)) (H : L_subwayref01_Get p1 = some r) :
  Calls Tryd.prog 11 #[(.slice A2 (List.length p1) c3)] w0 (fun e w' => e = .returned (.tuple #[(.int .i64 r.1), (.int .i64 r.2.1), (.bool r.2.2)]) ∧ SP [] w0 w' []) := by
 unfold L_subwayref01_Get at H
 refine calls_start (n := 45) Tryd.func11 (by kernel_rfl) (by kernel_rfl) (by kernel_rfl) ?_
 have hs0 := SP.start [] w0
 refine At.seq (by kernel_rfl) (p0 := [false]) (p1 := [true]) rfl rfl ?_
 refine At.region (by kernel_rfl) (by kernel_rfl) ?_
 refine In.run' 3 (k' := 3) rfl [(2, (.int .i64 0)), (3, (.int .i64 0)), (4, (.bool false))] (by kernel_rfl) ?_
 refine In.fin (by kernel_rfl) ?_
 refine At.seq (by kernel_rfl) (p0 := [true, false]) (p1 := [true, true]) rfl rfl ?_
 refine At.region (by kernel_rfl) (by kernel_rfl) ?_
 refine In.run' 1 (k' := 1) rfl [(5, (.int .i64 0))] (by kernel_rfl) ?_
 refine In.fin (by kernel_rfl) ?_
 refine At.seq (by kernel_rfl) (p0 := [true, true, false]) (p1 := [true, true, true]) rfl rfl ?_
 refine At.seq (by kernel_rfl) (p0 := [true, true, false, false]) (p1 := [true, true, false, true]) rfl rfl ?_
 refine At.region (by kernel_rfl) (by kernel_rfl) ?_
 refine In.run' 1 (k' := 1) rfl [(6, (.int .i64 0))] (by kernel_rfl) ?_
 refine In.fin (by kernel_rfl) ?_
 refine At.block (by kernel_rfl) (id := 0) (by kernel_rfl) (p0 := [true, true, false, true, false]) rfl ?_
 refine At.loop (by kernel_rfl) (p0 := [true, true, false, true, false, false]) rfl (fun f5 ρ w => ∃ (v59 : Int) (v60 : Int), Known ρ [(0, (.slice A2 (List.length p1) c3)), (5, (.int .i64 v59)), (6, (.int .i64 v60))] ∧ SP [] w0 w [] ∧ L_subwayref01_Get_l3 p1 f5 v59 v60 = some r) (by rintro ρ w ⟨v59, v60, hk, hs, H⟩; cases H) ?_ fuel ?_
 ·rintro f5 ρ w57 ⟨v59, v60, hk, hs58, H⟩
  refine At.known [(0, (.slice A2 (List.length p1) c3)), (5, (.int .i64 v59)), (6, (.int .i64 v60))] hk ?_
  replace H := (show L_subwayref01_Get_b3 (L_subwayref01_Get_l3 p1 f5) p1 v59 v60 = some r from H)
  unfold L_subwayref01_Get_b3 at H
  refine At.seq (by kernel_rfl) (p0 := [true, true, false, true, false, false, false]) (p1 := [true, true, false, true, false, false, true]) rfl rfl ?_
  refine At.seq (by kernel_rfl) (p0 := [true, true, false, true, false, false, false, false]) (p1 := [true, true, false, true, false, false, false, true]) rfl rfl ?_
  refine At.join (fun ρ w => ∃ (v112 : Bool), Known ρ [(0, (.slice A2 (List.length p1) c3)), (5, (.int .i64 v59)), (6, (.int .i64 v60)), (14, (.bool v112))] ∧ SP [] w0 w [] ∧ L_subwayref01_Get_k6 (L_subwayref01_Get_l3 p1 f5) p1 v59 v60 v112 = some r) ?_ ?_
  ·refine At.region (by kernel_rfl) (by kernel_rfl) ?_
   refine In.run' 5 (k' := 5) rfl [(7, (.int .i64 v60)), (8, (.slice A2 (List.length p1) c3)), (9, (.int .i64 ((List.length p1 : Nat) : Int))), (10, (.bool (decide (v60 < ((List.length p1 : Nat) : Int))))), (11, (.bool (decide (v60 < ((List.length p1 : Nat) : Int)))))] (by kernel_rfl) ?_
   refine In.guard (t := 11) (b := (decide (v60 < ((List.length p1 : Nat) : Int)))) (by kernel_rfl) (fun hb160 => ?_) (fun hb160 => ?_)
   ·have H := ct H hb160
    refine In.run' 3 (k' := 8) rfl [(12, (.int .i64 v60)), (13, (.bool (decide (v60 < 6)))), (14, (.bool (decide (v60 < 6))))] (by kernel_rfl) ?_
    refine In.fin (by kernel_rfl) ?_
    exact ⟨(decide (v60 < 6)), ⟨(by kernel_rfl), (by kernel_rfl), (by kernel_rfl), (by kernel_rfl), trivial⟩, SP.sel hs58 [] rfl rfl, H⟩
   ·have H := cf H hb160
    refine In.run' 3 (k' := 8) rfl [(12, undef), (13, undef), (14, (.bool false))] (by kernel_rfl) ?_
    refine In.fin (by kernel_rfl) ?_
    exact ⟨false, ⟨(by kernel_rfl), (by kernel_rfl), (by kernel_rfl), (by kernel_rfl), trivial⟩, SP.sel hs58 [] rfl rfl, H⟩
  ·rintro ρ w113 ⟨v112, hk, hs114, H⟩
   unfold L_subwayref01_Get_k6 at H
   refine At.known [(0, (.slice A2 (List.length p1) c3)), (5, (.int .i64 v59)), (6, (.int .i64 v60)), (14, (.bool v112))] hk ?_
   refine At.cond (by kernel_rfl) (o := (.tmp 14)) (by kernel_rfl) (b := v112) (by kernel_rfl) (p0 := [true, true, false, true, false, false, false, true, false]) (p1 := [true, true, false, true, false, false, false, true, true]) rfl rfl (fun hb115 => ?_) (fun hb115 => ?_)
   ·have H := ct H hb115
    refine At.skip (by kernel_rfl) ?_
    refine At.seq (by kernel_rfl) (p0 := [true, true, false, true, false, false, true, false]) (p1 := [true, true, false, true, false, false, true, true]) rfl rfl ?_
    refine At.block (by kernel_rfl) (id := 1) (by kernel_rfl) (p0 := [true, true, false, true, false, false, true, false, false]) rfl ?_
    refine At.seq (by kernel_rfl) (p0 := [true, true, false, true, false, false, true, false, false, false]) (p1 := [true, true, false, true, false, false, true, false, false, true]) rfl rfl ?_
    refine At.seq (by kernel_rfl) (p0 := [true, true, false, true, false, false, true, false, false, false, false]) (p1 := [true, true, false, true, false, false, true, false, false, false, true]) rfl rfl ?_
    refine At.join (fun ρ w => ∃ (v126 : Bool), Known ρ [(0, (.slice A2 (List.length p1) c3)), (5, (.int .i64 v59)), (6, (.int .i64 v60)), (25, (.bool v126))] ∧ SP [] w0 w [] ∧ L_subwayref01_Get_k7 (L_subwayref01_Get_l3 p1 f5) p1 v59 v60 v126 = some r) ?_ ?_
    ·refine At.region (by kernel_rfl) (by kernel_rfl) ?_
     refine In.run' 3 (k' := 3) rfl [(17, (.int .i64 v60)), (18, (.bool (v60 == 0))), (19, (.bool (v60 == 0)))] (by kernel_rfl) ?_
     refine In.guard (t := 19) (b := (v60 == 0)) (by kernel_rfl) (fun hb150 => ?_) (fun hb150 => ?_)
     ·have H := ct H hb150
      refine In.run' 2 (k' := 5) rfl [(20, (.slice A2 (List.length p1) c3)), (21, (.int .i64 v60))] (by kernel_rfl) ?_
      obtain ⟨x151, hp152, hq153, hx154, H⟩ := idx_elim H
      refine In.step (k' := 6) rfl (by kernel_rfl) ?_
      refine Step.elem (e := eU8) (l := p1) (A := A2) (c := c3) (T := 22) (E := 5) (x := (.tmp 20)) (ix := (.tmp 21)) (ki := .i64) (iz := v60) (d := (some 22)) (k := 5) (by kernel_rfl) rfl (by kernel_rfl) (by kernel_rfl) (by kernel_rfl) (by kernel_rfl) (RdT.sp hr4 hs114) hp152 hq153 ?_
      intro b155 o156 hA158 hb159 hc157
      refine In.step (k' := 7) rfl (by kernel_rfl) ?_
      refine Step.cell (t := 5) (x := (.tmp 22)) (b := b155) (off := (o156 + Int.toNat v60 * eU8.sz)) (v := (.int .u8 ((x151).toNat : Int))) (d := (some 23)) (k := 6) (by kernel_rfl) rfl (by kernel_rfl) (by kernel_rfl) (elem_cell (e := eU8) (rdt_cells (RdT.sp hr4 hs114) hA158 hp152 hq153) hx154 (j := 0) rfl) ?_
      refine In.run' 2 (k' := 9) rfl [(24, (.bool (((x151).toNat : Int) == 128))), (25, (.bool (((x151).toNat : Int) == 128)))] (by kernel_rfl) ?_
      refine In.fin (by kernel_rfl) ?_
      exact ⟨(((x151).toNat : Int) == 128), ⟨(by kernel_rfl), (by kernel_rfl), (by kernel_rfl), (by kernel_rfl), trivial⟩, SP.sel hs114 [] rfl rfl, H⟩
     ·have H := cf H hb150
      refine In.run' 6 (k' := 9) rfl [(20, undef), (21, undef), (22, undef), (23, undef), (24, undef), (25, (.bool false))] (by kernel_rfl) ?_
      refine In.fin (by kernel_rfl) ?_
      exact ⟨false, ⟨(by kernel_rfl), (by kernel_rfl), (by kernel_rfl), (by kernel_rfl), trivial⟩, SP.sel hs114 [] rfl rfl, H⟩
    ·rintro ρ w127 ⟨v126, hk, hs128, H⟩
     unfold L_subwayref01_Get_k7 at H
     refine At.known [(0, (.slice A2 (List.length p1) c3)), (5, (.int .i64 v59)), (6, (.int .i64 v60)), (25, (.bool v126))] hk ?_
     refine At.cond (by kernel_rfl) (o := (.tmp 25)) (by kernel_rfl) (b := v126) (by kernel_rfl) (p0 := [true, true, false, true, false, false, true, false, false, false, true, false]) (p1 := [true, true, false, true, false, false, true, false, false, false, true, true]) rfl rfl (fun hb129 => ?_) (fun hb129 => ?_)
     ·have H := ct H hb129
      refine At.seq (by kernel_rfl) (p0 := [true, true, false, true, false, false, true, false, false, false, true, false, false]) (p1 := [true, true, false, true, false, false, true, false, false, false, true, false, true]) rfl rfl ?_
      refine At.region (by kernel_rfl) (by kernel_rfl) ?_
      refine In.run' 3 (k' := 3) rfl [(2, (.int .i64 0)), (3, (.int .i64 0)), (4, (.bool false))] (by kernel_rfl) ?_
      refine In.fin (by kernel_rfl) ?_
      refine At.ret (by kernel_rfl) ?_
      refine ⟨(.tuple #[(.int .i64 0), (.int .i64 0), (.bool false)]), by kernel_rfl, ?_⟩
      obtain rfl := some_elim H
      exact ⟨rfl, SP.sel hs128 [] rfl rfl⟩
     ·have H := cf H hb129
      refine At.skip (by kernel_rfl) ?_
      refine At.seq (by kernel_rfl) (p0 := [true, true, false, true, false, false, true, false, false, true, false]) (p1 := [true, true, false, true, false, false, true, false, false, true, true]) rfl rfl ?_
      refine At.region (by kernel_rfl) (by kernel_rfl) ?_
      refine In.run' 4 (k' := 4) rfl [(26, (.int .i64 v59)), (27, (.int .i64 (IntKind.wrap .i64 (128 * v59)))), (28, (.slice A2 (List.length p1) c3)), (29, (.int .i64 v60))] (by kernel_rfl) ?_
      obtain ⟨x130, hp131, hq132, hx133, H⟩ := idx_elim H
      refine In.step (k' := 5) rfl (by kernel_rfl) ?_
      refine Step.elem (e := eU8) (l := p1) (A := A2) (c := c3) (T := 22) (E := 5) (x := (.tmp 28)) (ix := (.tmp 29)) (ki := .i64) (iz := v60) (d := (some 30)) (k := 4) (by kernel_rfl) rfl (by kernel_rfl) (by kernel_rfl) (by kernel_rfl) (by kernel_rfl) (RdT.sp hr4 hs128) hp131 hq132 ?_
      intro b134 o135 hA137 hb138 hc136
      refine In.step (k' := 6) rfl (by kernel_rfl) ?_
      refine Step.cell (t := 5) (x := (.tmp 30)) (b := b134) (off := (o135 + Int.toNat v60 * eU8.sz)) (v := (.int .u8 ((x130).toNat : Int))) (d := (some 31)) (k := 5) (by kernel_rfl) rfl (by kernel_rfl) (by kernel_rfl) (elem_cell (e := eU8) (rdt_cells (RdT.sp hr4 hs128) hA137 hp131 hq132) hx133 (j := 0) rfl) ?_
      refine In.run' 4 (k' := 10) rfl [(32, (.int .u8 (Int.tmod ((x130).toNat : Int) 128))), (33, (.int .i64 (IntKind.wrap .i64 (Int.tmod ((x130).toNat : Int) 128)))), (34, (.int .i64 (IntKind.wrap .i64 ((IntKind.wrap .i64 (128 * v59)) + (IntKind.wrap .i64 (Int.tmod ((x130).toNat : Int) 128)))))), (5, (.int .i64 (IntKind.wrap .i64 ((IntKind.wrap .i64 (128 * v59)) + (IntKind.wrap .i64 (Int.tmod ((x130).toNat : Int) 128))))))] (by kernel_rfl) ?_
      refine In.fin (by kernel_rfl) ?_
      refine At.seq (by kernel_rfl) (p0 := [true, true, false, true, false, false, true, false, false, true, true, false]) (p1 := [true, true, false, true, false, false, true, false, false, true, true, true]) rfl rfl ?_
      refine At.region (by kernel_rfl) (by kernel_rfl) ?_
      refine In.run' 2 (k' := 2) rfl [(35, (.slice A2 (List.length p1) c3)), (36, (.int .i64 v60))] (by kernel_rfl) ?_
      obtain ⟨x139, hp140, hq141, hx142, H⟩ := idx_elim H
      refine In.step (k' := 3) rfl (by kernel_rfl) ?_
      refine Step.elem (e := eU8) (l := p1) (A := A2) (c := c3) (T := 22) (E := 5) (x := (.tmp 35)) (ix := (.tmp 36)) (ki := .i64) (iz := v60) (d := (some 37)) (k := 2) (by kernel_rfl) rfl (by kernel_rfl) (by kernel_rfl) (by kernel_rfl) (by kernel_rfl) (RdT.sp hr4 hs128) hp140 hq141 ?_
      intro b143 o144 hA146 hb147 hc145
      refine In.step (k' := 4) rfl (by kernel_rfl) ?_
      refine Step.cell (t := 5) (x := (.tmp 37)) (b := b143) (off := (o144 + Int.toNat v60 * eU8.sz)) (v := (.int .u8 ((x139).toNat : Int))) (d := (some 38)) (k := 3) (by kernel_rfl) rfl (by kernel_rfl) (by kernel_rfl) (elem_cell (e := eU8) (rdt_cells (RdT.sp hr4 hs128) hA146 hp140 hq141) hx142 (j := 0) rfl) ?_
      refine In.run' 1 (k' := 5) rfl [(39, (.bool (decide (((x139).toNat : Int) < 128))))] (by kernel_rfl) ?_
      refine In.fin (by kernel_rfl) ?_
      refine At.cond (by kernel_rfl) (o := (.tmp 39)) (by kernel_rfl) (b := (decide (((x139).toNat : Int) < 128))) (by kernel_rfl) (p0 := [true, true, false, true, false, false, true, false, false, true, true, true, false]) (p1 := [true, true, false, true, false, false, true, false, false, true, true, true, true]) rfl rfl (fun hb148 => ?_) (fun hb148 => ?_)
      ·have H := ct H hb148
       refine At.seq (by kernel_rfl) (p0 := [true, true, false, true, false, false, true, false, false, true, true, true, false, false]) (p1 := [true, true, false, true, false, false, true, false, false, true, true, true, false, true]) rfl rfl ?_
       refine At.seq (by kernel_rfl) (p0 := [true, true, false, true, false, false, true, false, false, true, true, true, false, false, false]) (p1 := [true, true, false, true, false, false, true, false, false, true, true, true, false, false, true]) rfl rfl ?_
       refine At.region (by kernel_rfl) (by kernel_rfl) ?_
       refine In.run' 2 (k' := 2) rfl [(40, (.int .i64 (IntKind.wrap .i64 ((IntKind.wrap .i64 (128 * v59)) + (IntKind.wrap .i64 (Int.tmod ((x130).toNat : Int) 128)))))), (41, (.bool (decide ((IntKind.wrap .i64 ((IntKind.wrap .i64 (128 * v59)) + (IntKind.wrap .i64 (Int.tmod ((x130).toNat : Int) 128)))) > 1099511627776))))] (by kernel_rfl) ?_
       refine In.fin (by kernel_rfl) ?_
       refine At.cond (by kernel_rfl) (o := (.tmp 41)) (by kernel_rfl) (b := (decide ((IntKind.wrap .i64 ((IntKind.wrap .i64 (128 * v59)) + (IntKind.wrap .i64 (Int.tmod ((x130).toNat : Int) 128)))) > 1099511627776))) (by kernel_rfl) (p0 := [true, true, false, true, false, false, true, false, false, true, true, true, false, false, true, false]) (p1 := [true, true, false, true, false, false, true, false, false, true, true, true, false, false, true, true]) rfl rfl (fun hb149 => ?_) (fun hb149 => ?_)
       ·have H := ct H hb149
        refine At.seq (by kernel_rfl) (p0 := [true, true, false, true, false, false, true, false, false, true, true, true, false, false, true, false, false]) (p1 := [true, true, false, true, false, false, true, false, false, true, true, true, false, false, true, false, true]) rfl rfl ?_
        refine At.region (by kernel_rfl) (by kernel_rfl) ?_
        refine In.run' 3 (k' := 3) rfl [(2, (.int .i64 0)), (3, (.int .i64 0)), (4, (.bool false))] (by kernel_rfl) ?_
        refine In.fin (by kernel_rfl) ?_
        refine At.ret (by kernel_rfl) ?_
        refine ⟨(.tuple #[(.int .i64 0), (.int .i64 0), (.bool false)]), by kernel_rfl, ?_⟩
        obtain rfl := some_elim H
        exact ⟨rfl, SP.sel hs128 [] rfl rfl⟩
       ·have H := cf H hb149
        refine At.skip (by kernel_rfl) ?_
        refine At.seq (by kernel_rfl) (p0 := [true, true, false, true, false, false, true, false, false, true, true, true, false, true, false]) (p1 := [true, true, false, true, false, false, true, false, false, true, true, true, false, true, true]) rfl rfl ?_
        refine At.region (by kernel_rfl) (by kernel_rfl) ?_
        refine In.run' 6 (k' := 6) rfl [(42, (.int .i64 (IntKind.wrap .i64 ((IntKind.wrap .i64 (128 * v59)) + (IntKind.wrap .i64 (Int.tmod ((x130).toNat : Int) 128)))))), (43, (.int .i64 v60)), (44, (.int .i64 (IntKind.wrap .i64 (v60 + 1)))), (2, (.int .i64 (IntKind.wrap .i64 ((IntKind.wrap .i64 (128 * v59)) + (IntKind.wrap .i64 (Int.tmod ((x130).toNat : Int) 128)))))), (3, (.int .i64 (IntKind.wrap .i64 (v60 + 1)))), (4, (.bool true))] (by kernel_rfl) ?_
        refine In.fin (by kernel_rfl) ?_
        refine At.ret (by kernel_rfl) ?_
        refine ⟨(.tuple #[(.int .i64 (IntKind.wrap .i64 ((IntKind.wrap .i64 (128 * v59)) + (IntKind.wrap .i64 (Int.tmod ((x130).toNat : Int) 128))))), (.int .i64 (IntKind.wrap .i64 (v60 + 1))), (.bool true)]), by kernel_rfl, ?_⟩
        obtain rfl := some_elim H
        exact ⟨rfl, SP.sel hs128 [] rfl rfl⟩
      ·have H := cf H hb148
       refine At.skip (by kernel_rfl) ?_
       refine At.region (by kernel_rfl) (by kernel_rfl) ?_
       refine In.run' 3 (k' := 3) rfl [(15, (.int .i64 v60)), (16, (.int .i64 (IntKind.wrap .i64 (v60 + 1)))), (6, (.int .i64 (IntKind.wrap .i64 (v60 + 1))))] (by kernel_rfl) ?_
       refine In.fin (by kernel_rfl) ?_
       exact ⟨(IntKind.wrap .i64 ((IntKind.wrap .i64 (128 * v59)) + (IntKind.wrap .i64 (Int.tmod ((x130).toNat : Int) 128)))), (IntKind.wrap .i64 (v60 + 1)), ⟨(by kernel_rfl), (by kernel_rfl), (by kernel_rfl), trivial⟩, SP.sel hs128 [] rfl rfl, H⟩
   ·have H := cf H hb115
    refine At.exit (by kernel_rfl) (id := 0) (by kernel_rfl) ?_
    refine At.seq (by kernel_rfl) (p0 := [true, true, true, false]) (p1 := [true, true, true, true]) rfl rfl ?_
    refine At.region (by kernel_rfl) (by kernel_rfl) ?_
    refine In.run' 3 (k' := 3) rfl [(2, (.int .i64 0)), (3, (.int .i64 0)), (4, (.bool false))] (by kernel_rfl) ?_
    refine In.fin (by kernel_rfl) ?_
    refine At.ret (by kernel_rfl) ?_
    refine ⟨(.tuple #[(.int .i64 0), (.int .i64 0), (.bool false)]), by kernel_rfl, ?_⟩
    obtain rfl := some_elim H
    exact ⟨rfl, SP.sel hs114 [] rfl rfl⟩
 ·exact ⟨0, 0, ⟨(by kernel_rfl), (by kernel_rfl), (by kernel_rfl), trivial⟩, SP.sel hs0 [] rfl rfl, H⟩
end Go.Proofs.YtjpchjbbfbmjgaaDoor
