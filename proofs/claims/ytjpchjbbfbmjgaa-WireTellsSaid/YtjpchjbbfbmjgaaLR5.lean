/- LIFTED BY PROGRAM (tools/lift.py): what functions compute, and that they do. -/
import Derived.Test.YtjpchjbbfbmjgaaLR1
namespace Go.Proofs.Ytjpchjbbfbmjgaa
set_option linter.unusedSimpArgs false
set_option linter.unusedVariables false
open Go.RowKit

/-! L_subwayref05_has -/
def L_subwayref05_has_k1 (p1 : Int) (v7 : Bool) : Option ((List UInt8)) :=
  (cond v7 (some (([46] : List UInt8))) ((idx ([([46] : List UInt8), ([65, 66] : List UInt8), ([65] : List UInt8), ([65] : List UInt8), ([] : List UInt8), ([78] : List UInt8), ([65, 78] : List UInt8), ([65, 78, 77] : List UInt8), ([65, 78, 77] : List UInt8), ([65, 78] : List UInt8), ([65, 78] : List UInt8), ([65, 66] : List UInt8), ([66] : List UInt8), ([] : List UInt8), ([65] : List UInt8)] : List (List UInt8)) p1).bind fun x11 => (some (x11))))
def L_subwayref05_has (p1 : Int) : Option ((List UInt8)) :=
  (cond (decide (p1 < 1)) (L_subwayref05_has_k1 p1 true) (L_subwayref05_has_k1 p1 (decide (p1 > 14))))
set_option maxRecDepth 100000 in
set_option maxHeartbeats 4000000 in
theorem L_subwayref05_has_walk  (p1 : Int) (w0 : World)  (r : ((List UInt8))) (H : L_subwayref05_has p1 = some r) :
    Calls Try.prog 26 #[(.int .i64 p1)] w0 (fun e w' => e = .returned (.string ⟨List.toArray r⟩) ∧ SP [] w0 w' []) := by
  unfold L_subwayref05_has at H
  refine calls_start (n := 15) Try.func26 (by kernel_rfl) (by kernel_rfl) (by kernel_rfl) ?_
  have hs0 := SP.start [] w0
  refine At.seq (by kernel_rfl) (p0 := [false]) (p1 := [true]) rfl rfl ?_
  refine At.region (by kernel_rfl) (by kernel_rfl) ?_
  refine In.run' 1 (k' := 1) rfl [(2, (.string ⟨List.toArray ([] : List UInt8)⟩))] (by kernel_rfl) ?_
  refine In.fin (by kernel_rfl) ?_
  refine At.seq (by kernel_rfl) (p0 := [true, false]) (p1 := [true, true]) rfl rfl ?_
  refine At.region (by kernel_rfl) (by kernel_rfl) ?_
  refine In.step (k' := 1) rfl (by kernel_rfl) ?_
  refine Step.newSlice (e := eStr) (T := 59) (E := 9) (len := 15) (parts := #[(0, (.const (.string ⟨List.toArray ([46] : List UInt8)⟩))), (1, (.const (.string ⟨List.toArray ([65, 66] : List UInt8)⟩))), (2, (.const (.string ⟨List.toArray ([65] : List UInt8)⟩))), (3, (.const (.string ⟨List.toArray ([65] : List UInt8)⟩))), (4, (.const (.string ⟨List.toArray ([] : List UInt8)⟩))), (5, (.const (.string ⟨List.toArray ([78] : List UInt8)⟩))), (6, (.const (.string ⟨List.toArray ([65, 78] : List UInt8)⟩))), (7, (.const (.string ⟨List.toArray ([65, 78, 77] : List UInt8)⟩))), (8, (.const (.string ⟨List.toArray ([65, 78, 77] : List UInt8)⟩))), (9, (.const (.string ⟨List.toArray ([65, 78] : List UInt8)⟩))), (10, (.const (.string ⟨List.toArray ([65, 78] : List UInt8)⟩))), (11, (.const (.string ⟨List.toArray ([65, 66] : List UInt8)⟩))), (12, (.const (.string ⟨List.toArray ([66] : List UInt8)⟩))), (13, (.const (.string ⟨List.toArray ([] : List UInt8)⟩))), (14, (.const (.string ⟨List.toArray ([65] : List UInt8)⟩)))]) (cs := #[(.string ⟨List.toArray ([46] : List UInt8)⟩), (.string ⟨List.toArray ([65, 66] : List UInt8)⟩), (.string ⟨List.toArray ([65] : List UInt8)⟩), (.string ⟨List.toArray ([65] : List UInt8)⟩), (.string ⟨List.toArray ([] : List UInt8)⟩), (.string ⟨List.toArray ([78] : List UInt8)⟩), (.string ⟨List.toArray ([65, 78] : List UInt8)⟩), (.string ⟨List.toArray ([65, 78, 77] : List UInt8)⟩), (.string ⟨List.toArray ([65, 78, 77] : List UInt8)⟩), (.string ⟨List.toArray ([65, 78] : List UInt8)⟩), (.string ⟨List.toArray ([65, 78] : List UInt8)⟩), (.string ⟨List.toArray ([65, 66] : List UInt8)⟩), (.string ⟨List.toArray ([66] : List UInt8)⟩), (.string ⟨List.toArray ([] : List UInt8)⟩), (.string ⟨List.toArray ([65] : List UInt8)⟩)]) ([([46] : List UInt8), ([65, 66] : List UInt8), ([65] : List UInt8), ([65] : List UInt8), ([] : List UInt8), ([78] : List UInt8), ([65, 78] : List UInt8), ([65, 78, 77] : List UInt8), ([65, 78, 77] : List UInt8), ([65, 78] : List UInt8), ([65, 78] : List UInt8), ([65, 66] : List UInt8), ([66] : List UInt8), ([] : List UInt8), ([65] : List UInt8)] : List (List UInt8)) (d := (some 4)) (k := 0) (by kernel_rfl) rfl (fun _ => by kernel_rfl) hs0 rfl rfl rfl rfl ?_
  intro g2 w3 hs4
  have hs5 : SP [] w0 w3 [rowT 9 eStr (some ⟨g2, 0, none⟩) (List.length ([([46] : List UInt8), ([65, 66] : List UInt8), ([65] : List UInt8), ([65] : List UInt8), ([] : List UInt8), ([78] : List UInt8), ([65, 78] : List UInt8), ([65, 78, 77] : List UInt8), ([65, 78, 77] : List UInt8), ([65, 78] : List UInt8), ([65, 78] : List UInt8), ([65, 66] : List UInt8), ([66] : List UInt8), ([] : List UInt8), ([65] : List UInt8)] : List (List UInt8))) ([([46] : List UInt8), ([65, 66] : List UInt8), ([65] : List UInt8), ([65] : List UInt8), ([] : List UInt8), ([78] : List UInt8), ([65, 78] : List UInt8), ([65, 78, 77] : List UInt8), ([65, 78, 77] : List UInt8), ([65, 78] : List UInt8), ([65, 78] : List UInt8), ([65, 66] : List UInt8), ([66] : List UInt8), ([] : List UInt8), ([65] : List UInt8)] : List (List UInt8))] := hs4
  clear hs4
  refine In.run' 1 (k' := 2) rfl [(3, (.slice (some ⟨g2, 0, none⟩) (List.length ([([46] : List UInt8), ([65, 66] : List UInt8), ([65] : List UInt8), ([65] : List UInt8), ([] : List UInt8), ([78] : List UInt8), ([65, 78] : List UInt8), ([65, 78, 77] : List UInt8), ([65, 78, 77] : List UInt8), ([65, 78] : List UInt8), ([65, 78] : List UInt8), ([65, 66] : List UInt8), ([66] : List UInt8), ([] : List UInt8), ([65] : List UInt8)] : List (List UInt8))) (List.length ([([46] : List UInt8), ([65, 66] : List UInt8), ([65] : List UInt8), ([65] : List UInt8), ([] : List UInt8), ([78] : List UInt8), ([65, 78] : List UInt8), ([65, 78, 77] : List UInt8), ([65, 78, 77] : List UInt8), ([65, 78] : List UInt8), ([65, 78] : List UInt8), ([65, 66] : List UInt8), ([66] : List UInt8), ([] : List UInt8), ([65] : List UInt8)] : List (List UInt8)))))] (by kernel_rfl) ?_
  refine In.fin (by kernel_rfl) ?_
  refine At.seq (by kernel_rfl) (p0 := [true, true, false]) (p1 := [true, true, true]) rfl rfl ?_
  refine At.seq (by kernel_rfl) (p0 := [true, true, false, false]) (p1 := [true, true, false, true]) rfl rfl ?_
  refine At.join (fun ρ w => ∃ (v7 : Bool), Known ρ [(0, (.int .i64 p1)), (3, (.slice (some ⟨g2, 0, none⟩) (List.length ([([46] : List UInt8), ([65, 66] : List UInt8), ([65] : List UInt8), ([65] : List UInt8), ([] : List UInt8), ([78] : List UInt8), ([65, 78] : List UInt8), ([65, 78, 77] : List UInt8), ([65, 78, 77] : List UInt8), ([65, 78] : List UInt8), ([65, 78] : List UInt8), ([65, 66] : List UInt8), ([66] : List UInt8), ([] : List UInt8), ([65] : List UInt8)] : List (List UInt8))) (List.length ([([46] : List UInt8), ([65, 66] : List UInt8), ([65] : List UInt8), ([65] : List UInt8), ([] : List UInt8), ([78] : List UInt8), ([65, 78] : List UInt8), ([65, 78, 77] : List UInt8), ([65, 78, 77] : List UInt8), ([65, 78] : List UInt8), ([65, 78] : List UInt8), ([65, 66] : List UInt8), ([66] : List UInt8), ([] : List UInt8), ([65] : List UInt8)] : List (List UInt8))))), (10, (.bool v7))] ∧ SP [] w0 w [rowT 9 eStr (some ⟨g2, 0, none⟩) (List.length ([([46] : List UInt8), ([65, 66] : List UInt8), ([65] : List UInt8), ([65] : List UInt8), ([] : List UInt8), ([78] : List UInt8), ([65, 78] : List UInt8), ([65, 78, 77] : List UInt8), ([65, 78, 77] : List UInt8), ([65, 78] : List UInt8), ([65, 78] : List UInt8), ([65, 66] : List UInt8), ([66] : List UInt8), ([] : List UInt8), ([65] : List UInt8)] : List (List UInt8))) ([([46] : List UInt8), ([65, 66] : List UInt8), ([65] : List UInt8), ([65] : List UInt8), ([] : List UInt8), ([78] : List UInt8), ([65, 78] : List UInt8), ([65, 78, 77] : List UInt8), ([65, 78, 77] : List UInt8), ([65, 78] : List UInt8), ([65, 78] : List UInt8), ([65, 66] : List UInt8), ([66] : List UInt8), ([] : List UInt8), ([65] : List UInt8)] : List (List UInt8))] ∧ L_subwayref05_has_k1 p1 v7 = some r) ?_ ?_
  · refine At.region (by kernel_rfl) (by kernel_rfl) ?_
    refine In.run' 3 (k' := 3) rfl [(5, (.int .i64 p1)), (6, (.bool (decide (p1 < 1)))), (7, (.bool (decide (p1 < 1))))] (by kernel_rfl) ?_
    refine In.guard (t := 7) (b := (decide (p1 < 1))) (by kernel_rfl) (fun hb20 => ?_) (fun hb20 => ?_)
    · have H := ct H hb20
      refine In.run' 3 (k' := 6) rfl [(8, undef), (9, undef), (10, (.bool true))] (by kernel_rfl) ?_
      refine In.fin (by kernel_rfl) ?_
      exact ⟨true, ⟨(by kernel_rfl), (by kernel_rfl), (by kernel_rfl), trivial⟩, SP.sel hs5 [0] rfl rfl, H⟩
    · have H := cf H hb20
      refine In.run' 3 (k' := 6) rfl [(8, (.int .i64 p1)), (9, (.bool (decide (p1 > 14)))), (10, (.bool (decide (p1 > 14))))] (by kernel_rfl) ?_
      refine In.fin (by kernel_rfl) ?_
      exact ⟨(decide (p1 > 14)), ⟨(by kernel_rfl), (by kernel_rfl), (by kernel_rfl), trivial⟩, SP.sel hs5 [0] rfl rfl, H⟩
  · rintro ρ w8 ⟨v7, hk, hs9, H⟩
    unfold L_subwayref05_has_k1 at H
    refine At.known [(0, (.int .i64 p1)), (3, (.slice (some ⟨g2, 0, none⟩) (List.length ([([46] : List UInt8), ([65, 66] : List UInt8), ([65] : List UInt8), ([65] : List UInt8), ([] : List UInt8), ([78] : List UInt8), ([65, 78] : List UInt8), ([65, 78, 77] : List UInt8), ([65, 78, 77] : List UInt8), ([65, 78] : List UInt8), ([65, 78] : List UInt8), ([65, 66] : List UInt8), ([66] : List UInt8), ([] : List UInt8), ([65] : List UInt8)] : List (List UInt8))) (List.length ([([46] : List UInt8), ([65, 66] : List UInt8), ([65] : List UInt8), ([65] : List UInt8), ([] : List UInt8), ([78] : List UInt8), ([65, 78] : List UInt8), ([65, 78, 77] : List UInt8), ([65, 78, 77] : List UInt8), ([65, 78] : List UInt8), ([65, 78] : List UInt8), ([65, 66] : List UInt8), ([66] : List UInt8), ([] : List UInt8), ([65] : List UInt8)] : List (List UInt8))))), (10, (.bool v7))] hk ?_
    refine At.cond (by kernel_rfl) (o := (.tmp 10)) (by kernel_rfl) (b := v7) (by kernel_rfl) (p0 := [true, true, false, true, false]) (p1 := [true, true, false, true, true]) rfl rfl (fun hb10 => ?_) (fun hb10 => ?_)
    · have H := ct H hb10
      refine At.seq (by kernel_rfl) (p0 := [true, true, false, true, false, false]) (p1 := [true, true, false, true, false, true]) rfl rfl ?_
      refine At.region (by kernel_rfl) (by kernel_rfl) ?_
      refine In.run' 1 (k' := 1) rfl [(2, (.string ⟨List.toArray ([46] : List UInt8)⟩))] (by kernel_rfl) ?_
      refine In.fin (by kernel_rfl) ?_
      refine At.ret (by kernel_rfl) ?_
      refine ⟨(.string ⟨List.toArray ([46] : List UInt8)⟩), by kernel_rfl, ?_⟩
      obtain rfl := some_elim H
      exact ⟨rfl, SP.sel hs9 [] rfl rfl⟩
    · have H := cf H hb10
      refine At.skip (by kernel_rfl) ?_
      refine At.seq (by kernel_rfl) (p0 := [true, true, true, false]) (p1 := [true, true, true, true]) rfl rfl ?_
      refine At.region (by kernel_rfl) (by kernel_rfl) ?_
      refine In.run' 2 (k' := 2) rfl [(11, (.slice (some ⟨g2, 0, none⟩) (List.length ([([46] : List UInt8), ([65, 66] : List UInt8), ([65] : List UInt8), ([65] : List UInt8), ([] : List UInt8), ([78] : List UInt8), ([65, 78] : List UInt8), ([65, 78, 77] : List UInt8), ([65, 78, 77] : List UInt8), ([65, 78] : List UInt8), ([65, 78] : List UInt8), ([65, 66] : List UInt8), ([66] : List UInt8), ([] : List UInt8), ([65] : List UInt8)] : List (List UInt8))) (List.length ([([46] : List UInt8), ([65, 66] : List UInt8), ([65] : List UInt8), ([65] : List UInt8), ([] : List UInt8), ([78] : List UInt8), ([65, 78] : List UInt8), ([65, 78, 77] : List UInt8), ([65, 78, 77] : List UInt8), ([65, 78] : List UInt8), ([65, 78] : List UInt8), ([65, 66] : List UInt8), ([66] : List UInt8), ([] : List UInt8), ([65] : List UInt8)] : List (List UInt8))))), (12, (.int .i64 p1))] (by kernel_rfl) ?_
      obtain ⟨x11, hp12, hq13, hx14, H⟩ := idx_elim H
      refine In.step (k' := 3) rfl (by kernel_rfl) ?_
      refine Step.elem (e := eStr) (l := ([([46] : List UInt8), ([65, 66] : List UInt8), ([65] : List UInt8), ([65] : List UInt8), ([] : List UInt8), ([78] : List UInt8), ([65, 78] : List UInt8), ([65, 78, 77] : List UInt8), ([65, 78, 77] : List UInt8), ([65, 78] : List UInt8), ([65, 78] : List UInt8), ([65, 66] : List UInt8), ([66] : List UInt8), ([] : List UInt8), ([65] : List UInt8)] : List (List UInt8))) (A := (some ⟨g2, 0, none⟩)) (c := (List.length ([([46] : List UInt8), ([65, 66] : List UInt8), ([65] : List UInt8), ([65] : List UInt8), ([] : List UInt8), ([78] : List UInt8), ([65, 78] : List UInt8), ([65, 78, 77] : List UInt8), ([65, 78, 77] : List UInt8), ([65, 78] : List UInt8), ([65, 78] : List UInt8), ([65, 66] : List UInt8), ([66] : List UInt8), ([] : List UInt8), ([65] : List UInt8)] : List (List UInt8)))) (T := 59) (E := 9) (x := (.tmp 11)) (ix := (.tmp 12)) (ki := .i64) (iz := p1) (d := (some 13)) (k := 2) (by kernel_rfl) rfl (by kernel_rfl) (by kernel_rfl) (by kernel_rfl) (by kernel_rfl) (rowT_rd (SP.get hs9 (i := 0) rfl)) hp12 hq13 ?_
      intro b15 o16 hA18 hb19 hc17
      refine In.step (k' := 4) rfl (by kernel_rfl) ?_
      refine Step.cell (t := 9) (x := (.tmp 13)) (b := b15) (off := (o16 + Int.toNat p1 * eStr.sz)) (v := (.string ⟨List.toArray x11⟩)) (d := (some 14)) (k := 3) (by kernel_rfl) rfl (by kernel_rfl) (by kernel_rfl) (elem_cell (e := eStr) hc17 hx14 (j := 0) rfl) ?_
      refine In.run' 1 (k' := 5) rfl [(2, (.string ⟨List.toArray x11⟩))] (by kernel_rfl) ?_
      refine In.fin (by kernel_rfl) ?_
      refine At.ret (by kernel_rfl) ?_
      refine ⟨(.string ⟨List.toArray x11⟩), by kernel_rfl, ?_⟩
      obtain rfl := some_elim H
      exact ⟨rfl, SP.sel hs9 [] rfl rfl⟩
/-! L_subwayref05_of -/
def L_subwayref05_of_b1 (rec1 : Int → Option (Bool)) (p1 : (List UInt8)) (p2 : UInt8) (v12 : Int) : Option (Bool) :=
  (cond (decide (v12 < ((List.length p1 : Nat) : Int))) ((idx p1 v12).bind fun x20 => (cond (((x20).toNat : Int) == ((p2).toNat : Int)) (some (true)) (rec1 (IntKind.wrap .i64 (v12 + 1))))) (some (false)))
def L_subwayref05_of_l1 (p1 : (List UInt8)) (p2 : UInt8) : Nat → Int → Option (Bool)
  | 0, _ => none
  | f + 1, v12 => L_subwayref05_of_b1  (L_subwayref05_of_l1 p1 p2 f) p1 p2 v12
def L_subwayref05_of (p1 : (List UInt8)) (p2 : UInt8) : Option (Bool) :=
  (L_subwayref05_of_l1 p1 p2 fuel 0)
set_option maxRecDepth 100000 in
set_option maxHeartbeats 4000000 in
theorem L_subwayref05_of_walk  (p1 : (List UInt8)) (p2 : UInt8) (w0 : World)  (r : (Bool)) (H : L_subwayref05_of p1 p2 = some r) :
    Calls Try.prog 27 #[(.string ⟨List.toArray p1⟩), (.int .u8 ((p2).toNat : Int))] w0 (fun e w' => e = .returned (.bool r) ∧ SP [] w0 w' []) := by
  unfold L_subwayref05_of at H
  refine calls_start (n := 17) Try.func27 (by kernel_rfl) (by kernel_rfl) (by kernel_rfl) ?_
  have hs0 := SP.start [] w0
  refine At.seq (by kernel_rfl) (p0 := [false]) (p1 := [true]) rfl rfl ?_
  refine At.region (by kernel_rfl) (by kernel_rfl) ?_
  refine In.run' 1 (k' := 1) rfl [(4, (.bool false))] (by kernel_rfl) ?_
  refine In.fin (by kernel_rfl) ?_
  refine At.seq (by kernel_rfl) (p0 := [true, false]) (p1 := [true, true]) rfl rfl ?_
  refine At.seq (by kernel_rfl) (p0 := [true, false, false]) (p1 := [true, false, true]) rfl rfl ?_
  refine At.region (by kernel_rfl) (by kernel_rfl) ?_
  refine In.run' 1 (k' := 1) rfl [(5, (.int .i64 0))] (by kernel_rfl) ?_
  refine In.fin (by kernel_rfl) ?_
  refine At.block (by kernel_rfl) (id := 0) (by kernel_rfl) (p0 := [true, false, true, false]) rfl ?_
  refine At.loop (by kernel_rfl) (p0 := [true, false, true, false, false]) rfl (fun f ρ w => ∃ (v12 : Int), Known ρ [(0, (.string ⟨List.toArray p1⟩)), (1, (.int .u8 ((p2).toNat : Int))), (5, (.int .i64 v12))] ∧ SP [] w0 w [] ∧ L_subwayref05_of_l1 p1 p2 f v12 = some r) (by rintro ρ w ⟨v12, hk, hs, H⟩; cases H) ?_ fuel ?_
  · rintro f ρ w10 ⟨v12, hk, hs11, H⟩
    refine At.known [(0, (.string ⟨List.toArray p1⟩)), (1, (.int .u8 ((p2).toNat : Int))), (5, (.int .i64 v12))] hk ?_
    replace H := (show L_subwayref05_of_b1 (L_subwayref05_of_l1 p1 p2 f) p1 p2 v12 = some r from H)
    unfold L_subwayref05_of_b1 at H
    refine At.seq (by kernel_rfl) (p0 := [true, false, true, false, false, false]) (p1 := [true, false, true, false, false, true]) rfl rfl ?_
    refine At.seq (by kernel_rfl) (p0 := [true, false, true, false, false, false, false]) (p1 := [true, false, true, false, false, false, true]) rfl rfl ?_
    refine At.region (by kernel_rfl) (by kernel_rfl) ?_
    refine In.run' 4 (k' := 4) rfl [(6, (.int .i64 v12)), (7, (.string ⟨List.toArray p1⟩)), (8, (.int .i64 ((List.length p1 : Nat) : Int))), (9, (.bool (decide (v12 < ((List.length p1 : Nat) : Int)))))] (by kernel_rfl) ?_
    refine In.fin (by kernel_rfl) ?_
    refine At.cond (by kernel_rfl) (o := (.tmp 9)) (by kernel_rfl) (b := (decide (v12 < ((List.length p1 : Nat) : Int)))) (by kernel_rfl) (p0 := [true, false, true, false, false, false, true, false]) (p1 := [true, false, true, false, false, false, true, true]) rfl rfl (fun hb19 => ?_) (fun hb19 => ?_)
    · have H := ct H hb19
      refine At.skip (by kernel_rfl) ?_
      refine At.seq (by kernel_rfl) (p0 := [true, false, true, false, false, true, false]) (p1 := [true, false, true, false, false, true, true]) rfl rfl ?_
      refine At.block (by kernel_rfl) (id := 1) (by kernel_rfl) (p0 := [true, false, true, false, false, true, false, false]) rfl ?_
      refine At.seq (by kernel_rfl) (p0 := [true, false, true, false, false, true, false, false, false]) (p1 := [true, false, true, false, false, true, false, false, true]) rfl rfl ?_
      refine At.region (by kernel_rfl) (by kernel_rfl) ?_
      refine In.run' 2 (k' := 2) rfl [(12, (.string ⟨List.toArray p1⟩)), (13, (.int .i64 v12))] (by kernel_rfl) ?_
      obtain ⟨x20, hp21, hq22, hx23, H⟩ := idx_elim H
      refine In.step (k' := 3) rfl (by kernel_rfl) ?_
      refine Step.strIdx (a := p1) (u := x20) (T := 9) (x := (.tmp 12)) (ix := (.tmp 13)) (ki := .i64) (iz := v12) (d := (some 14)) (k := 2) (by kernel_rfl) rfl (by kernel_rfl) (by kernel_rfl) (by kernel_rfl) hp21 hx23 ?_
      refine In.run' 2 (k' := 5) rfl [(15, (.int .u8 ((p2).toNat : Int))), (16, (.bool (((x20).toNat : Int) == ((p2).toNat : Int))))] (by kernel_rfl) ?_
      refine In.fin (by kernel_rfl) ?_
      refine At.cond (by kernel_rfl) (o := (.tmp 16)) (by kernel_rfl) (b := (((x20).toNat : Int) == ((p2).toNat : Int))) (by kernel_rfl) (p0 := [true, false, true, false, false, true, false, false, true, false]) (p1 := [true, false, true, false, false, true, false, false, true, true]) rfl rfl (fun hb24 => ?_) (fun hb24 => ?_)
      · have H := ct H hb24
        refine At.seq (by kernel_rfl) (p0 := [true, false, true, false, false, true, false, false, true, false, false]) (p1 := [true, false, true, false, false, true, false, false, true, false, true]) rfl rfl ?_
        refine At.region (by kernel_rfl) (by kernel_rfl) ?_
        refine In.run' 1 (k' := 1) rfl [(4, (.bool true))] (by kernel_rfl) ?_
        refine In.fin (by kernel_rfl) ?_
        refine At.ret (by kernel_rfl) ?_
        refine ⟨(.bool true), by kernel_rfl, ?_⟩
        obtain rfl := some_elim H
        exact ⟨rfl, SP.sel hs11 [] rfl rfl⟩
      · have H := cf H hb24
        refine At.skip (by kernel_rfl) ?_
        refine At.region (by kernel_rfl) (by kernel_rfl) ?_
        refine In.run' 3 (k' := 3) rfl [(10, (.int .i64 v12)), (11, (.int .i64 (IntKind.wrap .i64 (v12 + 1)))), (5, (.int .i64 (IntKind.wrap .i64 (v12 + 1))))] (by kernel_rfl) ?_
        refine In.fin (by kernel_rfl) ?_
        exact ⟨(IntKind.wrap .i64 (v12 + 1)), ⟨(by kernel_rfl), (by kernel_rfl), (by kernel_rfl), trivial⟩, SP.sel hs11 [] rfl rfl, H⟩
    · have H := cf H hb19
      refine At.exit (by kernel_rfl) (id := 0) (by kernel_rfl) ?_
      refine At.seq (by kernel_rfl) (p0 := [true, true, false]) (p1 := [true, true, true]) rfl rfl ?_
      refine At.region (by kernel_rfl) (by kernel_rfl) ?_
      refine In.run' 1 (k' := 1) rfl [(4, (.bool false))] (by kernel_rfl) ?_
      refine In.fin (by kernel_rfl) ?_
      refine At.ret (by kernel_rfl) ?_
      refine ⟨(.bool false), by kernel_rfl, ?_⟩
      obtain rfl := some_elim H
      exact ⟨rfl, SP.sel hs11 [] rfl rfl⟩
  · exact ⟨0, ⟨(by kernel_rfl), (by kernel_rfl), (by kernel_rfl), trivial⟩, SP.sel hs0 [] rfl rfl, H⟩
/-! L_subwayref05_Right -/
def L_subwayref05_Right_k2 (v138 : Bool) : Option (Bool) :=
  (some (v138))
def L_subwayref05_Right_k1 (pA2 : (List UInt8)) (pB3 : (List UInt8)) (pN4 : Int) (pM5 : Int) (v129 : Bool) : Option (Bool) :=
  (cond v129 (some (false)) (cond (decide (((List.length pA2 : Nat) : Int) ≤ 64)) (cond (decide (((List.length pB3 : Nat) : Int) ≤ 64)) (cond (decide (pN4 ≥ 0)) (cond (decide (pN4 ≤ 1099511627776)) (cond (decide (pM5 ≥ 0)) (L_subwayref05_Right_k2 (decide (pM5 ≤ 1099511627776))) (L_subwayref05_Right_k2 false)) (L_subwayref05_Right_k2 false)) (L_subwayref05_Right_k2 false)) (L_subwayref05_Right_k2 false)) (L_subwayref05_Right_k2 false)))
def L_subwayref05_Right (pKind1 : Int) (pA2 : (List UInt8)) (pB3 : (List UInt8)) (pN4 : Int) (pM5 : Int) : Option (Bool) :=
  ((L_subwayref05_has pKind1).bind fun z10 => (cond (z10 == ([46] : List UInt8)) (L_subwayref05_Right_k1 pA2 pB3 pN4 pM5 true) ((L_subwayref05_of z10 (65 : UInt8)).bind fun z147 => (cond (!z147) (cond (!(pA2 == ([] : List UInt8))) (L_subwayref05_Right_k1 pA2 pB3 pN4 pM5 true) ((L_subwayref05_of z10 (66 : UInt8)).bind fun z155 => (cond (!z155) (cond (!(pB3 == ([] : List UInt8))) (L_subwayref05_Right_k1 pA2 pB3 pN4 pM5 true) ((L_subwayref05_of z10 (78 : UInt8)).bind fun z163 => (cond (!z163) (cond (pN4 != 0) (L_subwayref05_Right_k1 pA2 pB3 pN4 pM5 true) ((L_subwayref05_of z10 (77 : UInt8)).bind fun z171 => (cond (!z171) (L_subwayref05_Right_k1 pA2 pB3 pN4 pM5 (pM5 != 0)) (L_subwayref05_Right_k1 pA2 pB3 pN4 pM5 false)))) ((L_subwayref05_of z10 (77 : UInt8)).bind fun z178 => (cond (!z178) (L_subwayref05_Right_k1 pA2 pB3 pN4 pM5 (pM5 != 0)) (L_subwayref05_Right_k1 pA2 pB3 pN4 pM5 false)))))) ((L_subwayref05_of z10 (78 : UInt8)).bind fun z185 => (cond (!z185) (cond (pN4 != 0) (L_subwayref05_Right_k1 pA2 pB3 pN4 pM5 true) ((L_subwayref05_of z10 (77 : UInt8)).bind fun z193 => (cond (!z193) (L_subwayref05_Right_k1 pA2 pB3 pN4 pM5 (pM5 != 0)) (L_subwayref05_Right_k1 pA2 pB3 pN4 pM5 false)))) ((L_subwayref05_of z10 (77 : UInt8)).bind fun z200 => (cond (!z200) (L_subwayref05_Right_k1 pA2 pB3 pN4 pM5 (pM5 != 0)) (L_subwayref05_Right_k1 pA2 pB3 pN4 pM5 false)))))))) ((L_subwayref05_of z10 (66 : UInt8)).bind fun z207 => (cond (!z207) (cond (!(pB3 == ([] : List UInt8))) (L_subwayref05_Right_k1 pA2 pB3 pN4 pM5 true) ((L_subwayref05_of z10 (78 : UInt8)).bind fun z215 => (cond (!z215) (cond (pN4 != 0) (L_subwayref05_Right_k1 pA2 pB3 pN4 pM5 true) ((L_subwayref05_of z10 (77 : UInt8)).bind fun z223 => (cond (!z223) (L_subwayref05_Right_k1 pA2 pB3 pN4 pM5 (pM5 != 0)) (L_subwayref05_Right_k1 pA2 pB3 pN4 pM5 false)))) ((L_subwayref05_of z10 (77 : UInt8)).bind fun z230 => (cond (!z230) (L_subwayref05_Right_k1 pA2 pB3 pN4 pM5 (pM5 != 0)) (L_subwayref05_Right_k1 pA2 pB3 pN4 pM5 false)))))) ((L_subwayref05_of z10 (78 : UInt8)).bind fun z237 => (cond (!z237) (cond (pN4 != 0) (L_subwayref05_Right_k1 pA2 pB3 pN4 pM5 true) ((L_subwayref05_of z10 (77 : UInt8)).bind fun z245 => (cond (!z245) (L_subwayref05_Right_k1 pA2 pB3 pN4 pM5 (pM5 != 0)) (L_subwayref05_Right_k1 pA2 pB3 pN4 pM5 false)))) ((L_subwayref05_of z10 (77 : UInt8)).bind fun z252 => (cond (!z252) (L_subwayref05_Right_k1 pA2 pB3 pN4 pM5 (pM5 != 0)) (L_subwayref05_Right_k1 pA2 pB3 pN4 pM5 false)))))))))))
set_option maxRecDepth 100000 in
set_option maxHeartbeats 4000000 in
theorem L_subwayref05_Right_walk  (pKind1 : Int) (pA2 : (List UInt8)) (pB3 : (List UInt8)) (pN4 : Int) (pM5 : Int) (w0 : World)  (r : (Bool)) (H : L_subwayref05_Right pKind1 pA2 pB3 pN4 pM5 = some r) :
    Calls Try.prog 14 #[(.agg #[(.int .i64 pKind1), (.string ⟨List.toArray pA2⟩), (.string ⟨List.toArray pB3⟩), (.int .i64 pN4), (.int .i64 pM5)])] w0 (fun e w' => e = .returned (.bool r) ∧ SP [] w0 w' []) := by
  unfold L_subwayref05_Right at H
  refine calls_start (n := 79) Try.func14 (by kernel_rfl) (by kernel_rfl) (by kernel_rfl) ?_
  have hs0 := SP.start [] w0
  refine At.seq (by kernel_rfl) (p0 := [false]) (p1 := [true]) rfl rfl ?_
  refine At.region (by kernel_rfl) (by kernel_rfl) ?_
  refine In.step (k' := 1) rfl (by kernel_rfl) ?_
  refine Step.box (t := 23) (x := (.tmp 0)) (v := (.agg #[(.int .i64 pKind1), (.string ⟨List.toArray pA2⟩), (.string ⟨List.toArray pB3⟩), (.int .i64 pN4), (.int .i64 pM5)])) (d := (some 1)) (k := 0) (by kernel_rfl) rfl (by kernel_rfl) hs0 ?_
  intro g6 w7 hs8
  have hs9 : SP [] w0 w7 [boxE g6 23 #[(.int .i64 pKind1), (.string ⟨List.toArray pA2⟩), (.string ⟨List.toArray pB3⟩), (.int .i64 pN4), (.int .i64 pM5)]] := hs8
  clear hs8
  refine In.run' 1 (k' := 2) rfl [(2, (.bool false))] (by kernel_rfl) ?_
  refine In.fin (by kernel_rfl) ?_
  refine At.seq (by kernel_rfl) (p0 := [true, false]) (p1 := [true, true]) rfl rfl ?_
  refine At.region (by kernel_rfl) (by kernel_rfl) ?_
  refine In.run' 1 (k' := 1) rfl [(4, (.pointer (some ⟨g6, 0, none⟩)))] (by kernel_rfl) ?_
  refine In.step (k' := 2) rfl (by kernel_rfl) ?_
  refine Step.load (t := 3) (x := (.tmp 4)) (g := g6) (off := 0) (i := 0) (v := (.int .i64 pKind1)) (d := (some 5)) (k := 1) (by kernel_rfl) rfl (by kernel_rfl) hs9 rfl (by kernel_rfl) ?_
  obtain ⟨z10, hz11, H⟩ := bind_elim H
  refine In.step (k' := 3) rfl (by kernel_rfl) ?_
  refine Step.callF (f := 26) (fo := (.func 26)) (xs := #[(.tmp 5)]) (tys := #[3]) (first := #[]) (captured := #[]) (d := (some 6)) (k := 2) (by kernel_rfl) rfl (by kernel_rfl) (by kernel_rfl) Try.call26 (L_subwayref05_has_walk  pKind1 w7  z10 hz11) ?_
  rintro e w12 ⟨rfl, hs13⟩
  refine ⟨_, rfl, ?_⟩
  have hs14 := SP.call hs9 hs13
  clear hs13
  have hs15 : SP [] w0 w12 [boxE g6 23 #[(.int .i64 pKind1), (.string ⟨List.toArray pA2⟩), (.string ⟨List.toArray pB3⟩), (.int .i64 pN4), (.int .i64 pM5)]] := hs14
  clear hs14
  refine In.run' 1 (k' := 4) rfl [(3, (.string ⟨List.toArray z10⟩))] (by kernel_rfl) ?_
  refine In.fin (by kernel_rfl) ?_
  refine At.seq (by kernel_rfl) (p0 := [true, true, false]) (p1 := [true, true, true]) rfl rfl ?_
  refine At.seq (by kernel_rfl) (p0 := [true, true, false, false]) (p1 := [true, true, false, true]) rfl rfl ?_
  refine At.join (fun ρ w => ∃ (v129 : Bool), Known ρ [(1, (.pointer (some ⟨g6, 0, none⟩))), (48, (.bool v129))] ∧ SP [] w0 w [boxE g6 23 #[(.int .i64 pKind1), (.string ⟨List.toArray pA2⟩), (.string ⟨List.toArray pB3⟩), (.int .i64 pN4), (.int .i64 pM5)]] ∧ L_subwayref05_Right_k1 pA2 pB3 pN4 pM5 v129 = some r) ?_ ?_
  · refine At.region (by kernel_rfl) (by kernel_rfl) ?_
    refine In.run' 1 (k' := 1) rfl [(7, (.string ⟨List.toArray z10⟩))] (by kernel_rfl) ?_
    refine In.step (k' := 2) rfl (by kernel_rfl) ?_
    refine Step.strOp (op := .eql) (T := 9) (T' := 9) (x := (.tmp 7)) (y := (.const (.string ⟨List.toArray ([46] : List UInt8)⟩))) (a := z10) (b := ([46] : List UInt8)) (r := (.bool (z10 == ([46] : List UInt8)))) (d := (some 8)) (k := 1) (by kernel_rfl) rfl (by kernel_rfl) (by kernel_rfl) rfl ?_
    refine In.run' 1 (k' := 3) rfl [(9, (.bool (z10 == ([46] : List UInt8))))] (by kernel_rfl) ?_
    refine In.guard (t := 9) (b := (z10 == ([46] : List UInt8))) (by kernel_rfl) (fun hb146 => ?_) (fun hb146 => ?_)
    · have H := ct H hb146
      refine In.run' 39 (k' := 42) rfl [(10, undef), (11, undef), (12, undef), (13, undef), (14, undef), (15, undef), (16, undef), (17, undef), (18, (.bool true)), (19, (.bool true)), (20, undef), (21, undef), (22, undef), (23, undef), (24, undef), (25, undef), (26, undef), (27, undef), (28, (.bool true)), (29, (.bool true)), (30, undef), (31, undef), (32, undef), (33, undef), (34, undef), (35, undef), (36, undef), (37, undef), (38, (.bool true)), (39, (.bool true)), (40, undef), (41, undef), (42, undef), (43, undef), (44, undef), (45, undef), (46, undef), (47, undef), (48, (.bool true))] (by kernel_rfl) ?_
      refine In.fin (by kernel_rfl) ?_
      exact ⟨true, ⟨(by kernel_rfl), (by kernel_rfl), trivial⟩, SP.sel hs15 [0] rfl rfl, H⟩
    · have H := cf H hb146
      refine In.run' 1 (k' := 4) rfl [(10, (.string ⟨List.toArray z10⟩))] (by kernel_rfl) ?_
      obtain ⟨z147, hz148, H⟩ := bind_elim H
      refine In.step (k' := 5) rfl (by kernel_rfl) ?_
      refine Step.callF (f := 27) (fo := (.func 27)) (xs := #[(.tmp 10), (.const (.int .u8 (65)))]) (tys := #[9, 5]) (first := #[]) (captured := #[]) (d := (some 11)) (k := 4) (by kernel_rfl) rfl (by kernel_rfl) (by kernel_rfl) Try.call27 (L_subwayref05_of_walk  z10 (65 : UInt8) w12  z147 hz148) ?_
      rintro e w149 ⟨rfl, hs150⟩
      refine ⟨_, rfl, ?_⟩
      have hs151 := SP.call hs15 hs150
      clear hs150
      have hs152 : SP [] w0 w149 [boxE g6 23 #[(.int .i64 pKind1), (.string ⟨List.toArray pA2⟩), (.string ⟨List.toArray pB3⟩), (.int .i64 pN4), (.int .i64 pM5)]] := hs151
      clear hs151
      refine In.run' 2 (k' := 7) rfl [(12, (.bool (!z147))), (13, (.bool (!z147)))] (by kernel_rfl) ?_
      refine In.guard (t := 13) (b := (!z147)) (by kernel_rfl) (fun hb153 => ?_) (fun hb153 => ?_)
      · have H := ct H hb153
        refine In.run' 1 (k' := 8) rfl [(14, (.pointer (some ⟨g6, 1, none⟩)))] (by kernel_rfl) ?_
        refine In.step (k' := 9) rfl (by kernel_rfl) ?_
        refine Step.load (t := 9) (x := (.tmp 14)) (g := g6) (off := 1) (i := 0) (v := (.string ⟨List.toArray pA2⟩)) (d := (some 15)) (k := 8) (by kernel_rfl) rfl (by kernel_rfl) hs152 rfl (by kernel_rfl) ?_
        refine In.step (k' := 10) rfl (by kernel_rfl) ?_
        refine Step.strOp (op := .neq) (T := 9) (T' := 9) (x := (.tmp 15)) (y := (.const (.string ⟨List.toArray ([] : List UInt8)⟩))) (a := pA2) (b := ([] : List UInt8)) (r := (.bool (!(pA2 == ([] : List UInt8))))) (d := (some 16)) (k := 9) (by kernel_rfl) rfl (by kernel_rfl) (by kernel_rfl) rfl ?_
        refine In.run' 3 (k' := 13) rfl [(17, (.bool (!(pA2 == ([] : List UInt8))))), (18, (.bool (!(pA2 == ([] : List UInt8))))), (19, (.bool (!(pA2 == ([] : List UInt8)))))] (by kernel_rfl) ?_
        refine In.guard (t := 19) (b := (!(pA2 == ([] : List UInt8)))) (by kernel_rfl) (fun hb154 => ?_) (fun hb154 => ?_)
        · have H := ct H hb154
          refine In.run' 29 (k' := 42) rfl [(20, undef), (21, undef), (22, undef), (23, undef), (24, undef), (25, undef), (26, undef), (27, undef), (28, (.bool true)), (29, (.bool true)), (30, undef), (31, undef), (32, undef), (33, undef), (34, undef), (35, undef), (36, undef), (37, undef), (38, (.bool true)), (39, (.bool true)), (40, undef), (41, undef), (42, undef), (43, undef), (44, undef), (45, undef), (46, undef), (47, undef), (48, (.bool true))] (by kernel_rfl) ?_
          refine In.fin (by kernel_rfl) ?_
          exact ⟨true, ⟨(by kernel_rfl), (by kernel_rfl), trivial⟩, SP.sel hs152 [0] rfl rfl, H⟩
        · have H := cf H hb154
          refine In.run' 1 (k' := 14) rfl [(20, (.string ⟨List.toArray z10⟩))] (by kernel_rfl) ?_
          obtain ⟨z155, hz156, H⟩ := bind_elim H
          refine In.step (k' := 15) rfl (by kernel_rfl) ?_
          refine Step.callF (f := 27) (fo := (.func 27)) (xs := #[(.tmp 20), (.const (.int .u8 (66)))]) (tys := #[9, 5]) (first := #[]) (captured := #[]) (d := (some 21)) (k := 14) (by kernel_rfl) rfl (by kernel_rfl) (by kernel_rfl) Try.call27 (L_subwayref05_of_walk  z10 (66 : UInt8) w149  z155 hz156) ?_
          rintro e w157 ⟨rfl, hs158⟩
          refine ⟨_, rfl, ?_⟩
          have hs159 := SP.call hs152 hs158
          clear hs158
          have hs160 : SP [] w0 w157 [boxE g6 23 #[(.int .i64 pKind1), (.string ⟨List.toArray pA2⟩), (.string ⟨List.toArray pB3⟩), (.int .i64 pN4), (.int .i64 pM5)]] := hs159
          clear hs159
          refine In.run' 2 (k' := 17) rfl [(22, (.bool (!z155))), (23, (.bool (!z155)))] (by kernel_rfl) ?_
          refine In.guard (t := 23) (b := (!z155)) (by kernel_rfl) (fun hb161 => ?_) (fun hb161 => ?_)
          · have H := ct H hb161
            refine In.run' 1 (k' := 18) rfl [(24, (.pointer (some ⟨g6, 2, none⟩)))] (by kernel_rfl) ?_
            refine In.step (k' := 19) rfl (by kernel_rfl) ?_
            refine Step.load (t := 9) (x := (.tmp 24)) (g := g6) (off := 2) (i := 0) (v := (.string ⟨List.toArray pB3⟩)) (d := (some 25)) (k := 18) (by kernel_rfl) rfl (by kernel_rfl) hs160 rfl (by kernel_rfl) ?_
            refine In.step (k' := 20) rfl (by kernel_rfl) ?_
            refine Step.strOp (op := .neq) (T := 9) (T' := 9) (x := (.tmp 25)) (y := (.const (.string ⟨List.toArray ([] : List UInt8)⟩))) (a := pB3) (b := ([] : List UInt8)) (r := (.bool (!(pB3 == ([] : List UInt8))))) (d := (some 26)) (k := 19) (by kernel_rfl) rfl (by kernel_rfl) (by kernel_rfl) rfl ?_
            refine In.run' 3 (k' := 23) rfl [(27, (.bool (!(pB3 == ([] : List UInt8))))), (28, (.bool (!(pB3 == ([] : List UInt8))))), (29, (.bool (!(pB3 == ([] : List UInt8)))))] (by kernel_rfl) ?_
            refine In.guard (t := 29) (b := (!(pB3 == ([] : List UInt8)))) (by kernel_rfl) (fun hb162 => ?_) (fun hb162 => ?_)
            · have H := ct H hb162
              refine In.run' 19 (k' := 42) rfl [(30, undef), (31, undef), (32, undef), (33, undef), (34, undef), (35, undef), (36, undef), (37, undef), (38, (.bool true)), (39, (.bool true)), (40, undef), (41, undef), (42, undef), (43, undef), (44, undef), (45, undef), (46, undef), (47, undef), (48, (.bool true))] (by kernel_rfl) ?_
              refine In.fin (by kernel_rfl) ?_
              exact ⟨true, ⟨(by kernel_rfl), (by kernel_rfl), trivial⟩, SP.sel hs160 [0] rfl rfl, H⟩
            · have H := cf H hb162
              refine In.run' 1 (k' := 24) rfl [(30, (.string ⟨List.toArray z10⟩))] (by kernel_rfl) ?_
              obtain ⟨z163, hz164, H⟩ := bind_elim H
              refine In.step (k' := 25) rfl (by kernel_rfl) ?_
              refine Step.callF (f := 27) (fo := (.func 27)) (xs := #[(.tmp 30), (.const (.int .u8 (78)))]) (tys := #[9, 5]) (first := #[]) (captured := #[]) (d := (some 31)) (k := 24) (by kernel_rfl) rfl (by kernel_rfl) (by kernel_rfl) Try.call27 (L_subwayref05_of_walk  z10 (78 : UInt8) w157  z163 hz164) ?_
              rintro e w165 ⟨rfl, hs166⟩
              refine ⟨_, rfl, ?_⟩
              have hs167 := SP.call hs160 hs166
              clear hs166
              have hs168 : SP [] w0 w165 [boxE g6 23 #[(.int .i64 pKind1), (.string ⟨List.toArray pA2⟩), (.string ⟨List.toArray pB3⟩), (.int .i64 pN4), (.int .i64 pM5)]] := hs167
              clear hs167
              refine In.run' 2 (k' := 27) rfl [(32, (.bool (!z163))), (33, (.bool (!z163)))] (by kernel_rfl) ?_
              refine In.guard (t := 33) (b := (!z163)) (by kernel_rfl) (fun hb169 => ?_) (fun hb169 => ?_)
              · have H := ct H hb169
                refine In.run' 1 (k' := 28) rfl [(34, (.pointer (some ⟨g6, 3, none⟩)))] (by kernel_rfl) ?_
                refine In.step (k' := 29) rfl (by kernel_rfl) ?_
                refine Step.load (t := 2) (x := (.tmp 34)) (g := g6) (off := 3) (i := 0) (v := (.int .i64 pN4)) (d := (some 35)) (k := 28) (by kernel_rfl) rfl (by kernel_rfl) hs168 rfl (by kernel_rfl) ?_
                refine In.run' 4 (k' := 33) rfl [(36, (.bool (pN4 != 0))), (37, (.bool (pN4 != 0))), (38, (.bool (pN4 != 0))), (39, (.bool (pN4 != 0)))] (by kernel_rfl) ?_
                refine In.guard (t := 39) (b := (pN4 != 0)) (by kernel_rfl) (fun hb170 => ?_) (fun hb170 => ?_)
                · have H := ct H hb170
                  refine In.run' 9 (k' := 42) rfl [(40, undef), (41, undef), (42, undef), (43, undef), (44, undef), (45, undef), (46, undef), (47, undef), (48, (.bool true))] (by kernel_rfl) ?_
                  refine In.fin (by kernel_rfl) ?_
                  exact ⟨true, ⟨(by kernel_rfl), (by kernel_rfl), trivial⟩, SP.sel hs168 [0] rfl rfl, H⟩
                · have H := cf H hb170
                  refine In.run' 1 (k' := 34) rfl [(40, (.string ⟨List.toArray z10⟩))] (by kernel_rfl) ?_
                  obtain ⟨z171, hz172, H⟩ := bind_elim H
                  refine In.step (k' := 35) rfl (by kernel_rfl) ?_
                  refine Step.callF (f := 27) (fo := (.func 27)) (xs := #[(.tmp 40), (.const (.int .u8 (77)))]) (tys := #[9, 5]) (first := #[]) (captured := #[]) (d := (some 41)) (k := 34) (by kernel_rfl) rfl (by kernel_rfl) (by kernel_rfl) Try.call27 (L_subwayref05_of_walk  z10 (77 : UInt8) w165  z171 hz172) ?_
                  rintro e w173 ⟨rfl, hs174⟩
                  refine ⟨_, rfl, ?_⟩
                  have hs175 := SP.call hs168 hs174
                  clear hs174
                  have hs176 : SP [] w0 w173 [boxE g6 23 #[(.int .i64 pKind1), (.string ⟨List.toArray pA2⟩), (.string ⟨List.toArray pB3⟩), (.int .i64 pN4), (.int .i64 pM5)]] := hs175
                  clear hs175
                  refine In.run' 2 (k' := 37) rfl [(42, (.bool (!z171))), (43, (.bool (!z171)))] (by kernel_rfl) ?_
                  refine In.guard (t := 43) (b := (!z171)) (by kernel_rfl) (fun hb177 => ?_) (fun hb177 => ?_)
                  · have H := ct H hb177
                    refine In.run' 1 (k' := 38) rfl [(44, (.pointer (some ⟨g6, 4, none⟩)))] (by kernel_rfl) ?_
                    refine In.step (k' := 39) rfl (by kernel_rfl) ?_
                    refine Step.load (t := 2) (x := (.tmp 44)) (g := g6) (off := 4) (i := 0) (v := (.int .i64 pM5)) (d := (some 45)) (k := 38) (by kernel_rfl) rfl (by kernel_rfl) hs176 rfl (by kernel_rfl) ?_
                    refine In.run' 3 (k' := 42) rfl [(46, (.bool (pM5 != 0))), (47, (.bool (pM5 != 0))), (48, (.bool (pM5 != 0)))] (by kernel_rfl) ?_
                    refine In.fin (by kernel_rfl) ?_
                    exact ⟨(pM5 != 0), ⟨(by kernel_rfl), (by kernel_rfl), trivial⟩, SP.sel hs176 [0] rfl rfl, H⟩
                  · have H := cf H hb177
                    refine In.run' 5 (k' := 42) rfl [(44, undef), (45, undef), (46, undef), (47, (.bool false)), (48, (.bool false))] (by kernel_rfl) ?_
                    refine In.fin (by kernel_rfl) ?_
                    exact ⟨false, ⟨(by kernel_rfl), (by kernel_rfl), trivial⟩, SP.sel hs176 [0] rfl rfl, H⟩
              · have H := cf H hb169
                refine In.run' 7 (k' := 34) rfl [(34, undef), (35, undef), (36, undef), (37, (.bool false)), (38, (.bool false)), (39, (.bool false)), (40, (.string ⟨List.toArray z10⟩))] (by kernel_rfl) ?_
                obtain ⟨z178, hz179, H⟩ := bind_elim H
                refine In.step (k' := 35) rfl (by kernel_rfl) ?_
                refine Step.callF (f := 27) (fo := (.func 27)) (xs := #[(.tmp 40), (.const (.int .u8 (77)))]) (tys := #[9, 5]) (first := #[]) (captured := #[]) (d := (some 41)) (k := 34) (by kernel_rfl) rfl (by kernel_rfl) (by kernel_rfl) Try.call27 (L_subwayref05_of_walk  z10 (77 : UInt8) w165  z178 hz179) ?_
                rintro e w180 ⟨rfl, hs181⟩
                refine ⟨_, rfl, ?_⟩
                have hs182 := SP.call hs168 hs181
                clear hs181
                have hs183 : SP [] w0 w180 [boxE g6 23 #[(.int .i64 pKind1), (.string ⟨List.toArray pA2⟩), (.string ⟨List.toArray pB3⟩), (.int .i64 pN4), (.int .i64 pM5)]] := hs182
                clear hs182
                refine In.run' 2 (k' := 37) rfl [(42, (.bool (!z178))), (43, (.bool (!z178)))] (by kernel_rfl) ?_
                refine In.guard (t := 43) (b := (!z178)) (by kernel_rfl) (fun hb184 => ?_) (fun hb184 => ?_)
                · have H := ct H hb184
                  refine In.run' 1 (k' := 38) rfl [(44, (.pointer (some ⟨g6, 4, none⟩)))] (by kernel_rfl) ?_
                  refine In.step (k' := 39) rfl (by kernel_rfl) ?_
                  refine Step.load (t := 2) (x := (.tmp 44)) (g := g6) (off := 4) (i := 0) (v := (.int .i64 pM5)) (d := (some 45)) (k := 38) (by kernel_rfl) rfl (by kernel_rfl) hs183 rfl (by kernel_rfl) ?_
                  refine In.run' 3 (k' := 42) rfl [(46, (.bool (pM5 != 0))), (47, (.bool (pM5 != 0))), (48, (.bool (pM5 != 0)))] (by kernel_rfl) ?_
                  refine In.fin (by kernel_rfl) ?_
                  exact ⟨(pM5 != 0), ⟨(by kernel_rfl), (by kernel_rfl), trivial⟩, SP.sel hs183 [0] rfl rfl, H⟩
                · have H := cf H hb184
                  refine In.run' 5 (k' := 42) rfl [(44, undef), (45, undef), (46, undef), (47, (.bool false)), (48, (.bool false))] (by kernel_rfl) ?_
                  refine In.fin (by kernel_rfl) ?_
                  exact ⟨false, ⟨(by kernel_rfl), (by kernel_rfl), trivial⟩, SP.sel hs183 [0] rfl rfl, H⟩
          · have H := cf H hb161
            refine In.run' 7 (k' := 24) rfl [(24, undef), (25, undef), (26, undef), (27, (.bool false)), (28, (.bool false)), (29, (.bool false)), (30, (.string ⟨List.toArray z10⟩))] (by kernel_rfl) ?_
            obtain ⟨z185, hz186, H⟩ := bind_elim H
            refine In.step (k' := 25) rfl (by kernel_rfl) ?_
            refine Step.callF (f := 27) (fo := (.func 27)) (xs := #[(.tmp 30), (.const (.int .u8 (78)))]) (tys := #[9, 5]) (first := #[]) (captured := #[]) (d := (some 31)) (k := 24) (by kernel_rfl) rfl (by kernel_rfl) (by kernel_rfl) Try.call27 (L_subwayref05_of_walk  z10 (78 : UInt8) w157  z185 hz186) ?_
            rintro e w187 ⟨rfl, hs188⟩
            refine ⟨_, rfl, ?_⟩
            have hs189 := SP.call hs160 hs188
            clear hs188
            have hs190 : SP [] w0 w187 [boxE g6 23 #[(.int .i64 pKind1), (.string ⟨List.toArray pA2⟩), (.string ⟨List.toArray pB3⟩), (.int .i64 pN4), (.int .i64 pM5)]] := hs189
            clear hs189
            refine In.run' 2 (k' := 27) rfl [(32, (.bool (!z185))), (33, (.bool (!z185)))] (by kernel_rfl) ?_
            refine In.guard (t := 33) (b := (!z185)) (by kernel_rfl) (fun hb191 => ?_) (fun hb191 => ?_)
            · have H := ct H hb191
              refine In.run' 1 (k' := 28) rfl [(34, (.pointer (some ⟨g6, 3, none⟩)))] (by kernel_rfl) ?_
              refine In.step (k' := 29) rfl (by kernel_rfl) ?_
              refine Step.load (t := 2) (x := (.tmp 34)) (g := g6) (off := 3) (i := 0) (v := (.int .i64 pN4)) (d := (some 35)) (k := 28) (by kernel_rfl) rfl (by kernel_rfl) hs190 rfl (by kernel_rfl) ?_
              refine In.run' 4 (k' := 33) rfl [(36, (.bool (pN4 != 0))), (37, (.bool (pN4 != 0))), (38, (.bool (pN4 != 0))), (39, (.bool (pN4 != 0)))] (by kernel_rfl) ?_
              refine In.guard (t := 39) (b := (pN4 != 0)) (by kernel_rfl) (fun hb192 => ?_) (fun hb192 => ?_)
              · have H := ct H hb192
                refine In.run' 9 (k' := 42) rfl [(40, undef), (41, undef), (42, undef), (43, undef), (44, undef), (45, undef), (46, undef), (47, undef), (48, (.bool true))] (by kernel_rfl) ?_
                refine In.fin (by kernel_rfl) ?_
                exact ⟨true, ⟨(by kernel_rfl), (by kernel_rfl), trivial⟩, SP.sel hs190 [0] rfl rfl, H⟩
              · have H := cf H hb192
                refine In.run' 1 (k' := 34) rfl [(40, (.string ⟨List.toArray z10⟩))] (by kernel_rfl) ?_
                obtain ⟨z193, hz194, H⟩ := bind_elim H
                refine In.step (k' := 35) rfl (by kernel_rfl) ?_
                refine Step.callF (f := 27) (fo := (.func 27)) (xs := #[(.tmp 40), (.const (.int .u8 (77)))]) (tys := #[9, 5]) (first := #[]) (captured := #[]) (d := (some 41)) (k := 34) (by kernel_rfl) rfl (by kernel_rfl) (by kernel_rfl) Try.call27 (L_subwayref05_of_walk  z10 (77 : UInt8) w187  z193 hz194) ?_
                rintro e w195 ⟨rfl, hs196⟩
                refine ⟨_, rfl, ?_⟩
                have hs197 := SP.call hs190 hs196
                clear hs196
                have hs198 : SP [] w0 w195 [boxE g6 23 #[(.int .i64 pKind1), (.string ⟨List.toArray pA2⟩), (.string ⟨List.toArray pB3⟩), (.int .i64 pN4), (.int .i64 pM5)]] := hs197
                clear hs197
                refine In.run' 2 (k' := 37) rfl [(42, (.bool (!z193))), (43, (.bool (!z193)))] (by kernel_rfl) ?_
                refine In.guard (t := 43) (b := (!z193)) (by kernel_rfl) (fun hb199 => ?_) (fun hb199 => ?_)
                · have H := ct H hb199
                  refine In.run' 1 (k' := 38) rfl [(44, (.pointer (some ⟨g6, 4, none⟩)))] (by kernel_rfl) ?_
                  refine In.step (k' := 39) rfl (by kernel_rfl) ?_
                  refine Step.load (t := 2) (x := (.tmp 44)) (g := g6) (off := 4) (i := 0) (v := (.int .i64 pM5)) (d := (some 45)) (k := 38) (by kernel_rfl) rfl (by kernel_rfl) hs198 rfl (by kernel_rfl) ?_
                  refine In.run' 3 (k' := 42) rfl [(46, (.bool (pM5 != 0))), (47, (.bool (pM5 != 0))), (48, (.bool (pM5 != 0)))] (by kernel_rfl) ?_
                  refine In.fin (by kernel_rfl) ?_
                  exact ⟨(pM5 != 0), ⟨(by kernel_rfl), (by kernel_rfl), trivial⟩, SP.sel hs198 [0] rfl rfl, H⟩
                · have H := cf H hb199
                  refine In.run' 5 (k' := 42) rfl [(44, undef), (45, undef), (46, undef), (47, (.bool false)), (48, (.bool false))] (by kernel_rfl) ?_
                  refine In.fin (by kernel_rfl) ?_
                  exact ⟨false, ⟨(by kernel_rfl), (by kernel_rfl), trivial⟩, SP.sel hs198 [0] rfl rfl, H⟩
            · have H := cf H hb191
              refine In.run' 7 (k' := 34) rfl [(34, undef), (35, undef), (36, undef), (37, (.bool false)), (38, (.bool false)), (39, (.bool false)), (40, (.string ⟨List.toArray z10⟩))] (by kernel_rfl) ?_
              obtain ⟨z200, hz201, H⟩ := bind_elim H
              refine In.step (k' := 35) rfl (by kernel_rfl) ?_
              refine Step.callF (f := 27) (fo := (.func 27)) (xs := #[(.tmp 40), (.const (.int .u8 (77)))]) (tys := #[9, 5]) (first := #[]) (captured := #[]) (d := (some 41)) (k := 34) (by kernel_rfl) rfl (by kernel_rfl) (by kernel_rfl) Try.call27 (L_subwayref05_of_walk  z10 (77 : UInt8) w187  z200 hz201) ?_
              rintro e w202 ⟨rfl, hs203⟩
              refine ⟨_, rfl, ?_⟩
              have hs204 := SP.call hs190 hs203
              clear hs203
              have hs205 : SP [] w0 w202 [boxE g6 23 #[(.int .i64 pKind1), (.string ⟨List.toArray pA2⟩), (.string ⟨List.toArray pB3⟩), (.int .i64 pN4), (.int .i64 pM5)]] := hs204
              clear hs204
              refine In.run' 2 (k' := 37) rfl [(42, (.bool (!z200))), (43, (.bool (!z200)))] (by kernel_rfl) ?_
              refine In.guard (t := 43) (b := (!z200)) (by kernel_rfl) (fun hb206 => ?_) (fun hb206 => ?_)
              · have H := ct H hb206
                refine In.run' 1 (k' := 38) rfl [(44, (.pointer (some ⟨g6, 4, none⟩)))] (by kernel_rfl) ?_
                refine In.step (k' := 39) rfl (by kernel_rfl) ?_
                refine Step.load (t := 2) (x := (.tmp 44)) (g := g6) (off := 4) (i := 0) (v := (.int .i64 pM5)) (d := (some 45)) (k := 38) (by kernel_rfl) rfl (by kernel_rfl) hs205 rfl (by kernel_rfl) ?_
                refine In.run' 3 (k' := 42) rfl [(46, (.bool (pM5 != 0))), (47, (.bool (pM5 != 0))), (48, (.bool (pM5 != 0)))] (by kernel_rfl) ?_
                refine In.fin (by kernel_rfl) ?_
                exact ⟨(pM5 != 0), ⟨(by kernel_rfl), (by kernel_rfl), trivial⟩, SP.sel hs205 [0] rfl rfl, H⟩
              · have H := cf H hb206
                refine In.run' 5 (k' := 42) rfl [(44, undef), (45, undef), (46, undef), (47, (.bool false)), (48, (.bool false))] (by kernel_rfl) ?_
                refine In.fin (by kernel_rfl) ?_
                exact ⟨false, ⟨(by kernel_rfl), (by kernel_rfl), trivial⟩, SP.sel hs205 [0] rfl rfl, H⟩
      · have H := cf H hb153
        refine In.run' 7 (k' := 14) rfl [(14, undef), (15, undef), (16, undef), (17, (.bool false)), (18, (.bool false)), (19, (.bool false)), (20, (.string ⟨List.toArray z10⟩))] (by kernel_rfl) ?_
        obtain ⟨z207, hz208, H⟩ := bind_elim H
        refine In.step (k' := 15) rfl (by kernel_rfl) ?_
        refine Step.callF (f := 27) (fo := (.func 27)) (xs := #[(.tmp 20), (.const (.int .u8 (66)))]) (tys := #[9, 5]) (first := #[]) (captured := #[]) (d := (some 21)) (k := 14) (by kernel_rfl) rfl (by kernel_rfl) (by kernel_rfl) Try.call27 (L_subwayref05_of_walk  z10 (66 : UInt8) w149  z207 hz208) ?_
        rintro e w209 ⟨rfl, hs210⟩
        refine ⟨_, rfl, ?_⟩
        have hs211 := SP.call hs152 hs210
        clear hs210
        have hs212 : SP [] w0 w209 [boxE g6 23 #[(.int .i64 pKind1), (.string ⟨List.toArray pA2⟩), (.string ⟨List.toArray pB3⟩), (.int .i64 pN4), (.int .i64 pM5)]] := hs211
        clear hs211
        refine In.run' 2 (k' := 17) rfl [(22, (.bool (!z207))), (23, (.bool (!z207)))] (by kernel_rfl) ?_
        refine In.guard (t := 23) (b := (!z207)) (by kernel_rfl) (fun hb213 => ?_) (fun hb213 => ?_)
        · have H := ct H hb213
          refine In.run' 1 (k' := 18) rfl [(24, (.pointer (some ⟨g6, 2, none⟩)))] (by kernel_rfl) ?_
          refine In.step (k' := 19) rfl (by kernel_rfl) ?_
          refine Step.load (t := 9) (x := (.tmp 24)) (g := g6) (off := 2) (i := 0) (v := (.string ⟨List.toArray pB3⟩)) (d := (some 25)) (k := 18) (by kernel_rfl) rfl (by kernel_rfl) hs212 rfl (by kernel_rfl) ?_
          refine In.step (k' := 20) rfl (by kernel_rfl) ?_
          refine Step.strOp (op := .neq) (T := 9) (T' := 9) (x := (.tmp 25)) (y := (.const (.string ⟨List.toArray ([] : List UInt8)⟩))) (a := pB3) (b := ([] : List UInt8)) (r := (.bool (!(pB3 == ([] : List UInt8))))) (d := (some 26)) (k := 19) (by kernel_rfl) rfl (by kernel_rfl) (by kernel_rfl) rfl ?_
          refine In.run' 3 (k' := 23) rfl [(27, (.bool (!(pB3 == ([] : List UInt8))))), (28, (.bool (!(pB3 == ([] : List UInt8))))), (29, (.bool (!(pB3 == ([] : List UInt8)))))] (by kernel_rfl) ?_
          refine In.guard (t := 29) (b := (!(pB3 == ([] : List UInt8)))) (by kernel_rfl) (fun hb214 => ?_) (fun hb214 => ?_)
          · have H := ct H hb214
            refine In.run' 19 (k' := 42) rfl [(30, undef), (31, undef), (32, undef), (33, undef), (34, undef), (35, undef), (36, undef), (37, undef), (38, (.bool true)), (39, (.bool true)), (40, undef), (41, undef), (42, undef), (43, undef), (44, undef), (45, undef), (46, undef), (47, undef), (48, (.bool true))] (by kernel_rfl) ?_
            refine In.fin (by kernel_rfl) ?_
            exact ⟨true, ⟨(by kernel_rfl), (by kernel_rfl), trivial⟩, SP.sel hs212 [0] rfl rfl, H⟩
          · have H := cf H hb214
            refine In.run' 1 (k' := 24) rfl [(30, (.string ⟨List.toArray z10⟩))] (by kernel_rfl) ?_
            obtain ⟨z215, hz216, H⟩ := bind_elim H
            refine In.step (k' := 25) rfl (by kernel_rfl) ?_
            refine Step.callF (f := 27) (fo := (.func 27)) (xs := #[(.tmp 30), (.const (.int .u8 (78)))]) (tys := #[9, 5]) (first := #[]) (captured := #[]) (d := (some 31)) (k := 24) (by kernel_rfl) rfl (by kernel_rfl) (by kernel_rfl) Try.call27 (L_subwayref05_of_walk  z10 (78 : UInt8) w209  z215 hz216) ?_
            rintro e w217 ⟨rfl, hs218⟩
            refine ⟨_, rfl, ?_⟩
            have hs219 := SP.call hs212 hs218
            clear hs218
            have hs220 : SP [] w0 w217 [boxE g6 23 #[(.int .i64 pKind1), (.string ⟨List.toArray pA2⟩), (.string ⟨List.toArray pB3⟩), (.int .i64 pN4), (.int .i64 pM5)]] := hs219
            clear hs219
            refine In.run' 2 (k' := 27) rfl [(32, (.bool (!z215))), (33, (.bool (!z215)))] (by kernel_rfl) ?_
            refine In.guard (t := 33) (b := (!z215)) (by kernel_rfl) (fun hb221 => ?_) (fun hb221 => ?_)
            · have H := ct H hb221
              refine In.run' 1 (k' := 28) rfl [(34, (.pointer (some ⟨g6, 3, none⟩)))] (by kernel_rfl) ?_
              refine In.step (k' := 29) rfl (by kernel_rfl) ?_
              refine Step.load (t := 2) (x := (.tmp 34)) (g := g6) (off := 3) (i := 0) (v := (.int .i64 pN4)) (d := (some 35)) (k := 28) (by kernel_rfl) rfl (by kernel_rfl) hs220 rfl (by kernel_rfl) ?_
              refine In.run' 4 (k' := 33) rfl [(36, (.bool (pN4 != 0))), (37, (.bool (pN4 != 0))), (38, (.bool (pN4 != 0))), (39, (.bool (pN4 != 0)))] (by kernel_rfl) ?_
              refine In.guard (t := 39) (b := (pN4 != 0)) (by kernel_rfl) (fun hb222 => ?_) (fun hb222 => ?_)
              · have H := ct H hb222
                refine In.run' 9 (k' := 42) rfl [(40, undef), (41, undef), (42, undef), (43, undef), (44, undef), (45, undef), (46, undef), (47, undef), (48, (.bool true))] (by kernel_rfl) ?_
                refine In.fin (by kernel_rfl) ?_
                exact ⟨true, ⟨(by kernel_rfl), (by kernel_rfl), trivial⟩, SP.sel hs220 [0] rfl rfl, H⟩
              · have H := cf H hb222
                refine In.run' 1 (k' := 34) rfl [(40, (.string ⟨List.toArray z10⟩))] (by kernel_rfl) ?_
                obtain ⟨z223, hz224, H⟩ := bind_elim H
                refine In.step (k' := 35) rfl (by kernel_rfl) ?_
                refine Step.callF (f := 27) (fo := (.func 27)) (xs := #[(.tmp 40), (.const (.int .u8 (77)))]) (tys := #[9, 5]) (first := #[]) (captured := #[]) (d := (some 41)) (k := 34) (by kernel_rfl) rfl (by kernel_rfl) (by kernel_rfl) Try.call27 (L_subwayref05_of_walk  z10 (77 : UInt8) w217  z223 hz224) ?_
                rintro e w225 ⟨rfl, hs226⟩
                refine ⟨_, rfl, ?_⟩
                have hs227 := SP.call hs220 hs226
                clear hs226
                have hs228 : SP [] w0 w225 [boxE g6 23 #[(.int .i64 pKind1), (.string ⟨List.toArray pA2⟩), (.string ⟨List.toArray pB3⟩), (.int .i64 pN4), (.int .i64 pM5)]] := hs227
                clear hs227
                refine In.run' 2 (k' := 37) rfl [(42, (.bool (!z223))), (43, (.bool (!z223)))] (by kernel_rfl) ?_
                refine In.guard (t := 43) (b := (!z223)) (by kernel_rfl) (fun hb229 => ?_) (fun hb229 => ?_)
                · have H := ct H hb229
                  refine In.run' 1 (k' := 38) rfl [(44, (.pointer (some ⟨g6, 4, none⟩)))] (by kernel_rfl) ?_
                  refine In.step (k' := 39) rfl (by kernel_rfl) ?_
                  refine Step.load (t := 2) (x := (.tmp 44)) (g := g6) (off := 4) (i := 0) (v := (.int .i64 pM5)) (d := (some 45)) (k := 38) (by kernel_rfl) rfl (by kernel_rfl) hs228 rfl (by kernel_rfl) ?_
                  refine In.run' 3 (k' := 42) rfl [(46, (.bool (pM5 != 0))), (47, (.bool (pM5 != 0))), (48, (.bool (pM5 != 0)))] (by kernel_rfl) ?_
                  refine In.fin (by kernel_rfl) ?_
                  exact ⟨(pM5 != 0), ⟨(by kernel_rfl), (by kernel_rfl), trivial⟩, SP.sel hs228 [0] rfl rfl, H⟩
                · have H := cf H hb229
                  refine In.run' 5 (k' := 42) rfl [(44, undef), (45, undef), (46, undef), (47, (.bool false)), (48, (.bool false))] (by kernel_rfl) ?_
                  refine In.fin (by kernel_rfl) ?_
                  exact ⟨false, ⟨(by kernel_rfl), (by kernel_rfl), trivial⟩, SP.sel hs228 [0] rfl rfl, H⟩
            · have H := cf H hb221
              refine In.run' 7 (k' := 34) rfl [(34, undef), (35, undef), (36, undef), (37, (.bool false)), (38, (.bool false)), (39, (.bool false)), (40, (.string ⟨List.toArray z10⟩))] (by kernel_rfl) ?_
              obtain ⟨z230, hz231, H⟩ := bind_elim H
              refine In.step (k' := 35) rfl (by kernel_rfl) ?_
              refine Step.callF (f := 27) (fo := (.func 27)) (xs := #[(.tmp 40), (.const (.int .u8 (77)))]) (tys := #[9, 5]) (first := #[]) (captured := #[]) (d := (some 41)) (k := 34) (by kernel_rfl) rfl (by kernel_rfl) (by kernel_rfl) Try.call27 (L_subwayref05_of_walk  z10 (77 : UInt8) w217  z230 hz231) ?_
              rintro e w232 ⟨rfl, hs233⟩
              refine ⟨_, rfl, ?_⟩
              have hs234 := SP.call hs220 hs233
              clear hs233
              have hs235 : SP [] w0 w232 [boxE g6 23 #[(.int .i64 pKind1), (.string ⟨List.toArray pA2⟩), (.string ⟨List.toArray pB3⟩), (.int .i64 pN4), (.int .i64 pM5)]] := hs234
              clear hs234
              refine In.run' 2 (k' := 37) rfl [(42, (.bool (!z230))), (43, (.bool (!z230)))] (by kernel_rfl) ?_
              refine In.guard (t := 43) (b := (!z230)) (by kernel_rfl) (fun hb236 => ?_) (fun hb236 => ?_)
              · have H := ct H hb236
                refine In.run' 1 (k' := 38) rfl [(44, (.pointer (some ⟨g6, 4, none⟩)))] (by kernel_rfl) ?_
                refine In.step (k' := 39) rfl (by kernel_rfl) ?_
                refine Step.load (t := 2) (x := (.tmp 44)) (g := g6) (off := 4) (i := 0) (v := (.int .i64 pM5)) (d := (some 45)) (k := 38) (by kernel_rfl) rfl (by kernel_rfl) hs235 rfl (by kernel_rfl) ?_
                refine In.run' 3 (k' := 42) rfl [(46, (.bool (pM5 != 0))), (47, (.bool (pM5 != 0))), (48, (.bool (pM5 != 0)))] (by kernel_rfl) ?_
                refine In.fin (by kernel_rfl) ?_
                exact ⟨(pM5 != 0), ⟨(by kernel_rfl), (by kernel_rfl), trivial⟩, SP.sel hs235 [0] rfl rfl, H⟩
              · have H := cf H hb236
                refine In.run' 5 (k' := 42) rfl [(44, undef), (45, undef), (46, undef), (47, (.bool false)), (48, (.bool false))] (by kernel_rfl) ?_
                refine In.fin (by kernel_rfl) ?_
                exact ⟨false, ⟨(by kernel_rfl), (by kernel_rfl), trivial⟩, SP.sel hs235 [0] rfl rfl, H⟩
        · have H := cf H hb213
          refine In.run' 7 (k' := 24) rfl [(24, undef), (25, undef), (26, undef), (27, (.bool false)), (28, (.bool false)), (29, (.bool false)), (30, (.string ⟨List.toArray z10⟩))] (by kernel_rfl) ?_
          obtain ⟨z237, hz238, H⟩ := bind_elim H
          refine In.step (k' := 25) rfl (by kernel_rfl) ?_
          refine Step.callF (f := 27) (fo := (.func 27)) (xs := #[(.tmp 30), (.const (.int .u8 (78)))]) (tys := #[9, 5]) (first := #[]) (captured := #[]) (d := (some 31)) (k := 24) (by kernel_rfl) rfl (by kernel_rfl) (by kernel_rfl) Try.call27 (L_subwayref05_of_walk  z10 (78 : UInt8) w209  z237 hz238) ?_
          rintro e w239 ⟨rfl, hs240⟩
          refine ⟨_, rfl, ?_⟩
          have hs241 := SP.call hs212 hs240
          clear hs240
          have hs242 : SP [] w0 w239 [boxE g6 23 #[(.int .i64 pKind1), (.string ⟨List.toArray pA2⟩), (.string ⟨List.toArray pB3⟩), (.int .i64 pN4), (.int .i64 pM5)]] := hs241
          clear hs241
          refine In.run' 2 (k' := 27) rfl [(32, (.bool (!z237))), (33, (.bool (!z237)))] (by kernel_rfl) ?_
          refine In.guard (t := 33) (b := (!z237)) (by kernel_rfl) (fun hb243 => ?_) (fun hb243 => ?_)
          · have H := ct H hb243
            refine In.run' 1 (k' := 28) rfl [(34, (.pointer (some ⟨g6, 3, none⟩)))] (by kernel_rfl) ?_
            refine In.step (k' := 29) rfl (by kernel_rfl) ?_
            refine Step.load (t := 2) (x := (.tmp 34)) (g := g6) (off := 3) (i := 0) (v := (.int .i64 pN4)) (d := (some 35)) (k := 28) (by kernel_rfl) rfl (by kernel_rfl) hs242 rfl (by kernel_rfl) ?_
            refine In.run' 4 (k' := 33) rfl [(36, (.bool (pN4 != 0))), (37, (.bool (pN4 != 0))), (38, (.bool (pN4 != 0))), (39, (.bool (pN4 != 0)))] (by kernel_rfl) ?_
            refine In.guard (t := 39) (b := (pN4 != 0)) (by kernel_rfl) (fun hb244 => ?_) (fun hb244 => ?_)
            · have H := ct H hb244
              refine In.run' 9 (k' := 42) rfl [(40, undef), (41, undef), (42, undef), (43, undef), (44, undef), (45, undef), (46, undef), (47, undef), (48, (.bool true))] (by kernel_rfl) ?_
              refine In.fin (by kernel_rfl) ?_
              exact ⟨true, ⟨(by kernel_rfl), (by kernel_rfl), trivial⟩, SP.sel hs242 [0] rfl rfl, H⟩
            · have H := cf H hb244
              refine In.run' 1 (k' := 34) rfl [(40, (.string ⟨List.toArray z10⟩))] (by kernel_rfl) ?_
              obtain ⟨z245, hz246, H⟩ := bind_elim H
              refine In.step (k' := 35) rfl (by kernel_rfl) ?_
              refine Step.callF (f := 27) (fo := (.func 27)) (xs := #[(.tmp 40), (.const (.int .u8 (77)))]) (tys := #[9, 5]) (first := #[]) (captured := #[]) (d := (some 41)) (k := 34) (by kernel_rfl) rfl (by kernel_rfl) (by kernel_rfl) Try.call27 (L_subwayref05_of_walk  z10 (77 : UInt8) w239  z245 hz246) ?_
              rintro e w247 ⟨rfl, hs248⟩
              refine ⟨_, rfl, ?_⟩
              have hs249 := SP.call hs242 hs248
              clear hs248
              have hs250 : SP [] w0 w247 [boxE g6 23 #[(.int .i64 pKind1), (.string ⟨List.toArray pA2⟩), (.string ⟨List.toArray pB3⟩), (.int .i64 pN4), (.int .i64 pM5)]] := hs249
              clear hs249
              refine In.run' 2 (k' := 37) rfl [(42, (.bool (!z245))), (43, (.bool (!z245)))] (by kernel_rfl) ?_
              refine In.guard (t := 43) (b := (!z245)) (by kernel_rfl) (fun hb251 => ?_) (fun hb251 => ?_)
              · have H := ct H hb251
                refine In.run' 1 (k' := 38) rfl [(44, (.pointer (some ⟨g6, 4, none⟩)))] (by kernel_rfl) ?_
                refine In.step (k' := 39) rfl (by kernel_rfl) ?_
                refine Step.load (t := 2) (x := (.tmp 44)) (g := g6) (off := 4) (i := 0) (v := (.int .i64 pM5)) (d := (some 45)) (k := 38) (by kernel_rfl) rfl (by kernel_rfl) hs250 rfl (by kernel_rfl) ?_
                refine In.run' 3 (k' := 42) rfl [(46, (.bool (pM5 != 0))), (47, (.bool (pM5 != 0))), (48, (.bool (pM5 != 0)))] (by kernel_rfl) ?_
                refine In.fin (by kernel_rfl) ?_
                exact ⟨(pM5 != 0), ⟨(by kernel_rfl), (by kernel_rfl), trivial⟩, SP.sel hs250 [0] rfl rfl, H⟩
              · have H := cf H hb251
                refine In.run' 5 (k' := 42) rfl [(44, undef), (45, undef), (46, undef), (47, (.bool false)), (48, (.bool false))] (by kernel_rfl) ?_
                refine In.fin (by kernel_rfl) ?_
                exact ⟨false, ⟨(by kernel_rfl), (by kernel_rfl), trivial⟩, SP.sel hs250 [0] rfl rfl, H⟩
          · have H := cf H hb243
            refine In.run' 7 (k' := 34) rfl [(34, undef), (35, undef), (36, undef), (37, (.bool false)), (38, (.bool false)), (39, (.bool false)), (40, (.string ⟨List.toArray z10⟩))] (by kernel_rfl) ?_
            obtain ⟨z252, hz253, H⟩ := bind_elim H
            refine In.step (k' := 35) rfl (by kernel_rfl) ?_
            refine Step.callF (f := 27) (fo := (.func 27)) (xs := #[(.tmp 40), (.const (.int .u8 (77)))]) (tys := #[9, 5]) (first := #[]) (captured := #[]) (d := (some 41)) (k := 34) (by kernel_rfl) rfl (by kernel_rfl) (by kernel_rfl) Try.call27 (L_subwayref05_of_walk  z10 (77 : UInt8) w239  z252 hz253) ?_
            rintro e w254 ⟨rfl, hs255⟩
            refine ⟨_, rfl, ?_⟩
            have hs256 := SP.call hs242 hs255
            clear hs255
            have hs257 : SP [] w0 w254 [boxE g6 23 #[(.int .i64 pKind1), (.string ⟨List.toArray pA2⟩), (.string ⟨List.toArray pB3⟩), (.int .i64 pN4), (.int .i64 pM5)]] := hs256
            clear hs256
            refine In.run' 2 (k' := 37) rfl [(42, (.bool (!z252))), (43, (.bool (!z252)))] (by kernel_rfl) ?_
            refine In.guard (t := 43) (b := (!z252)) (by kernel_rfl) (fun hb258 => ?_) (fun hb258 => ?_)
            · have H := ct H hb258
              refine In.run' 1 (k' := 38) rfl [(44, (.pointer (some ⟨g6, 4, none⟩)))] (by kernel_rfl) ?_
              refine In.step (k' := 39) rfl (by kernel_rfl) ?_
              refine Step.load (t := 2) (x := (.tmp 44)) (g := g6) (off := 4) (i := 0) (v := (.int .i64 pM5)) (d := (some 45)) (k := 38) (by kernel_rfl) rfl (by kernel_rfl) hs257 rfl (by kernel_rfl) ?_
              refine In.run' 3 (k' := 42) rfl [(46, (.bool (pM5 != 0))), (47, (.bool (pM5 != 0))), (48, (.bool (pM5 != 0)))] (by kernel_rfl) ?_
              refine In.fin (by kernel_rfl) ?_
              exact ⟨(pM5 != 0), ⟨(by kernel_rfl), (by kernel_rfl), trivial⟩, SP.sel hs257 [0] rfl rfl, H⟩
            · have H := cf H hb258
              refine In.run' 5 (k' := 42) rfl [(44, undef), (45, undef), (46, undef), (47, (.bool false)), (48, (.bool false))] (by kernel_rfl) ?_
              refine In.fin (by kernel_rfl) ?_
              exact ⟨false, ⟨(by kernel_rfl), (by kernel_rfl), trivial⟩, SP.sel hs257 [0] rfl rfl, H⟩
  · rintro ρ w130 ⟨v129, hk, hs131, H⟩
    unfold L_subwayref05_Right_k1 at H
    refine At.known [(1, (.pointer (some ⟨g6, 0, none⟩))), (48, (.bool v129))] hk ?_
    refine At.cond (by kernel_rfl) (o := (.tmp 48)) (by kernel_rfl) (b := v129) (by kernel_rfl) (p0 := [true, true, false, true, false]) (p1 := [true, true, false, true, true]) rfl rfl (fun hb132 => ?_) (fun hb132 => ?_)
    · have H := ct H hb132
      refine At.seq (by kernel_rfl) (p0 := [true, true, false, true, false, false]) (p1 := [true, true, false, true, false, true]) rfl rfl ?_
      refine At.region (by kernel_rfl) (by kernel_rfl) ?_
      refine In.run' 1 (k' := 1) rfl [(2, (.bool false))] (by kernel_rfl) ?_
      refine In.fin (by kernel_rfl) ?_
      refine At.ret (by kernel_rfl) ?_
      refine ⟨(.bool false), by kernel_rfl, ?_⟩
      obtain rfl := some_elim H
      exact ⟨rfl, SP.sel hs131 [] rfl rfl⟩
    · have H := cf H hb132
      refine At.skip (by kernel_rfl) ?_
      refine At.seq (by kernel_rfl) (p0 := [true, true, true, false]) (p1 := [true, true, true, true]) rfl rfl ?_
      refine At.join (fun ρ w => ∃ (v138 : Bool), Known ρ [(2, (.bool v138))] ∧ SP [] w0 w [] ∧ L_subwayref05_Right_k2 v138 = some r) ?_ ?_
      · refine At.region (by kernel_rfl) (by kernel_rfl) ?_
        refine In.run' 1 (k' := 1) rfl [(49, (.pointer (some ⟨g6, 1, none⟩)))] (by kernel_rfl) ?_
        refine In.step (k' := 2) rfl (by kernel_rfl) ?_
        refine Step.load (t := 9) (x := (.tmp 49)) (g := g6) (off := 1) (i := 0) (v := (.string ⟨List.toArray pA2⟩)) (d := (some 50)) (k := 1) (by kernel_rfl) rfl (by kernel_rfl) hs131 rfl (by kernel_rfl) ?_
        refine In.run' 3 (k' := 5) rfl [(51, (.int .i64 ((List.length pA2 : Nat) : Int))), (52, (.bool (decide (((List.length pA2 : Nat) : Int) ≤ 64)))), (53, (.bool (decide (((List.length pA2 : Nat) : Int) ≤ 64))))] (by kernel_rfl) ?_
        refine In.guard (t := 53) (b := (decide (((List.length pA2 : Nat) : Int) ≤ 64))) (by kernel_rfl) (fun hb141 => ?_) (fun hb141 => ?_)
        · have H := ct H hb141
          refine In.run' 1 (k' := 6) rfl [(54, (.pointer (some ⟨g6, 2, none⟩)))] (by kernel_rfl) ?_
          refine In.step (k' := 7) rfl (by kernel_rfl) ?_
          refine Step.load (t := 9) (x := (.tmp 54)) (g := g6) (off := 2) (i := 0) (v := (.string ⟨List.toArray pB3⟩)) (d := (some 55)) (k := 6) (by kernel_rfl) rfl (by kernel_rfl) hs131 rfl (by kernel_rfl) ?_
          refine In.run' 4 (k' := 11) rfl [(56, (.int .i64 ((List.length pB3 : Nat) : Int))), (57, (.bool (decide (((List.length pB3 : Nat) : Int) ≤ 64)))), (58, (.bool (decide (((List.length pB3 : Nat) : Int) ≤ 64)))), (59, (.bool (decide (((List.length pB3 : Nat) : Int) ≤ 64))))] (by kernel_rfl) ?_
          refine In.guard (t := 59) (b := (decide (((List.length pB3 : Nat) : Int) ≤ 64))) (by kernel_rfl) (fun hb142 => ?_) (fun hb142 => ?_)
          · have H := ct H hb142
            refine In.run' 1 (k' := 12) rfl [(60, (.pointer (some ⟨g6, 3, none⟩)))] (by kernel_rfl) ?_
            refine In.step (k' := 13) rfl (by kernel_rfl) ?_
            refine Step.load (t := 2) (x := (.tmp 60)) (g := g6) (off := 3) (i := 0) (v := (.int .i64 pN4)) (d := (some 61)) (k := 12) (by kernel_rfl) rfl (by kernel_rfl) hs131 rfl (by kernel_rfl) ?_
            refine In.run' 3 (k' := 16) rfl [(62, (.bool (decide (pN4 ≥ 0)))), (63, (.bool (decide (pN4 ≥ 0)))), (64, (.bool (decide (pN4 ≥ 0))))] (by kernel_rfl) ?_
            refine In.guard (t := 64) (b := (decide (pN4 ≥ 0))) (by kernel_rfl) (fun hb143 => ?_) (fun hb143 => ?_)
            · have H := ct H hb143
              refine In.run' 1 (k' := 17) rfl [(65, (.pointer (some ⟨g6, 3, none⟩)))] (by kernel_rfl) ?_
              refine In.step (k' := 18) rfl (by kernel_rfl) ?_
              refine Step.load (t := 2) (x := (.tmp 65)) (g := g6) (off := 3) (i := 0) (v := (.int .i64 pN4)) (d := (some 66)) (k := 17) (by kernel_rfl) rfl (by kernel_rfl) hs131 rfl (by kernel_rfl) ?_
              refine In.run' 3 (k' := 21) rfl [(67, (.bool (decide (pN4 ≤ 1099511627776)))), (68, (.bool (decide (pN4 ≤ 1099511627776)))), (69, (.bool (decide (pN4 ≤ 1099511627776))))] (by kernel_rfl) ?_
              refine In.guard (t := 69) (b := (decide (pN4 ≤ 1099511627776))) (by kernel_rfl) (fun hb144 => ?_) (fun hb144 => ?_)
              · have H := ct H hb144
                refine In.run' 1 (k' := 22) rfl [(70, (.pointer (some ⟨g6, 4, none⟩)))] (by kernel_rfl) ?_
                refine In.step (k' := 23) rfl (by kernel_rfl) ?_
                refine Step.load (t := 2) (x := (.tmp 70)) (g := g6) (off := 4) (i := 0) (v := (.int .i64 pM5)) (d := (some 71)) (k := 22) (by kernel_rfl) rfl (by kernel_rfl) hs131 rfl (by kernel_rfl) ?_
                refine In.run' 3 (k' := 26) rfl [(72, (.bool (decide (pM5 ≥ 0)))), (73, (.bool (decide (pM5 ≥ 0)))), (74, (.bool (decide (pM5 ≥ 0))))] (by kernel_rfl) ?_
                refine In.guard (t := 74) (b := (decide (pM5 ≥ 0))) (by kernel_rfl) (fun hb145 => ?_) (fun hb145 => ?_)
                · have H := ct H hb145
                  refine In.run' 1 (k' := 27) rfl [(75, (.pointer (some ⟨g6, 4, none⟩)))] (by kernel_rfl) ?_
                  refine In.step (k' := 28) rfl (by kernel_rfl) ?_
                  refine Step.load (t := 2) (x := (.tmp 75)) (g := g6) (off := 4) (i := 0) (v := (.int .i64 pM5)) (d := (some 76)) (k := 27) (by kernel_rfl) rfl (by kernel_rfl) hs131 rfl (by kernel_rfl) ?_
                  refine In.run' 3 (k' := 31) rfl [(77, (.bool (decide (pM5 ≤ 1099511627776)))), (78, (.bool (decide (pM5 ≤ 1099511627776)))), (2, (.bool (decide (pM5 ≤ 1099511627776))))] (by kernel_rfl) ?_
                  refine In.fin (by kernel_rfl) ?_
                  exact ⟨(decide (pM5 ≤ 1099511627776)), ⟨(by kernel_rfl), trivial⟩, SP.sel hs131 [] rfl rfl, H⟩
                · have H := cf H hb145
                  refine In.run' 5 (k' := 31) rfl [(75, undef), (76, undef), (77, undef), (78, (.bool false)), (2, (.bool false))] (by kernel_rfl) ?_
                  refine In.fin (by kernel_rfl) ?_
                  exact ⟨false, ⟨(by kernel_rfl), trivial⟩, SP.sel hs131 [] rfl rfl, H⟩
              · have H := cf H hb144
                refine In.run' 10 (k' := 31) rfl [(70, undef), (71, undef), (72, undef), (73, (.bool false)), (74, (.bool false)), (75, undef), (76, undef), (77, undef), (78, (.bool false)), (2, (.bool false))] (by kernel_rfl) ?_
                refine In.fin (by kernel_rfl) ?_
                exact ⟨false, ⟨(by kernel_rfl), trivial⟩, SP.sel hs131 [] rfl rfl, H⟩
            · have H := cf H hb143
              refine In.run' 15 (k' := 31) rfl [(65, undef), (66, undef), (67, undef), (68, (.bool false)), (69, (.bool false)), (70, undef), (71, undef), (72, undef), (73, (.bool false)), (74, (.bool false)), (75, undef), (76, undef), (77, undef), (78, (.bool false)), (2, (.bool false))] (by kernel_rfl) ?_
              refine In.fin (by kernel_rfl) ?_
              exact ⟨false, ⟨(by kernel_rfl), trivial⟩, SP.sel hs131 [] rfl rfl, H⟩
          · have H := cf H hb142
            refine In.run' 20 (k' := 31) rfl [(60, undef), (61, undef), (62, undef), (63, (.bool false)), (64, (.bool false)), (65, undef), (66, undef), (67, undef), (68, (.bool false)), (69, (.bool false)), (70, undef), (71, undef), (72, undef), (73, (.bool false)), (74, (.bool false)), (75, undef), (76, undef), (77, undef), (78, (.bool false)), (2, (.bool false))] (by kernel_rfl) ?_
            refine In.fin (by kernel_rfl) ?_
            exact ⟨false, ⟨(by kernel_rfl), trivial⟩, SP.sel hs131 [] rfl rfl, H⟩
        · have H := cf H hb141
          refine In.run' 26 (k' := 31) rfl [(54, undef), (55, undef), (56, undef), (57, undef), (58, (.bool false)), (59, (.bool false)), (60, undef), (61, undef), (62, undef), (63, (.bool false)), (64, (.bool false)), (65, undef), (66, undef), (67, undef), (68, (.bool false)), (69, (.bool false)), (70, undef), (71, undef), (72, undef), (73, (.bool false)), (74, (.bool false)), (75, undef), (76, undef), (77, undef), (78, (.bool false)), (2, (.bool false))] (by kernel_rfl) ?_
          refine In.fin (by kernel_rfl) ?_
          exact ⟨false, ⟨(by kernel_rfl), trivial⟩, SP.sel hs131 [] rfl rfl, H⟩
      · rintro ρ w139 ⟨v138, hk, hs140, H⟩
        unfold L_subwayref05_Right_k2 at H
        refine At.known [(2, (.bool v138))] hk ?_
        refine At.ret (by kernel_rfl) ?_
        refine ⟨(.bool v138), by kernel_rfl, ?_⟩
        obtain rfl := some_elim H
        exact ⟨rfl, SP.sel hs140 [] rfl rfl⟩
/-! L_subwayref05_Put -/
def L_subwayref05_Put_k4 (v136 : (List UInt8)) : Option ((List UInt8)) :=
  (some (v136))
def L_subwayref05_Put_k3 (pM5 : Int) (z21 : ((List UInt8))) (v109 : (List UInt8)) : Option ((List UInt8)) :=
  ((L_subwayref05_of z21 (77 : UInt8)).bind fun z112 => (cond z112 ((L_subwayref01_Put pM5).bind fun z140 => ((app v109 z140).bind fun l149 => (L_subwayref05_Put_k4 l149))) (L_subwayref05_Put_k4 v109)))
def L_subwayref05_Put_k2 (pN4 : Int) (pM5 : Int) (z21 : ((List UInt8))) (v82 : (List UInt8)) : Option ((List UInt8)) :=
  ((L_subwayref05_of z21 (78 : UInt8)).bind fun z85 => (cond z85 ((L_subwayref01_Put pN4).bind fun z156 => ((app v82 z156).bind fun l165 => (L_subwayref05_Put_k3 pM5 z21 l165))) (L_subwayref05_Put_k3 pM5 z21 v82)))
def L_subwayref05_Put_k1 (pB3 : (List UInt8)) (pN4 : Int) (pM5 : Int) (z21 : ((List UInt8))) (v55 : (List UInt8)) : Option ((List UInt8)) :=
  ((L_subwayref05_of z21 (66 : UInt8)).bind fun z58 => (cond z58 ((L_subwayref01_Text pB3).bind fun z172 => ((app v55 z172).bind fun l181 => (L_subwayref05_Put_k2 pN4 pM5 z21 l181))) (L_subwayref05_Put_k2 pN4 pM5 z21 v55)))
def L_subwayref05_Put (pKind1 : Int) (pA2 : (List UInt8)) (pB3 : (List UInt8)) (pN4 : Int) (pM5 : Int) : Option ((List UInt8)) :=
  ((L_subwayref05_Right pKind1 pA2 pB3 pN4 pM5).bind fun z12 => (cond (!z12) (some (([] : List UInt8))) ((L_subwayref05_has pKind1).bind fun z21 => ((L_subwayref05_of z21 (65 : UInt8)).bind fun z31 => (cond z31 ((L_subwayref01_Text pA2).bind fun z188 => ((app ([(toU8 (IntKind.wrap .u8 pKind1))] : List UInt8) z188).bind fun l197 => (L_subwayref05_Put_k1 pB3 pN4 pM5 z21 l197))) (L_subwayref05_Put_k1 pB3 pN4 pM5 z21 ([(toU8 (IntKind.wrap .u8 pKind1))] : List UInt8)))))))
set_option maxRecDepth 100000 in
set_option maxHeartbeats 4000000 in
theorem L_subwayref05_Put_walk  (pKind1 : Int) (pA2 : (List UInt8)) (pB3 : (List UInt8)) (pN4 : Int) (pM5 : Int) (w0 : World)  (r : ((List UInt8))) (H : L_subwayref05_Put pKind1 pA2 pB3 pN4 pM5 = some r) :
    Calls Try.prog 16 #[(.agg #[(.int .i64 pKind1), (.string ⟨List.toArray pA2⟩), (.string ⟨List.toArray pB3⟩), (.int .i64 pN4), (.int .i64 pM5)])] w0 (fun e w' => ∃ (A6 : Option Addr) (c7 : Nat), e = .returned (.slice A6 (List.length r) c7) ∧ SP [] w0 w' [rowT 5 eU8 A6 c7 r]) := by
  unfold L_subwayref05_Put at H
  refine calls_start (n := 44) Try.func16 (by kernel_rfl) (by kernel_rfl) (by kernel_rfl) ?_
  have hs0 := SP.start [] w0
  refine At.seq (by kernel_rfl) (p0 := [false]) (p1 := [true]) rfl rfl ?_
  refine At.region (by kernel_rfl) (by kernel_rfl) ?_
  refine In.step (k' := 1) rfl (by kernel_rfl) ?_
  refine Step.box (t := 23) (x := (.tmp 0)) (v := (.agg #[(.int .i64 pKind1), (.string ⟨List.toArray pA2⟩), (.string ⟨List.toArray pB3⟩), (.int .i64 pN4), (.int .i64 pM5)])) (d := (some 1)) (k := 0) (by kernel_rfl) rfl (by kernel_rfl) hs0 ?_
  intro g8 w9 hs10
  have hs11 : SP [] w0 w9 [boxE g8 23 #[(.int .i64 pKind1), (.string ⟨List.toArray pA2⟩), (.string ⟨List.toArray pB3⟩), (.int .i64 pN4), (.int .i64 pM5)]] := hs10
  clear hs10
  refine In.run' 1 (k' := 2) rfl [(2, (.slice none (List.length ([] : List UInt8)) 0))] (by kernel_rfl) ?_
  refine In.fin (by kernel_rfl) ?_
  refine At.seq (by kernel_rfl) (p0 := [true, false]) (p1 := [true, true]) rfl rfl ?_
  refine At.seq (by kernel_rfl) (p0 := [true, false, false]) (p1 := [true, false, true]) rfl rfl ?_
  refine At.region (by kernel_rfl) (by kernel_rfl) ?_
  refine In.step (k' := 1) rfl (by kernel_rfl) ?_
  refine Step.load (t := 23) (x := (.tmp 1)) (g := g8) (off := 0) (i := 0) (v := (.agg #[(.int .i64 pKind1), (.string ⟨List.toArray pA2⟩), (.string ⟨List.toArray pB3⟩), (.int .i64 pN4), (.int .i64 pM5)])) (d := (some 5)) (k := 0) (by kernel_rfl) rfl (by kernel_rfl) hs11 rfl (by kernel_rfl) ?_
  obtain ⟨z12, hz13, H⟩ := bind_elim H
  refine In.step (k' := 2) rfl (by kernel_rfl) ?_
  refine Step.callF (f := 14) (fo := (.func 14)) (xs := #[(.tmp 5)]) (tys := #[23]) (first := #[]) (captured := #[]) (d := (some 6)) (k := 1) (by kernel_rfl) rfl (by kernel_rfl) (by kernel_rfl) Try.call14 (L_subwayref05_Right_walk  pKind1 pA2 pB3 pN4 pM5 w9  z12 hz13) ?_
  rintro e w14 ⟨rfl, hs15⟩
  refine ⟨_, rfl, ?_⟩
  have hs16 := SP.call hs11 hs15
  clear hs15
  have hs17 : SP [] w0 w14 [boxE g8 23 #[(.int .i64 pKind1), (.string ⟨List.toArray pA2⟩), (.string ⟨List.toArray pB3⟩), (.int .i64 pN4), (.int .i64 pM5)]] := hs16
  clear hs16
  refine In.run' 1 (k' := 3) rfl [(7, (.bool (!z12)))] (by kernel_rfl) ?_
  refine In.fin (by kernel_rfl) ?_
  refine At.cond (by kernel_rfl) (o := (.tmp 7)) (by kernel_rfl) (b := (!z12)) (by kernel_rfl) (p0 := [true, false, true, false]) (p1 := [true, false, true, true]) rfl rfl (fun hb18 => ?_) (fun hb18 => ?_)
  · have H := ct H hb18
    refine At.seq (by kernel_rfl) (p0 := [true, false, true, false, false]) (p1 := [true, false, true, false, true]) rfl rfl ?_
    refine At.region (by kernel_rfl) (by kernel_rfl) ?_
    refine In.run' 1 (k' := 1) rfl [(2, (.slice none (List.length ([] : List UInt8)) 0))] (by kernel_rfl) ?_
    refine In.fin (by kernel_rfl) ?_
    refine At.ret (by kernel_rfl) ?_
    have hs19 := SP.nilrow hs17 5 eU8
    have hs20 : SP [] w0 w14 [boxE g8 23 #[(.int .i64 pKind1), (.string ⟨List.toArray pA2⟩), (.string ⟨List.toArray pB3⟩), (.int .i64 pN4), (.int .i64 pM5)], rowT 5 eU8 none 0 ([] : List UInt8)] := hs19
    clear hs19
    refine ⟨(.slice none (List.length ([] : List UInt8)) 0), by kernel_rfl, ?_⟩
    obtain rfl := some_elim H
    exact ⟨none, 0, rfl, SP.sel hs20 [1] rfl rfl⟩
  · have H := cf H hb18
    refine At.skip (by kernel_rfl) ?_
    refine At.seq (by kernel_rfl) (p0 := [true, true, false]) (p1 := [true, true, true]) rfl rfl ?_
    refine At.region (by kernel_rfl) (by kernel_rfl) ?_
    refine In.run' 1 (k' := 1) rfl [(8, (.pointer (some ⟨g8, 0, none⟩)))] (by kernel_rfl) ?_
    refine In.step (k' := 2) rfl (by kernel_rfl) ?_
    refine Step.load (t := 3) (x := (.tmp 8)) (g := g8) (off := 0) (i := 0) (v := (.int .i64 pKind1)) (d := (some 9)) (k := 1) (by kernel_rfl) rfl (by kernel_rfl) hs17 rfl (by kernel_rfl) ?_
    obtain ⟨z21, hz22, H⟩ := bind_elim H
    refine In.step (k' := 3) rfl (by kernel_rfl) ?_
    refine Step.callF (f := 26) (fo := (.func 26)) (xs := #[(.tmp 9)]) (tys := #[3]) (first := #[]) (captured := #[]) (d := (some 10)) (k := 2) (by kernel_rfl) rfl (by kernel_rfl) (by kernel_rfl) Try.call26 (L_subwayref05_has_walk  pKind1 w14  z21 hz22) ?_
    rintro e w23 ⟨rfl, hs24⟩
    refine ⟨_, rfl, ?_⟩
    have hs25 := SP.call hs17 hs24
    clear hs24
    have hs26 : SP [] w0 w23 [boxE g8 23 #[(.int .i64 pKind1), (.string ⟨List.toArray pA2⟩), (.string ⟨List.toArray pB3⟩), (.int .i64 pN4), (.int .i64 pM5)]] := hs25
    clear hs25
    refine In.run' 1 (k' := 4) rfl [(3, (.string ⟨List.toArray z21⟩))] (by kernel_rfl) ?_
    refine In.fin (by kernel_rfl) ?_
    refine At.seq (by kernel_rfl) (p0 := [true, true, true, false]) (p1 := [true, true, true, true]) rfl rfl ?_
    refine At.region (by kernel_rfl) (by kernel_rfl) ?_
    refine In.run' 1 (k' := 1) rfl [(11, (.pointer (some ⟨g8, 0, none⟩)))] (by kernel_rfl) ?_
    refine In.step (k' := 2) rfl (by kernel_rfl) ?_
    refine Step.load (t := 3) (x := (.tmp 11)) (g := g8) (off := 0) (i := 0) (v := (.int .i64 pKind1)) (d := (some 12)) (k := 1) (by kernel_rfl) rfl (by kernel_rfl) hs26 rfl (by kernel_rfl) ?_
    refine In.run' 1 (k' := 3) rfl [(13, (.int .u8 (IntKind.wrap .u8 pKind1)))] (by kernel_rfl) ?_
    refine In.step (k' := 4) rfl (by kernel_rfl) ?_
    refine Step.newSlice (e := eU8) (T := 24) (E := 5) (len := 1) (parts := #[(0, (.tmp 13))]) (cs := #[(.int .u8 (IntKind.wrap .u8 pKind1))]) ([(toU8 (IntKind.wrap .u8 pKind1))] : List UInt8) (d := (some 14)) (k := 3) (by kernel_rfl) rfl (fun _ => by kernel_rfl) hs26 (cells_cons8 (Or.inr ⟨rfl, (u8_wrap _)⟩) rfl) rfl rfl rfl ?_
    intro g27 w28 hs29
    have hs30 : SP [] w0 w28 [boxE g8 23 #[(.int .i64 pKind1), (.string ⟨List.toArray pA2⟩), (.string ⟨List.toArray pB3⟩), (.int .i64 pN4), (.int .i64 pM5)], rowT 5 eU8 (some ⟨g27, 0, none⟩) (List.length ([(toU8 (IntKind.wrap .u8 pKind1))] : List UInt8)) ([(toU8 (IntKind.wrap .u8 pKind1))] : List UInt8)] := hs29
    clear hs29
    refine In.run' 1 (k' := 5) rfl [(4, (.slice (some ⟨g27, 0, none⟩) (List.length ([(toU8 (IntKind.wrap .u8 pKind1))] : List UInt8)) (List.length ([(toU8 (IntKind.wrap .u8 pKind1))] : List UInt8))))] (by kernel_rfl) ?_
    refine In.fin (by kernel_rfl) ?_
    refine At.seq (by kernel_rfl) (p0 := [true, true, true, true, false]) (p1 := [true, true, true, true, true]) rfl rfl ?_
    refine At.seq (by kernel_rfl) (p0 := [true, true, true, true, false, false]) (p1 := [true, true, true, true, false, true]) rfl rfl ?_
    refine At.region (by kernel_rfl) (by kernel_rfl) ?_
    refine In.run' 1 (k' := 1) rfl [(15, (.string ⟨List.toArray z21⟩))] (by kernel_rfl) ?_
    obtain ⟨z31, hz32, H⟩ := bind_elim H
    refine In.step (k' := 2) rfl (by kernel_rfl) ?_
    refine Step.callF (f := 27) (fo := (.func 27)) (xs := #[(.tmp 15), (.const (.int .u8 (65)))]) (tys := #[9, 5]) (first := #[]) (captured := #[]) (d := (some 16)) (k := 1) (by kernel_rfl) rfl (by kernel_rfl) (by kernel_rfl) Try.call27 (L_subwayref05_of_walk  z21 (65 : UInt8) w28  z31 hz32) ?_
    rintro e w33 ⟨rfl, hs34⟩
    refine ⟨_, rfl, ?_⟩
    have hs35 := SP.call hs30 hs34
    clear hs34
    have hs36 : SP [] w0 w33 [boxE g8 23 #[(.int .i64 pKind1), (.string ⟨List.toArray pA2⟩), (.string ⟨List.toArray pB3⟩), (.int .i64 pN4), (.int .i64 pM5)], rowT 5 eU8 (some ⟨g27, 0, none⟩) (List.length ([(toU8 (IntKind.wrap .u8 pKind1))] : List UInt8)) ([(toU8 (IntKind.wrap .u8 pKind1))] : List UInt8)] := hs35
    clear hs35
    refine In.fin (by kernel_rfl) ?_
    refine At.join (fun ρ w => ∃ (v55 : (List UInt8)) (A53 : Option Addr) (c54 : Nat), Known ρ [(1, (.pointer (some ⟨g8, 0, none⟩))), (3, (.string ⟨List.toArray z21⟩)), (4, (.slice A53 (List.length v55) c54))] ∧ SP [] w0 w [boxE g8 23 #[(.int .i64 pKind1), (.string ⟨List.toArray pA2⟩), (.string ⟨List.toArray pB3⟩), (.int .i64 pN4), (.int .i64 pM5)], rowT 5 eU8 A53 c54 v55] ∧ L_subwayref05_Put_k1 pB3 pN4 pM5 z21 v55 = some r) ?_ ?_
    · refine At.cond (by kernel_rfl) (o := (.tmp 16)) (by kernel_rfl) (b := z31) (by kernel_rfl) (p0 := [true, true, true, true, false, true, false]) (p1 := [true, true, true, true, false, true, true]) rfl rfl (fun hb187 => ?_) (fun hb187 => ?_)
      · have H := ct H hb187
        refine At.region (by kernel_rfl) (by kernel_rfl) ?_
        refine In.run' 2 (k' := 2) rfl [(17, (.slice (some ⟨g27, 0, none⟩) (List.length ([(toU8 (IntKind.wrap .u8 pKind1))] : List UInt8)) (List.length ([(toU8 (IntKind.wrap .u8 pKind1))] : List UInt8)))), (18, (.pointer (some ⟨g8, 1, none⟩)))] (by kernel_rfl) ?_
        refine In.step (k' := 3) rfl (by kernel_rfl) ?_
        refine Step.load (t := 9) (x := (.tmp 18)) (g := g8) (off := 1) (i := 0) (v := (.string ⟨List.toArray pA2⟩)) (d := (some 19)) (k := 2) (by kernel_rfl) rfl (by kernel_rfl) hs36 rfl (by kernel_rfl) ?_
        obtain ⟨z188, hz189, H⟩ := bind_elim H
        refine In.step (k' := 4) rfl (by kernel_rfl) ?_
        refine Step.callF (f := 34) (fo := (.func 34)) (xs := #[(.tmp 19)]) (tys := #[9]) (first := #[]) (captured := #[]) (d := (some 20)) (k := 3) (by kernel_rfl) rfl (by kernel_rfl) (by kernel_rfl) Try.call34 (L_subwayref01_Text_walk  pA2 w33  z188 hz189) ?_
        rintro e w190 ⟨A192, c193, rfl, hs191⟩
        refine ⟨_, rfl, ?_⟩
        have hs194 := SP.call hs36 hs191
        clear hs191
        have hs195 : SP [] w0 w190 [boxE g8 23 #[(.int .i64 pKind1), (.string ⟨List.toArray pA2⟩), (.string ⟨List.toArray pB3⟩), (.int .i64 pN4), (.int .i64 pM5)], rowT 5 eU8 (some ⟨g27, 0, none⟩) (List.length ([(toU8 (IntKind.wrap .u8 pKind1))] : List UInt8)) ([(toU8 (IntKind.wrap .u8 pKind1))] : List UInt8), rowT 5 eU8 A192 c193 z188] := hs194
        clear hs194
        obtain ⟨hl196, H⟩ := app_elim H
        obtain ⟨l197, hyl197⟩ : ∃ y, ([(toU8 (IntKind.wrap .u8 pKind1))] : List UInt8) ++ z188 = y := ⟨_, rfl⟩
        rw [hyl197] at H
        refine In.step (k' := 5) rfl (by kernel_rfl) ?_
        refine Step.append (e := eU8) (l := ([(toU8 (IntKind.wrap .u8 pKind1))] : List UInt8)) (m := z188) (A := (some ⟨g27, 0, none⟩)) (c := (List.length ([(toU8 (IntKind.wrap .u8 pKind1))] : List UInt8))) (T := 24) (TX := 24) (E := 5) (b := 1) (s := (.tmp 17)) (x := (.tmp 20)) (i := 1) (vx := (.slice A192 (List.length z188) c193)) (d := (some 21)) (k := 4) (by kernel_rfl) rfl (by kernel_rfl) (by kernel_rfl) (by kernel_rfl) (by kernel_rfl) rfl hs195 rfl (src_rdt (E := 5) (by kernel_rfl) (rowT_rd (SP.get hs195 (i := 2) rfl))) hl196 ?_
        rw [hyl197]
        intro A198 c199 w200 hs201
        have hs202 : SP [] w0 w200 [boxE g8 23 #[(.int .i64 pKind1), (.string ⟨List.toArray pA2⟩), (.string ⟨List.toArray pB3⟩), (.int .i64 pN4), (.int .i64 pM5)], rowT 5 eU8 A198 c199 l197, rowT 5 eU8 A192 c193 z188] := hs201
        clear hs201
        refine In.run' 1 (k' := 6) rfl [(4, (.slice A198 (List.length l197) c199))] (by kernel_rfl) ?_
        refine In.fin (by kernel_rfl) ?_
        exact ⟨l197, A198, c199, ⟨(by kernel_rfl), (by kernel_rfl), (by kernel_rfl), trivial⟩, SP.sel hs202 [0, 1] rfl rfl, H⟩
      · have H := cf H hb187
        refine At.skip (by kernel_rfl) ?_
        exact ⟨([(toU8 (IntKind.wrap .u8 pKind1))] : List UInt8), (some ⟨g27, 0, none⟩), (List.length ([(toU8 (IntKind.wrap .u8 pKind1))] : List UInt8)), ⟨(by kernel_rfl), (by kernel_rfl), (by kernel_rfl), trivial⟩, SP.sel hs36 [0, 1] rfl rfl, H⟩
    · rintro ρ w56 ⟨v55, A53, c54, hk, hs57, H⟩
      unfold L_subwayref05_Put_k1 at H
      refine At.known [(1, (.pointer (some ⟨g8, 0, none⟩))), (3, (.string ⟨List.toArray z21⟩)), (4, (.slice A53 (List.length v55) c54))] hk ?_
      refine At.seq (by kernel_rfl) (p0 := [true, true, true, true, true, false]) (p1 := [true, true, true, true, true, true]) rfl rfl ?_
      refine At.seq (by kernel_rfl) (p0 := [true, true, true, true, true, false, false]) (p1 := [true, true, true, true, true, false, true]) rfl rfl ?_
      refine At.region (by kernel_rfl) (by kernel_rfl) ?_
      refine In.run' 1 (k' := 1) rfl [(22, (.string ⟨List.toArray z21⟩))] (by kernel_rfl) ?_
      obtain ⟨z58, hz59, H⟩ := bind_elim H
      refine In.step (k' := 2) rfl (by kernel_rfl) ?_
      refine Step.callF (f := 27) (fo := (.func 27)) (xs := #[(.tmp 22), (.const (.int .u8 (66)))]) (tys := #[9, 5]) (first := #[]) (captured := #[]) (d := (some 23)) (k := 1) (by kernel_rfl) rfl (by kernel_rfl) (by kernel_rfl) Try.call27 (L_subwayref05_of_walk  z21 (66 : UInt8) w56  z58 hz59) ?_
      rintro e w60 ⟨rfl, hs61⟩
      refine ⟨_, rfl, ?_⟩
      have hs62 := SP.call hs57 hs61
      clear hs61
      have hs63 : SP [] w0 w60 [boxE g8 23 #[(.int .i64 pKind1), (.string ⟨List.toArray pA2⟩), (.string ⟨List.toArray pB3⟩), (.int .i64 pN4), (.int .i64 pM5)], rowT 5 eU8 A53 c54 v55] := hs62
      clear hs62
      refine In.fin (by kernel_rfl) ?_
      refine At.join (fun ρ w => ∃ (v82 : (List UInt8)) (A80 : Option Addr) (c81 : Nat), Known ρ [(1, (.pointer (some ⟨g8, 0, none⟩))), (3, (.string ⟨List.toArray z21⟩)), (4, (.slice A80 (List.length v82) c81))] ∧ SP [] w0 w [boxE g8 23 #[(.int .i64 pKind1), (.string ⟨List.toArray pA2⟩), (.string ⟨List.toArray pB3⟩), (.int .i64 pN4), (.int .i64 pM5)], rowT 5 eU8 A80 c81 v82] ∧ L_subwayref05_Put_k2 pN4 pM5 z21 v82 = some r) ?_ ?_
      · refine At.cond (by kernel_rfl) (o := (.tmp 23)) (by kernel_rfl) (b := z58) (by kernel_rfl) (p0 := [true, true, true, true, true, false, true, false]) (p1 := [true, true, true, true, true, false, true, true]) rfl rfl (fun hb171 => ?_) (fun hb171 => ?_)
        · have H := ct H hb171
          refine At.region (by kernel_rfl) (by kernel_rfl) ?_
          refine In.run' 2 (k' := 2) rfl [(24, (.slice A53 (List.length v55) c54)), (25, (.pointer (some ⟨g8, 2, none⟩)))] (by kernel_rfl) ?_
          refine In.step (k' := 3) rfl (by kernel_rfl) ?_
          refine Step.load (t := 9) (x := (.tmp 25)) (g := g8) (off := 2) (i := 0) (v := (.string ⟨List.toArray pB3⟩)) (d := (some 26)) (k := 2) (by kernel_rfl) rfl (by kernel_rfl) hs63 rfl (by kernel_rfl) ?_
          obtain ⟨z172, hz173, H⟩ := bind_elim H
          refine In.step (k' := 4) rfl (by kernel_rfl) ?_
          refine Step.callF (f := 34) (fo := (.func 34)) (xs := #[(.tmp 26)]) (tys := #[9]) (first := #[]) (captured := #[]) (d := (some 27)) (k := 3) (by kernel_rfl) rfl (by kernel_rfl) (by kernel_rfl) Try.call34 (L_subwayref01_Text_walk  pB3 w60  z172 hz173) ?_
          rintro e w174 ⟨A176, c177, rfl, hs175⟩
          refine ⟨_, rfl, ?_⟩
          have hs178 := SP.call hs63 hs175
          clear hs175
          have hs179 : SP [] w0 w174 [boxE g8 23 #[(.int .i64 pKind1), (.string ⟨List.toArray pA2⟩), (.string ⟨List.toArray pB3⟩), (.int .i64 pN4), (.int .i64 pM5)], rowT 5 eU8 A53 c54 v55, rowT 5 eU8 A176 c177 z172] := hs178
          clear hs178
          obtain ⟨hl180, H⟩ := app_elim H
          obtain ⟨l181, hyl181⟩ : ∃ y, v55 ++ z172 = y := ⟨_, rfl⟩
          rw [hyl181] at H
          refine In.step (k' := 5) rfl (by kernel_rfl) ?_
          refine Step.append (e := eU8) (l := v55) (m := z172) (A := A53) (c := c54) (T := 24) (TX := 24) (E := 5) (b := 1) (s := (.tmp 24)) (x := (.tmp 27)) (i := 1) (vx := (.slice A176 (List.length z172) c177)) (d := (some 28)) (k := 4) (by kernel_rfl) rfl (by kernel_rfl) (by kernel_rfl) (by kernel_rfl) (by kernel_rfl) rfl hs179 rfl (src_rdt (E := 5) (by kernel_rfl) (rowT_rd (SP.get hs179 (i := 2) rfl))) hl180 ?_
          rw [hyl181]
          intro A182 c183 w184 hs185
          have hs186 : SP [] w0 w184 [boxE g8 23 #[(.int .i64 pKind1), (.string ⟨List.toArray pA2⟩), (.string ⟨List.toArray pB3⟩), (.int .i64 pN4), (.int .i64 pM5)], rowT 5 eU8 A182 c183 l181, rowT 5 eU8 A176 c177 z172] := hs185
          clear hs185
          refine In.run' 1 (k' := 6) rfl [(4, (.slice A182 (List.length l181) c183))] (by kernel_rfl) ?_
          refine In.fin (by kernel_rfl) ?_
          exact ⟨l181, A182, c183, ⟨(by kernel_rfl), (by kernel_rfl), (by kernel_rfl), trivial⟩, SP.sel hs186 [0, 1] rfl rfl, H⟩
        · have H := cf H hb171
          refine At.skip (by kernel_rfl) ?_
          exact ⟨v55, A53, c54, ⟨(by kernel_rfl), (by kernel_rfl), (by kernel_rfl), trivial⟩, SP.sel hs63 [0, 1] rfl rfl, H⟩
      · rintro ρ w83 ⟨v82, A80, c81, hk, hs84, H⟩
        unfold L_subwayref05_Put_k2 at H
        refine At.known [(1, (.pointer (some ⟨g8, 0, none⟩))), (3, (.string ⟨List.toArray z21⟩)), (4, (.slice A80 (List.length v82) c81))] hk ?_
        refine At.seq (by kernel_rfl) (p0 := [true, true, true, true, true, true, false]) (p1 := [true, true, true, true, true, true, true]) rfl rfl ?_
        refine At.seq (by kernel_rfl) (p0 := [true, true, true, true, true, true, false, false]) (p1 := [true, true, true, true, true, true, false, true]) rfl rfl ?_
        refine At.region (by kernel_rfl) (by kernel_rfl) ?_
        refine In.run' 1 (k' := 1) rfl [(29, (.string ⟨List.toArray z21⟩))] (by kernel_rfl) ?_
        obtain ⟨z85, hz86, H⟩ := bind_elim H
        refine In.step (k' := 2) rfl (by kernel_rfl) ?_
        refine Step.callF (f := 27) (fo := (.func 27)) (xs := #[(.tmp 29), (.const (.int .u8 (78)))]) (tys := #[9, 5]) (first := #[]) (captured := #[]) (d := (some 30)) (k := 1) (by kernel_rfl) rfl (by kernel_rfl) (by kernel_rfl) Try.call27 (L_subwayref05_of_walk  z21 (78 : UInt8) w83  z85 hz86) ?_
        rintro e w87 ⟨rfl, hs88⟩
        refine ⟨_, rfl, ?_⟩
        have hs89 := SP.call hs84 hs88
        clear hs88
        have hs90 : SP [] w0 w87 [boxE g8 23 #[(.int .i64 pKind1), (.string ⟨List.toArray pA2⟩), (.string ⟨List.toArray pB3⟩), (.int .i64 pN4), (.int .i64 pM5)], rowT 5 eU8 A80 c81 v82] := hs89
        clear hs89
        refine In.fin (by kernel_rfl) ?_
        refine At.join (fun ρ w => ∃ (v109 : (List UInt8)) (A107 : Option Addr) (c108 : Nat), Known ρ [(1, (.pointer (some ⟨g8, 0, none⟩))), (3, (.string ⟨List.toArray z21⟩)), (4, (.slice A107 (List.length v109) c108))] ∧ SP [] w0 w [boxE g8 23 #[(.int .i64 pKind1), (.string ⟨List.toArray pA2⟩), (.string ⟨List.toArray pB3⟩), (.int .i64 pN4), (.int .i64 pM5)], rowT 5 eU8 A107 c108 v109] ∧ L_subwayref05_Put_k3 pM5 z21 v109 = some r) ?_ ?_
        · refine At.cond (by kernel_rfl) (o := (.tmp 30)) (by kernel_rfl) (b := z85) (by kernel_rfl) (p0 := [true, true, true, true, true, true, false, true, false]) (p1 := [true, true, true, true, true, true, false, true, true]) rfl rfl (fun hb155 => ?_) (fun hb155 => ?_)
          · have H := ct H hb155
            refine At.region (by kernel_rfl) (by kernel_rfl) ?_
            refine In.run' 2 (k' := 2) rfl [(31, (.slice A80 (List.length v82) c81)), (32, (.pointer (some ⟨g8, 3, none⟩)))] (by kernel_rfl) ?_
            refine In.step (k' := 3) rfl (by kernel_rfl) ?_
            refine Step.load (t := 2) (x := (.tmp 32)) (g := g8) (off := 3) (i := 0) (v := (.int .i64 pN4)) (d := (some 33)) (k := 2) (by kernel_rfl) rfl (by kernel_rfl) hs90 rfl (by kernel_rfl) ?_
            obtain ⟨z156, hz157, H⟩ := bind_elim H
            refine In.step (k' := 4) rfl (by kernel_rfl) ?_
            refine Step.callF (f := 35) (fo := (.func 35)) (xs := #[(.tmp 33)]) (tys := #[2]) (first := #[]) (captured := #[]) (d := (some 34)) (k := 3) (by kernel_rfl) rfl (by kernel_rfl) (by kernel_rfl) Try.call35 (L_subwayref01_Put_walk  pN4 w87  z156 hz157) ?_
            rintro e w158 ⟨A160, c161, rfl, hs159⟩
            refine ⟨_, rfl, ?_⟩
            have hs162 := SP.call hs90 hs159
            clear hs159
            have hs163 : SP [] w0 w158 [boxE g8 23 #[(.int .i64 pKind1), (.string ⟨List.toArray pA2⟩), (.string ⟨List.toArray pB3⟩), (.int .i64 pN4), (.int .i64 pM5)], rowT 5 eU8 A80 c81 v82, rowT 5 eU8 A160 c161 z156] := hs162
            clear hs162
            obtain ⟨hl164, H⟩ := app_elim H
            obtain ⟨l165, hyl165⟩ : ∃ y, v82 ++ z156 = y := ⟨_, rfl⟩
            rw [hyl165] at H
            refine In.step (k' := 5) rfl (by kernel_rfl) ?_
            refine Step.append (e := eU8) (l := v82) (m := z156) (A := A80) (c := c81) (T := 24) (TX := 24) (E := 5) (b := 1) (s := (.tmp 31)) (x := (.tmp 34)) (i := 1) (vx := (.slice A160 (List.length z156) c161)) (d := (some 35)) (k := 4) (by kernel_rfl) rfl (by kernel_rfl) (by kernel_rfl) (by kernel_rfl) (by kernel_rfl) rfl hs163 rfl (src_rdt (E := 5) (by kernel_rfl) (rowT_rd (SP.get hs163 (i := 2) rfl))) hl164 ?_
            rw [hyl165]
            intro A166 c167 w168 hs169
            have hs170 : SP [] w0 w168 [boxE g8 23 #[(.int .i64 pKind1), (.string ⟨List.toArray pA2⟩), (.string ⟨List.toArray pB3⟩), (.int .i64 pN4), (.int .i64 pM5)], rowT 5 eU8 A166 c167 l165, rowT 5 eU8 A160 c161 z156] := hs169
            clear hs169
            refine In.run' 1 (k' := 6) rfl [(4, (.slice A166 (List.length l165) c167))] (by kernel_rfl) ?_
            refine In.fin (by kernel_rfl) ?_
            exact ⟨l165, A166, c167, ⟨(by kernel_rfl), (by kernel_rfl), (by kernel_rfl), trivial⟩, SP.sel hs170 [0, 1] rfl rfl, H⟩
          · have H := cf H hb155
            refine At.skip (by kernel_rfl) ?_
            exact ⟨v82, A80, c81, ⟨(by kernel_rfl), (by kernel_rfl), (by kernel_rfl), trivial⟩, SP.sel hs90 [0, 1] rfl rfl, H⟩
        · rintro ρ w110 ⟨v109, A107, c108, hk, hs111, H⟩
          unfold L_subwayref05_Put_k3 at H
          refine At.known [(1, (.pointer (some ⟨g8, 0, none⟩))), (3, (.string ⟨List.toArray z21⟩)), (4, (.slice A107 (List.length v109) c108))] hk ?_
          refine At.seq (by kernel_rfl) (p0 := [true, true, true, true, true, true, true, false]) (p1 := [true, true, true, true, true, true, true, true]) rfl rfl ?_
          refine At.seq (by kernel_rfl) (p0 := [true, true, true, true, true, true, true, false, false]) (p1 := [true, true, true, true, true, true, true, false, true]) rfl rfl ?_
          refine At.region (by kernel_rfl) (by kernel_rfl) ?_
          refine In.run' 1 (k' := 1) rfl [(36, (.string ⟨List.toArray z21⟩))] (by kernel_rfl) ?_
          obtain ⟨z112, hz113, H⟩ := bind_elim H
          refine In.step (k' := 2) rfl (by kernel_rfl) ?_
          refine Step.callF (f := 27) (fo := (.func 27)) (xs := #[(.tmp 36), (.const (.int .u8 (77)))]) (tys := #[9, 5]) (first := #[]) (captured := #[]) (d := (some 37)) (k := 1) (by kernel_rfl) rfl (by kernel_rfl) (by kernel_rfl) Try.call27 (L_subwayref05_of_walk  z21 (77 : UInt8) w110  z112 hz113) ?_
          rintro e w114 ⟨rfl, hs115⟩
          refine ⟨_, rfl, ?_⟩
          have hs116 := SP.call hs111 hs115
          clear hs115
          have hs117 : SP [] w0 w114 [boxE g8 23 #[(.int .i64 pKind1), (.string ⟨List.toArray pA2⟩), (.string ⟨List.toArray pB3⟩), (.int .i64 pN4), (.int .i64 pM5)], rowT 5 eU8 A107 c108 v109] := hs116
          clear hs116
          refine In.fin (by kernel_rfl) ?_
          refine At.join (fun ρ w => ∃ (v136 : (List UInt8)) (A134 : Option Addr) (c135 : Nat), Known ρ [(4, (.slice A134 (List.length v136) c135))] ∧ SP [] w0 w [rowT 5 eU8 A134 c135 v136] ∧ L_subwayref05_Put_k4 v136 = some r) ?_ ?_
          · refine At.cond (by kernel_rfl) (o := (.tmp 37)) (by kernel_rfl) (b := z112) (by kernel_rfl) (p0 := [true, true, true, true, true, true, true, false, true, false]) (p1 := [true, true, true, true, true, true, true, false, true, true]) rfl rfl (fun hb139 => ?_) (fun hb139 => ?_)
            · have H := ct H hb139
              refine At.region (by kernel_rfl) (by kernel_rfl) ?_
              refine In.run' 2 (k' := 2) rfl [(38, (.slice A107 (List.length v109) c108)), (39, (.pointer (some ⟨g8, 4, none⟩)))] (by kernel_rfl) ?_
              refine In.step (k' := 3) rfl (by kernel_rfl) ?_
              refine Step.load (t := 2) (x := (.tmp 39)) (g := g8) (off := 4) (i := 0) (v := (.int .i64 pM5)) (d := (some 40)) (k := 2) (by kernel_rfl) rfl (by kernel_rfl) hs117 rfl (by kernel_rfl) ?_
              obtain ⟨z140, hz141, H⟩ := bind_elim H
              refine In.step (k' := 4) rfl (by kernel_rfl) ?_
              refine Step.callF (f := 35) (fo := (.func 35)) (xs := #[(.tmp 40)]) (tys := #[2]) (first := #[]) (captured := #[]) (d := (some 41)) (k := 3) (by kernel_rfl) rfl (by kernel_rfl) (by kernel_rfl) Try.call35 (L_subwayref01_Put_walk  pM5 w114  z140 hz141) ?_
              rintro e w142 ⟨A144, c145, rfl, hs143⟩
              refine ⟨_, rfl, ?_⟩
              have hs146 := SP.call hs117 hs143
              clear hs143
              have hs147 : SP [] w0 w142 [boxE g8 23 #[(.int .i64 pKind1), (.string ⟨List.toArray pA2⟩), (.string ⟨List.toArray pB3⟩), (.int .i64 pN4), (.int .i64 pM5)], rowT 5 eU8 A107 c108 v109, rowT 5 eU8 A144 c145 z140] := hs146
              clear hs146
              obtain ⟨hl148, H⟩ := app_elim H
              obtain ⟨l149, hyl149⟩ : ∃ y, v109 ++ z140 = y := ⟨_, rfl⟩
              rw [hyl149] at H
              refine In.step (k' := 5) rfl (by kernel_rfl) ?_
              refine Step.append (e := eU8) (l := v109) (m := z140) (A := A107) (c := c108) (T := 24) (TX := 24) (E := 5) (b := 1) (s := (.tmp 38)) (x := (.tmp 41)) (i := 1) (vx := (.slice A144 (List.length z140) c145)) (d := (some 42)) (k := 4) (by kernel_rfl) rfl (by kernel_rfl) (by kernel_rfl) (by kernel_rfl) (by kernel_rfl) rfl hs147 rfl (src_rdt (E := 5) (by kernel_rfl) (rowT_rd (SP.get hs147 (i := 2) rfl))) hl148 ?_
              rw [hyl149]
              intro A150 c151 w152 hs153
              have hs154 : SP [] w0 w152 [boxE g8 23 #[(.int .i64 pKind1), (.string ⟨List.toArray pA2⟩), (.string ⟨List.toArray pB3⟩), (.int .i64 pN4), (.int .i64 pM5)], rowT 5 eU8 A150 c151 l149, rowT 5 eU8 A144 c145 z140] := hs153
              clear hs153
              refine In.run' 1 (k' := 6) rfl [(4, (.slice A150 (List.length l149) c151))] (by kernel_rfl) ?_
              refine In.fin (by kernel_rfl) ?_
              exact ⟨l149, A150, c151, ⟨(by kernel_rfl), trivial⟩, SP.sel hs154 [1] rfl rfl, H⟩
            · have H := cf H hb139
              refine At.skip (by kernel_rfl) ?_
              exact ⟨v109, A107, c108, ⟨(by kernel_rfl), trivial⟩, SP.sel hs117 [1] rfl rfl, H⟩
          · rintro ρ w137 ⟨v136, A134, c135, hk, hs138, H⟩
            unfold L_subwayref05_Put_k4 at H
            refine At.known [(4, (.slice A134 (List.length v136) c135))] hk ?_
            refine At.seq (by kernel_rfl) (p0 := [true, true, true, true, true, true, true, true, false]) (p1 := [true, true, true, true, true, true, true, true, true]) rfl rfl ?_
            refine At.region (by kernel_rfl) (by kernel_rfl) ?_
            refine In.run' 2 (k' := 2) rfl [(43, (.slice A134 (List.length v136) c135)), (2, (.slice A134 (List.length v136) c135))] (by kernel_rfl) ?_
            refine In.fin (by kernel_rfl) ?_
            refine At.ret (by kernel_rfl) ?_
            refine ⟨(.slice A134 (List.length v136) c135), by kernel_rfl, ?_⟩
            obtain rfl := some_elim H
            exact ⟨A134, c135, rfl, SP.sel hs138 [0] rfl rfl⟩
/-! L_subwayref05_Get -/
def L_subwayref05_Get_k5 (x13 : UInt8) (v69 : (List UInt8)) (v103 : (List UInt8)) (v137 : Int) (v171 : Int) (v185 : Bool) : Option (Int × (List UInt8) × (List UInt8) × Int × Int × Bool) :=
  (cond v185 (some (0, ([] : List UInt8), ([] : List UInt8), 0, 0, false)) (some ((IntKind.wrap .i64 ((x13).toNat : Int)), v69, v103, v137, v171, true)))
def L_subwayref05_Get_k4 (x13 : UInt8) (v69 : (List UInt8)) (v103 : (List UInt8)) (v137 : Int) (v171 : Int) (v175 : (List UInt8)) : Option (Int × (List UInt8) × (List UInt8) × Int × Int × Bool) :=
  (cond (decide (((List.length v175 : Nat) : Int) > 0)) (L_subwayref05_Get_k5 x13 v69 v103 v137 v171 true) ((L_subwayref05_Right (IntKind.wrap .i64 ((x13).toNat : Int)) v69 v103 v137 v171).bind fun z196 => (L_subwayref05_Get_k5 x13 v69 v103 v137 v171 (!z196))))
def L_subwayref05_Get_k3 (x13 : UInt8) (z29 : ((List UInt8))) (v69 : (List UInt8)) (v103 : (List UInt8)) (v137 : Int) (v141 : (List UInt8)) : Option (Int × (List UInt8) × (List UInt8) × Int × Int × Bool) :=
  ((L_subwayref05_of z29 (77 : UInt8)).bind fun z144 => (cond z144 ((L_subwayref01_Get v141).bind fun z203 => (cond (!z203.2.2) (some (0, ([] : List UInt8), ([] : List UInt8), 0, 0, false)) ((sub v141 z203.2.1 ((List.length v141 : Nat) : Int)).bind fun l219 => (L_subwayref05_Get_k4 x13 v69 v103 v137 z203.1 l219)))) (L_subwayref05_Get_k4 x13 v69 v103 v137 0 v141)))
def L_subwayref05_Get_k2 (x13 : UInt8) (z29 : ((List UInt8))) (v69 : (List UInt8)) (v103 : (List UInt8)) (v107 : (List UInt8)) : Option (Int × (List UInt8) × (List UInt8) × Int × Int × Bool) :=
  ((L_subwayref05_of z29 (78 : UInt8)).bind fun z110 => (cond z110 ((L_subwayref01_Get v107).bind fun z224 => (cond (!z224.2.2) (some (0, ([] : List UInt8), ([] : List UInt8), 0, 0, false)) ((sub v107 z224.2.1 ((List.length v107 : Nat) : Int)).bind fun l240 => (L_subwayref05_Get_k3 x13 z29 v69 v103 z224.1 l240)))) (L_subwayref05_Get_k3 x13 z29 v69 v103 0 v107)))
def L_subwayref05_Get_k1 (x13 : UInt8) (z29 : ((List UInt8))) (v69 : (List UInt8)) (v73 : (List UInt8)) : Option (Int × (List UInt8) × (List UInt8) × Int × Int × Bool) :=
  ((L_subwayref05_of z29 (66 : UInt8)).bind fun z76 => (cond z76 ((L_subwayref01_Read v73).bind fun z245 => (cond (!z245.2.2) (some (0, ([] : List UInt8), ([] : List UInt8), 0, 0, false)) ((sub v73 z245.2.1 ((List.length v73 : Nat) : Int)).bind fun l261 => (L_subwayref05_Get_k2 x13 z29 v69 z245.1 l261)))) (L_subwayref05_Get_k2 x13 z29 v69 ([] : List UInt8) v73)))
def L_subwayref05_Get (p1 : (List UInt8)) : Option (Int × (List UInt8) × (List UInt8) × Int × Int × Bool) :=
  (cond (((List.length p1 : Nat) : Int) == 0) (some (0, ([] : List UInt8), ([] : List UInt8), 0, 0, false)) ((idx p1 0).bind fun x13 => ((L_subwayref05_has (IntKind.wrap .i64 ((x13).toNat : Int))).bind fun z29 => ((sub p1 1 ((List.length p1 : Nat) : Int)).bind fun l38 => ((L_subwayref05_of z29 (65 : UInt8)).bind fun z42 => (cond z42 ((L_subwayref01_Read l38).bind fun z266 => (cond (!z266.2.2) (some (0, ([] : List UInt8), ([] : List UInt8), 0, 0, false)) ((sub l38 z266.2.1 ((List.length l38 : Nat) : Int)).bind fun l282 => (L_subwayref05_Get_k1 x13 z29 z266.1 l282)))) (L_subwayref05_Get_k1 x13 z29 ([] : List UInt8) l38)))))))
set_option maxRecDepth 100000 in
set_option maxHeartbeats 4000000 in
theorem L_subwayref05_Get_walk (A2 : Option Addr) (c3 : Nat) (p1 : (List UInt8)) (w0 : World) (hr4 : RdT eU8 w0 A2 c3 p1) (r : (Int × (List UInt8) × (List UInt8) × Int × Int × Bool)) (H : L_subwayref05_Get p1 = some r) :
    Calls Try.prog 12 #[(.slice A2 (List.length p1) c3)] w0 (fun e w' => e = .returned (.tuple #[(.agg #[(.int .i64 r.1), (.string ⟨List.toArray r.2.1⟩), (.string ⟨List.toArray r.2.2.1⟩), (.int .i64 r.2.2.2.1), (.int .i64 r.2.2.2.2.1)]), (.bool r.2.2.2.2.2)]) ∧ SP [] w0 w' []) := by
  unfold L_subwayref05_Get at H
  refine calls_start (n := 106) Try.func12 (by kernel_rfl) (by kernel_rfl) (by kernel_rfl) ?_
  have hs0 := SP.start [] w0
  refine At.seq (by kernel_rfl) (p0 := [false]) (p1 := [true]) rfl rfl ?_
  refine At.region (by kernel_rfl) (by kernel_rfl) ?_
  refine In.step (k' := 1) rfl (by kernel_rfl) ?_
  refine Step.alloc (t := 23) (z := (.agg #[(.int .i64 0), (.string ⟨List.toArray ([] : List UInt8)⟩), (.string ⟨List.toArray ([] : List UInt8)⟩), (.int .i64 0), (.int .i64 0)])) (d := (some 2)) (k := 0) (by kernel_rfl) rfl (by kernel_rfl) hs0 ?_
  intro g5 w6 hs7
  have hs8 : SP [] w0 w6 [boxE g5 23 #[(.int .i64 0), (.string ⟨List.toArray ([] : List UInt8)⟩), (.string ⟨List.toArray ([] : List UInt8)⟩), (.int .i64 0), (.int .i64 0)]] := hs7
  clear hs7
  refine In.run' 1 (k' := 2) rfl [(3, (.bool false))] (by kernel_rfl) ?_
  refine In.fin (by kernel_rfl) ?_
  refine At.seq (by kernel_rfl) (p0 := [true, false]) (p1 := [true, true]) rfl rfl ?_
  refine At.seq (by kernel_rfl) (p0 := [true, false, false]) (p1 := [true, false, true]) rfl rfl ?_
  refine At.region (by kernel_rfl) (by kernel_rfl) ?_
  refine In.run' 3 (k' := 3) rfl [(18, (.slice A2 (List.length p1) c3)), (19, (.int .i64 ((List.length p1 : Nat) : Int))), (20, (.bool (((List.length p1 : Nat) : Int) == 0)))] (by kernel_rfl) ?_
  refine In.fin (by kernel_rfl) ?_
  refine At.cond (by kernel_rfl) (o := (.tmp 20)) (by kernel_rfl) (b := (((List.length p1 : Nat) : Int) == 0)) (by kernel_rfl) (p0 := [true, false, true, false]) (p1 := [true, false, true, true]) rfl rfl (fun hb9 => ?_) (fun hb9 => ?_)
  · have H := ct H hb9
    refine At.seq (by kernel_rfl) (p0 := [true, false, true, false, false]) (p1 := [true, false, true, false, true]) rfl rfl ?_
    refine At.region (by kernel_rfl) (by kernel_rfl) ?_
    refine In.run' 1 (k' := 1) rfl [(21, (.agg #[(.int .i64 0), (.string ⟨List.toArray ([] : List UInt8)⟩), (.string ⟨List.toArray ([] : List UInt8)⟩), (.int .i64 0), (.int .i64 0)]))] (by kernel_rfl) ?_
    refine In.step (k' := 2) rfl (by kernel_rfl) ?_
    refine Step.store (t := 23) (x := (.tmp 2)) (y := (.tmp 21)) (g := g5) (off := 0) (i := 0) (v := (.agg #[(.int .i64 0), (.string ⟨List.toArray ([] : List UInt8)⟩), (.string ⟨List.toArray ([] : List UInt8)⟩), (.int .i64 0), (.int .i64 0)])) (cs' := #[(.int .i64 0), (.string ⟨List.toArray ([] : List UInt8)⟩), (.string ⟨List.toArray ([] : List UInt8)⟩), (.int .i64 0), (.int .i64 0)]) (d := none) (k := 1) (by kernel_rfl) rfl (by kernel_rfl) (by kernel_rfl) hs8 rfl (by kernel_rfl) ?_
    intro w10 hs11
    have hs12 : SP [] w0 w10 [boxE g5 23 #[(.int .i64 0), (.string ⟨List.toArray ([] : List UInt8)⟩), (.string ⟨List.toArray ([] : List UInt8)⟩), (.int .i64 0), (.int .i64 0)]] := hs11
    clear hs11
    refine In.run' 1 (k' := 3) rfl [(3, (.bool false))] (by kernel_rfl) ?_
    refine In.fin (by kernel_rfl) ?_
    refine At.ret (by kernel_rfl) ?_
    refine ⟨(.tuple #[(.agg #[(.int .i64 0), (.string ⟨List.toArray ([] : List UInt8)⟩), (.string ⟨List.toArray ([] : List UInt8)⟩), (.int .i64 0), (.int .i64 0)]), (.bool false)]), res_2 (by kernel_rfl) (rv_cell (a := 2) (t := 23) (g := g5) (off := 0) (by kernel_rfl) (SP.get hs12 (i := 0) rfl) (by kernel_rfl)) (rv_tmp (t := 3) (by kernel_rfl)), ?_⟩
    obtain rfl := some_elim H
    exact ⟨rfl, SP.sel hs12 [] rfl rfl⟩
  · have H := cf H hb9
    refine At.skip (by kernel_rfl) ?_
    refine At.seq (by kernel_rfl) (p0 := [true, true, false]) (p1 := [true, true, true]) rfl rfl ?_
    refine At.region (by kernel_rfl) (by kernel_rfl) ?_
    refine In.run' 1 (k' := 1) rfl [(22, (.slice A2 (List.length p1) c3))] (by kernel_rfl) ?_
    obtain ⟨x13, hp14, hq15, hx16, H⟩ := idx_elim H
    refine In.step (k' := 2) rfl (by kernel_rfl) ?_
    refine Step.elem (e := eU8) (l := p1) (A := A2) (c := c3) (T := 24) (E := 5) (x := (.tmp 22)) (ix := (.const (.int .i64 (0)))) (ki := .i64) (iz := 0) (d := (some 23)) (k := 1) (by kernel_rfl) rfl (by kernel_rfl) (by kernel_rfl) (by kernel_rfl) (by kernel_rfl) (RdT.sp hr4 hs8) hp14 hq15 ?_
    intro b17 o18 hA20 hb21 hc19
    refine In.step (k' := 3) rfl (by kernel_rfl) ?_
    refine Step.cell (t := 5) (x := (.tmp 23)) (b := b17) (off := (o18 + Int.toNat 0 * eU8.sz)) (v := (.int .u8 ((x13).toNat : Int))) (d := (some 24)) (k := 2) (by kernel_rfl) rfl (by kernel_rfl) (by kernel_rfl) (elem_cell (e := eU8) hc19 hx16 (j := 0) rfl) ?_
    refine In.run' 2 (k' := 5) rfl [(25, (.int .i64 (IntKind.wrap .i64 ((x13).toNat : Int)))), (26, (.agg #[(.int .i64 (IntKind.wrap .i64 ((x13).toNat : Int))), (.string ⟨List.toArray ([] : List UInt8)⟩), (.string ⟨List.toArray ([] : List UInt8)⟩), (.int .i64 0), (.int .i64 0)]))] (by kernel_rfl) ?_
    refine In.step (k' := 6) rfl (by kernel_rfl) ?_
    refine Step.alloc (t := 23) (z := (.agg #[(.int .i64 0), (.string ⟨List.toArray ([] : List UInt8)⟩), (.string ⟨List.toArray ([] : List UInt8)⟩), (.int .i64 0), (.int .i64 0)])) (d := (some 4)) (k := 5) (by kernel_rfl) rfl (by kernel_rfl) hs8 ?_
    intro g22 w23 hs24
    have hs25 : SP [] w0 w23 [boxE g5 23 #[(.int .i64 0), (.string ⟨List.toArray ([] : List UInt8)⟩), (.string ⟨List.toArray ([] : List UInt8)⟩), (.int .i64 0), (.int .i64 0)], boxE g22 23 #[(.int .i64 0), (.string ⟨List.toArray ([] : List UInt8)⟩), (.string ⟨List.toArray ([] : List UInt8)⟩), (.int .i64 0), (.int .i64 0)]] := hs24
    clear hs24
    refine In.step (k' := 7) rfl (by kernel_rfl) ?_
    refine Step.store (t := 23) (x := (.tmp 4)) (y := (.tmp 26)) (g := g22) (off := 0) (i := 1) (v := (.agg #[(.int .i64 (IntKind.wrap .i64 ((x13).toNat : Int))), (.string ⟨List.toArray ([] : List UInt8)⟩), (.string ⟨List.toArray ([] : List UInt8)⟩), (.int .i64 0), (.int .i64 0)])) (cs' := #[(.int .i64 (IntKind.wrap .i64 ((x13).toNat : Int))), (.string ⟨List.toArray ([] : List UInt8)⟩), (.string ⟨List.toArray ([] : List UInt8)⟩), (.int .i64 0), (.int .i64 0)]) (d := none) (k := 6) (by kernel_rfl) rfl (by kernel_rfl) (by kernel_rfl) hs25 rfl (by kernel_rfl) ?_
    intro w26 hs27
    have hs28 : SP [] w0 w26 [boxE g5 23 #[(.int .i64 0), (.string ⟨List.toArray ([] : List UInt8)⟩), (.string ⟨List.toArray ([] : List UInt8)⟩), (.int .i64 0), (.int .i64 0)], boxE g22 23 #[(.int .i64 (IntKind.wrap .i64 ((x13).toNat : Int))), (.string ⟨List.toArray ([] : List UInt8)⟩), (.string ⟨List.toArray ([] : List UInt8)⟩), (.int .i64 0), (.int .i64 0)]] := hs27
    clear hs27
    refine In.fin (by kernel_rfl) ?_
    refine At.seq (by kernel_rfl) (p0 := [true, true, true, false]) (p1 := [true, true, true, true]) rfl rfl ?_
    refine At.region (by kernel_rfl) (by kernel_rfl) ?_
    refine In.run' 1 (k' := 1) rfl [(27, (.pointer (some ⟨g22, 0, none⟩)))] (by kernel_rfl) ?_
    refine In.step (k' := 2) rfl (by kernel_rfl) ?_
    refine Step.load (t := 3) (x := (.tmp 27)) (g := g22) (off := 0) (i := 1) (v := (.int .i64 (IntKind.wrap .i64 ((x13).toNat : Int)))) (d := (some 28)) (k := 1) (by kernel_rfl) rfl (by kernel_rfl) hs28 rfl (by kernel_rfl) ?_
    obtain ⟨z29, hz30, H⟩ := bind_elim H
    refine In.step (k' := 3) rfl (by kernel_rfl) ?_
    refine Step.callF (f := 26) (fo := (.func 26)) (xs := #[(.tmp 28)]) (tys := #[3]) (first := #[]) (captured := #[]) (d := (some 29)) (k := 2) (by kernel_rfl) rfl (by kernel_rfl) (by kernel_rfl) Try.call26 (L_subwayref05_has_walk  (IntKind.wrap .i64 ((x13).toNat : Int)) w26  z29 hz30) ?_
    rintro e w31 ⟨rfl, hs32⟩
    refine ⟨_, rfl, ?_⟩
    have hs33 := SP.call hs28 hs32
    clear hs32
    have hs34 : SP [] w0 w31 [boxE g5 23 #[(.int .i64 0), (.string ⟨List.toArray ([] : List UInt8)⟩), (.string ⟨List.toArray ([] : List UInt8)⟩), (.int .i64 0), (.int .i64 0)], boxE g22 23 #[(.int .i64 (IntKind.wrap .i64 ((x13).toNat : Int))), (.string ⟨List.toArray ([] : List UInt8)⟩), (.string ⟨List.toArray ([] : List UInt8)⟩), (.int .i64 0), (.int .i64 0)]] := hs33
    clear hs33
    refine In.run' 1 (k' := 4) rfl [(5, (.string ⟨List.toArray z29⟩))] (by kernel_rfl) ?_
    refine In.fin (by kernel_rfl) ?_
    refine At.seq (by kernel_rfl) (p0 := [true, true, true, true, false]) (p1 := [true, true, true, true, true]) rfl rfl ?_
    refine At.region (by kernel_rfl) (by kernel_rfl) ?_
    refine In.run' 1 (k' := 1) rfl [(30, (.slice A2 (List.length p1) c3))] (by kernel_rfl) ?_
    obtain ⟨hz35, hz36, hz37, H⟩ := sub_elim H
    obtain ⟨l38, hyl38⟩ : ∃ y, (List.drop (Int.toNat 1) (List.take (Int.toNat ((List.length p1 : Nat) : Int)) p1)) = y := ⟨_, rfl⟩
    rw [hyl38] at H
    refine In.step (k' := 2) rfl (by kernel_rfl) ?_
    refine Step.slice (e := eU8) (l := p1) (A := A2) (c := c3) (T := 24) (E := 5) (x := (.tmp 30)) (lo := (some (.const (.int .i64 (1))))) (hi := none) (i := 1) (j := ((List.length p1 : Nat) : Int)) (d := (some 31)) (k := 1) (by kernel_rfl) rfl (by kernel_rfl) (by kernel_rfl) (by kernel_rfl) ⟨.i64, by kernel_rfl⟩ rfl (RdX.le (RdT.sp hr4 hs34)) hz35 hz36 hz37 ?_
    intro A39 c40 _ _ hcut41
    rw [hyl38] at hcut41 ⊢
    refine In.run' 1 (k' := 3) rfl [(0, (.slice A39 (List.length l38) c40))] (by kernel_rfl) ?_
    refine In.fin (by kernel_rfl) ?_
    refine At.seq (by kernel_rfl) (p0 := [true, true, true, true, true, false]) (p1 := [true, true, true, true, true, true]) rfl rfl ?_
    refine At.seq (by kernel_rfl) (p0 := [true, true, true, true, true, false, false]) (p1 := [true, true, true, true, true, false, true]) rfl rfl ?_
    refine At.region (by kernel_rfl) (by kernel_rfl) ?_
    refine In.run' 1 (k' := 1) rfl [(32, (.string ⟨List.toArray z29⟩))] (by kernel_rfl) ?_
    obtain ⟨z42, hz43, H⟩ := bind_elim H
    refine In.step (k' := 2) rfl (by kernel_rfl) ?_
    refine Step.callF (f := 27) (fo := (.func 27)) (xs := #[(.tmp 32), (.const (.int .u8 (65)))]) (tys := #[9, 5]) (first := #[]) (captured := #[]) (d := (some 33)) (k := 1) (by kernel_rfl) rfl (by kernel_rfl) (by kernel_rfl) Try.call27 (L_subwayref05_of_walk  z29 (65 : UInt8) w31  z42 hz43) ?_
    rintro e w44 ⟨rfl, hs45⟩
    refine ⟨_, rfl, ?_⟩
    have hs46 := SP.call hs34 hs45
    clear hs45
    have hs47 : SP [] w0 w44 [boxE g5 23 #[(.int .i64 0), (.string ⟨List.toArray ([] : List UInt8)⟩), (.string ⟨List.toArray ([] : List UInt8)⟩), (.int .i64 0), (.int .i64 0)], boxE g22 23 #[(.int .i64 (IntKind.wrap .i64 ((x13).toNat : Int))), (.string ⟨List.toArray ([] : List UInt8)⟩), (.string ⟨List.toArray ([] : List UInt8)⟩), (.int .i64 0), (.int .i64 0)]] := hs46
    clear hs46
    refine In.fin (by kernel_rfl) ?_
    refine At.join (fun ρ w => ∃ (v69 : (List UInt8)) (v73 : (List UInt8)) (A70 : Option Addr) (c71 : Nat), Known ρ [(0, (.slice A70 (List.length v73) c71)), (2, (.pointer (some ⟨g5, 0, none⟩))), (4, (.pointer (some ⟨g22, 0, none⟩))), (5, (.string ⟨List.toArray z29⟩))] ∧ SP [] w0 w [boxE g5 23 #[(.int .i64 0), (.string ⟨List.toArray ([] : List UInt8)⟩), (.string ⟨List.toArray ([] : List UInt8)⟩), (.int .i64 0), (.int .i64 0)], boxE g22 23 #[(.int .i64 (IntKind.wrap .i64 ((x13).toNat : Int))), (.string ⟨List.toArray v69⟩), (.string ⟨List.toArray ([] : List UInt8)⟩), (.int .i64 0), (.int .i64 0)]] ∧ RdT eU8 w0 A70 c71 v73 ∧ L_subwayref05_Get_k1 x13 z29 v69 v73 = some r) ?_ ?_
    · refine At.cond (by kernel_rfl) (o := (.tmp 33)) (by kernel_rfl) (b := z42) (by kernel_rfl) (p0 := [true, true, true, true, true, false, true, false]) (p1 := [true, true, true, true, true, false, true, true]) rfl rfl (fun hb265 => ?_) (fun hb265 => ?_)
      · have H := ct H hb265
        refine At.seq (by kernel_rfl) (p0 := [true, true, true, true, true, false, true, false, false]) (p1 := [true, true, true, true, true, false, true, false, true]) rfl rfl ?_
        refine At.region (by kernel_rfl) (by kernel_rfl) ?_
        refine In.run' 1 (k' := 1) rfl [(35, (.slice A39 (List.length l38) c40))] (by kernel_rfl) ?_
        obtain ⟨z266, hz267, H⟩ := bind_elim H
        refine In.step (k' := 2) rfl (by kernel_rfl) ?_
        refine Step.callF (f := 28) (fo := (.func 28)) (xs := #[(.tmp 35)]) (tys := #[24]) (first := #[]) (captured := #[]) (d := (some 36)) (k := 1) (by kernel_rfl) rfl (by kernel_rfl) (by kernel_rfl) Try.call28 (L_subwayref01_Read_walk A39 c40 l38 w44 (hcut41 w44 (RdT.sp hr4 hs47)) z266 hz267) ?_
        rintro e w268 ⟨rfl, hs269⟩
        refine ⟨_, rfl, ?_⟩
        have hs270 := SP.call hs47 hs269
        clear hs269
        have hs271 : SP [] w0 w268 [boxE g5 23 #[(.int .i64 0), (.string ⟨List.toArray ([] : List UInt8)⟩), (.string ⟨List.toArray ([] : List UInt8)⟩), (.int .i64 0), (.int .i64 0)], boxE g22 23 #[(.int .i64 (IntKind.wrap .i64 ((x13).toNat : Int))), (.string ⟨List.toArray ([] : List UInt8)⟩), (.string ⟨List.toArray ([] : List UInt8)⟩), (.int .i64 0), (.int .i64 0)]] := hs270
        clear hs270
        refine In.run' 7 (k' := 9) rfl [(34, (.tuple #[(.string ⟨List.toArray z266.1⟩), (.int .i64 z266.2.1), (.bool z266.2.2)])), (37, (.string ⟨List.toArray z266.1⟩)), (38, (.int .i64 z266.2.1)), (39, (.bool z266.2.2)), (6, (.string ⟨List.toArray z266.1⟩)), (7, (.int .i64 z266.2.1)), (8, (.bool z266.2.2))] (by kernel_rfl) ?_
        refine In.fin (by kernel_rfl) ?_
        refine At.seq (by kernel_rfl) (p0 := [true, true, true, true, true, false, true, false, true, false]) (p1 := [true, true, true, true, true, false, true, false, true, true]) rfl rfl ?_
        refine At.seq (by kernel_rfl) (p0 := [true, true, true, true, true, false, true, false, true, false, false]) (p1 := [true, true, true, true, true, false, true, false, true, false, true]) rfl rfl ?_
        refine At.region (by kernel_rfl) (by kernel_rfl) ?_
        refine In.run' 2 (k' := 2) rfl [(40, (.bool z266.2.2)), (41, (.bool (!z266.2.2)))] (by kernel_rfl) ?_
        refine In.fin (by kernel_rfl) ?_
        refine At.cond (by kernel_rfl) (o := (.tmp 41)) (by kernel_rfl) (b := (!z266.2.2)) (by kernel_rfl) (p0 := [true, true, true, true, true, false, true, false, true, false, true, false]) (p1 := [true, true, true, true, true, false, true, false, true, false, true, true]) rfl rfl (fun hb272 => ?_) (fun hb272 => ?_)
        · have H := ct H hb272
          refine At.seq (by kernel_rfl) (p0 := [true, true, true, true, true, false, true, false, true, false, true, false, false]) (p1 := [true, true, true, true, true, false, true, false, true, false, true, false, true]) rfl rfl ?_
          refine At.region (by kernel_rfl) (by kernel_rfl) ?_
          refine In.run' 1 (k' := 1) rfl [(42, (.agg #[(.int .i64 0), (.string ⟨List.toArray ([] : List UInt8)⟩), (.string ⟨List.toArray ([] : List UInt8)⟩), (.int .i64 0), (.int .i64 0)]))] (by kernel_rfl) ?_
          refine In.step (k' := 2) rfl (by kernel_rfl) ?_
          refine Step.store (t := 23) (x := (.tmp 2)) (y := (.tmp 42)) (g := g5) (off := 0) (i := 0) (v := (.agg #[(.int .i64 0), (.string ⟨List.toArray ([] : List UInt8)⟩), (.string ⟨List.toArray ([] : List UInt8)⟩), (.int .i64 0), (.int .i64 0)])) (cs' := #[(.int .i64 0), (.string ⟨List.toArray ([] : List UInt8)⟩), (.string ⟨List.toArray ([] : List UInt8)⟩), (.int .i64 0), (.int .i64 0)]) (d := none) (k := 1) (by kernel_rfl) rfl (by kernel_rfl) (by kernel_rfl) hs271 rfl (by kernel_rfl) ?_
          intro w273 hs274
          have hs275 : SP [] w0 w273 [boxE g5 23 #[(.int .i64 0), (.string ⟨List.toArray ([] : List UInt8)⟩), (.string ⟨List.toArray ([] : List UInt8)⟩), (.int .i64 0), (.int .i64 0)], boxE g22 23 #[(.int .i64 (IntKind.wrap .i64 ((x13).toNat : Int))), (.string ⟨List.toArray ([] : List UInt8)⟩), (.string ⟨List.toArray ([] : List UInt8)⟩), (.int .i64 0), (.int .i64 0)]] := hs274
          clear hs274
          refine In.run' 1 (k' := 3) rfl [(3, (.bool false))] (by kernel_rfl) ?_
          refine In.fin (by kernel_rfl) ?_
          refine At.ret (by kernel_rfl) ?_
          refine ⟨(.tuple #[(.agg #[(.int .i64 0), (.string ⟨List.toArray ([] : List UInt8)⟩), (.string ⟨List.toArray ([] : List UInt8)⟩), (.int .i64 0), (.int .i64 0)]), (.bool false)]), res_2 (by kernel_rfl) (rv_cell (a := 2) (t := 23) (g := g5) (off := 0) (by kernel_rfl) (SP.get hs275 (i := 0) rfl) (by kernel_rfl)) (rv_tmp (t := 3) (by kernel_rfl)), ?_⟩
          obtain rfl := some_elim H
          exact ⟨rfl, SP.sel hs275 [] rfl rfl⟩
        · have H := cf H hb272
          refine At.skip (by kernel_rfl) ?_
          refine At.seq (by kernel_rfl) (p0 := [true, true, true, true, true, false, true, false, true, true, false]) (p1 := [true, true, true, true, true, false, true, false, true, true, true]) rfl rfl ?_
          refine At.region (by kernel_rfl) (by kernel_rfl) ?_
          refine In.run' 2 (k' := 2) rfl [(43, (.string ⟨List.toArray z266.1⟩)), (44, (.pointer (some ⟨g22, 1, none⟩)))] (by kernel_rfl) ?_
          refine In.step (k' := 3) rfl (by kernel_rfl) ?_
          refine Step.store (t := 9) (x := (.tmp 44)) (y := (.tmp 43)) (g := g22) (off := 1) (i := 1) (v := (.string ⟨List.toArray z266.1⟩)) (cs' := #[(.int .i64 (IntKind.wrap .i64 ((x13).toNat : Int))), (.string ⟨List.toArray z266.1⟩), (.string ⟨List.toArray ([] : List UInt8)⟩), (.int .i64 0), (.int .i64 0)]) (d := none) (k := 2) (by kernel_rfl) rfl (by kernel_rfl) (by kernel_rfl) hs271 rfl (by kernel_rfl) ?_
          intro w276 hs277
          have hs278 : SP [] w0 w276 [boxE g5 23 #[(.int .i64 0), (.string ⟨List.toArray ([] : List UInt8)⟩), (.string ⟨List.toArray ([] : List UInt8)⟩), (.int .i64 0), (.int .i64 0)], boxE g22 23 #[(.int .i64 (IntKind.wrap .i64 ((x13).toNat : Int))), (.string ⟨List.toArray z266.1⟩), (.string ⟨List.toArray ([] : List UInt8)⟩), (.int .i64 0), (.int .i64 0)]] := hs277
          clear hs277
          refine In.fin (by kernel_rfl) ?_
          refine At.region (by kernel_rfl) (by kernel_rfl) ?_
          refine In.run' 2 (k' := 2) rfl [(45, (.slice A39 (List.length l38) c40)), (46, (.int .i64 z266.2.1))] (by kernel_rfl) ?_
          obtain ⟨hz279, hz280, hz281, H⟩ := sub_elim H
          obtain ⟨l282, hyl282⟩ : ∃ y, (List.drop (Int.toNat z266.2.1) (List.take (Int.toNat ((List.length l38 : Nat) : Int)) l38)) = y := ⟨_, rfl⟩
          rw [hyl282] at H
          refine In.step (k' := 3) rfl (by kernel_rfl) ?_
          refine Step.slice (e := eU8) (l := l38) (A := A39) (c := c40) (T := 24) (E := 5) (x := (.tmp 45)) (lo := (some (.tmp 46))) (hi := none) (i := z266.2.1) (j := ((List.length l38 : Nat) : Int)) (d := (some 47)) (k := 2) (by kernel_rfl) rfl (by kernel_rfl) (by kernel_rfl) (by kernel_rfl) ⟨.i64, by kernel_rfl⟩ rfl (RdX.le (hcut41 w276 (RdT.sp hr4 hs278))) hz279 hz280 hz281 ?_
          intro A283 c284 _ _ hcut285
          rw [hyl282] at hcut285 ⊢
          refine In.run' 1 (k' := 4) rfl [(0, (.slice A283 (List.length l282) c284))] (by kernel_rfl) ?_
          refine In.fin (by kernel_rfl) ?_
          exact ⟨z266.1, l282, A283, c284, ⟨(by kernel_rfl), (by kernel_rfl), (by kernel_rfl), (by kernel_rfl), trivial⟩, SP.sel hs278 [0, 1] rfl rfl, (hcut285 w0 (hcut41 w0 hr4)), H⟩
      · have H := cf H hb265
        refine At.skip (by kernel_rfl) ?_
        exact ⟨([] : List UInt8), l38, A39, c40, ⟨(by kernel_rfl), (by kernel_rfl), (by kernel_rfl), (by kernel_rfl), trivial⟩, SP.sel hs47 [0, 1] rfl rfl, (hcut41 w0 hr4), H⟩
    · rintro ρ w74 ⟨v69, v73, A70, c71, hk, hs75, hr72, H⟩
      unfold L_subwayref05_Get_k1 at H
      refine At.known [(0, (.slice A70 (List.length v73) c71)), (2, (.pointer (some ⟨g5, 0, none⟩))), (4, (.pointer (some ⟨g22, 0, none⟩))), (5, (.string ⟨List.toArray z29⟩))] hk ?_
      refine At.seq (by kernel_rfl) (p0 := [true, true, true, true, true, true, false]) (p1 := [true, true, true, true, true, true, true]) rfl rfl ?_
      refine At.seq (by kernel_rfl) (p0 := [true, true, true, true, true, true, false, false]) (p1 := [true, true, true, true, true, true, false, true]) rfl rfl ?_
      refine At.region (by kernel_rfl) (by kernel_rfl) ?_
      refine In.run' 1 (k' := 1) rfl [(48, (.string ⟨List.toArray z29⟩))] (by kernel_rfl) ?_
      obtain ⟨z76, hz77, H⟩ := bind_elim H
      refine In.step (k' := 2) rfl (by kernel_rfl) ?_
      refine Step.callF (f := 27) (fo := (.func 27)) (xs := #[(.tmp 48), (.const (.int .u8 (66)))]) (tys := #[9, 5]) (first := #[]) (captured := #[]) (d := (some 49)) (k := 1) (by kernel_rfl) rfl (by kernel_rfl) (by kernel_rfl) Try.call27 (L_subwayref05_of_walk  z29 (66 : UInt8) w74  z76 hz77) ?_
      rintro e w78 ⟨rfl, hs79⟩
      refine ⟨_, rfl, ?_⟩
      have hs80 := SP.call hs75 hs79
      clear hs79
      have hs81 : SP [] w0 w78 [boxE g5 23 #[(.int .i64 0), (.string ⟨List.toArray ([] : List UInt8)⟩), (.string ⟨List.toArray ([] : List UInt8)⟩), (.int .i64 0), (.int .i64 0)], boxE g22 23 #[(.int .i64 (IntKind.wrap .i64 ((x13).toNat : Int))), (.string ⟨List.toArray v69⟩), (.string ⟨List.toArray ([] : List UInt8)⟩), (.int .i64 0), (.int .i64 0)]] := hs80
      clear hs80
      refine In.fin (by kernel_rfl) ?_
      refine At.join (fun ρ w => ∃ (v103 : (List UInt8)) (v107 : (List UInt8)) (A104 : Option Addr) (c105 : Nat), Known ρ [(0, (.slice A104 (List.length v107) c105)), (2, (.pointer (some ⟨g5, 0, none⟩))), (4, (.pointer (some ⟨g22, 0, none⟩))), (5, (.string ⟨List.toArray z29⟩))] ∧ SP [] w0 w [boxE g5 23 #[(.int .i64 0), (.string ⟨List.toArray ([] : List UInt8)⟩), (.string ⟨List.toArray ([] : List UInt8)⟩), (.int .i64 0), (.int .i64 0)], boxE g22 23 #[(.int .i64 (IntKind.wrap .i64 ((x13).toNat : Int))), (.string ⟨List.toArray v69⟩), (.string ⟨List.toArray v103⟩), (.int .i64 0), (.int .i64 0)]] ∧ RdT eU8 w0 A104 c105 v107 ∧ L_subwayref05_Get_k2 x13 z29 v69 v103 v107 = some r) ?_ ?_
      · refine At.cond (by kernel_rfl) (o := (.tmp 49)) (by kernel_rfl) (b := z76) (by kernel_rfl) (p0 := [true, true, true, true, true, true, false, true, false]) (p1 := [true, true, true, true, true, true, false, true, true]) rfl rfl (fun hb244 => ?_) (fun hb244 => ?_)
        · have H := ct H hb244
          refine At.seq (by kernel_rfl) (p0 := [true, true, true, true, true, true, false, true, false, false]) (p1 := [true, true, true, true, true, true, false, true, false, true]) rfl rfl ?_
          refine At.region (by kernel_rfl) (by kernel_rfl) ?_
          refine In.run' 1 (k' := 1) rfl [(51, (.slice A70 (List.length v73) c71))] (by kernel_rfl) ?_
          obtain ⟨z245, hz246, H⟩ := bind_elim H
          refine In.step (k' := 2) rfl (by kernel_rfl) ?_
          refine Step.callF (f := 28) (fo := (.func 28)) (xs := #[(.tmp 51)]) (tys := #[24]) (first := #[]) (captured := #[]) (d := (some 52)) (k := 1) (by kernel_rfl) rfl (by kernel_rfl) (by kernel_rfl) Try.call28 (L_subwayref01_Read_walk A70 c71 v73 w78 (RdT.sp hr72 hs81) z245 hz246) ?_
          rintro e w247 ⟨rfl, hs248⟩
          refine ⟨_, rfl, ?_⟩
          have hs249 := SP.call hs81 hs248
          clear hs248
          have hs250 : SP [] w0 w247 [boxE g5 23 #[(.int .i64 0), (.string ⟨List.toArray ([] : List UInt8)⟩), (.string ⟨List.toArray ([] : List UInt8)⟩), (.int .i64 0), (.int .i64 0)], boxE g22 23 #[(.int .i64 (IntKind.wrap .i64 ((x13).toNat : Int))), (.string ⟨List.toArray v69⟩), (.string ⟨List.toArray ([] : List UInt8)⟩), (.int .i64 0), (.int .i64 0)]] := hs249
          clear hs249
          refine In.run' 7 (k' := 9) rfl [(50, (.tuple #[(.string ⟨List.toArray z245.1⟩), (.int .i64 z245.2.1), (.bool z245.2.2)])), (53, (.string ⟨List.toArray z245.1⟩)), (54, (.int .i64 z245.2.1)), (55, (.bool z245.2.2)), (9, (.string ⟨List.toArray z245.1⟩)), (10, (.int .i64 z245.2.1)), (11, (.bool z245.2.2))] (by kernel_rfl) ?_
          refine In.fin (by kernel_rfl) ?_
          refine At.seq (by kernel_rfl) (p0 := [true, true, true, true, true, true, false, true, false, true, false]) (p1 := [true, true, true, true, true, true, false, true, false, true, true]) rfl rfl ?_
          refine At.seq (by kernel_rfl) (p0 := [true, true, true, true, true, true, false, true, false, true, false, false]) (p1 := [true, true, true, true, true, true, false, true, false, true, false, true]) rfl rfl ?_
          refine At.region (by kernel_rfl) (by kernel_rfl) ?_
          refine In.run' 2 (k' := 2) rfl [(56, (.bool z245.2.2)), (57, (.bool (!z245.2.2)))] (by kernel_rfl) ?_
          refine In.fin (by kernel_rfl) ?_
          refine At.cond (by kernel_rfl) (o := (.tmp 57)) (by kernel_rfl) (b := (!z245.2.2)) (by kernel_rfl) (p0 := [true, true, true, true, true, true, false, true, false, true, false, true, false]) (p1 := [true, true, true, true, true, true, false, true, false, true, false, true, true]) rfl rfl (fun hb251 => ?_) (fun hb251 => ?_)
          · have H := ct H hb251
            refine At.seq (by kernel_rfl) (p0 := [true, true, true, true, true, true, false, true, false, true, false, true, false, false]) (p1 := [true, true, true, true, true, true, false, true, false, true, false, true, false, true]) rfl rfl ?_
            refine At.region (by kernel_rfl) (by kernel_rfl) ?_
            refine In.run' 1 (k' := 1) rfl [(58, (.agg #[(.int .i64 0), (.string ⟨List.toArray ([] : List UInt8)⟩), (.string ⟨List.toArray ([] : List UInt8)⟩), (.int .i64 0), (.int .i64 0)]))] (by kernel_rfl) ?_
            refine In.step (k' := 2) rfl (by kernel_rfl) ?_
            refine Step.store (t := 23) (x := (.tmp 2)) (y := (.tmp 58)) (g := g5) (off := 0) (i := 0) (v := (.agg #[(.int .i64 0), (.string ⟨List.toArray ([] : List UInt8)⟩), (.string ⟨List.toArray ([] : List UInt8)⟩), (.int .i64 0), (.int .i64 0)])) (cs' := #[(.int .i64 0), (.string ⟨List.toArray ([] : List UInt8)⟩), (.string ⟨List.toArray ([] : List UInt8)⟩), (.int .i64 0), (.int .i64 0)]) (d := none) (k := 1) (by kernel_rfl) rfl (by kernel_rfl) (by kernel_rfl) hs250 rfl (by kernel_rfl) ?_
            intro w252 hs253
            have hs254 : SP [] w0 w252 [boxE g5 23 #[(.int .i64 0), (.string ⟨List.toArray ([] : List UInt8)⟩), (.string ⟨List.toArray ([] : List UInt8)⟩), (.int .i64 0), (.int .i64 0)], boxE g22 23 #[(.int .i64 (IntKind.wrap .i64 ((x13).toNat : Int))), (.string ⟨List.toArray v69⟩), (.string ⟨List.toArray ([] : List UInt8)⟩), (.int .i64 0), (.int .i64 0)]] := hs253
            clear hs253
            refine In.run' 1 (k' := 3) rfl [(3, (.bool false))] (by kernel_rfl) ?_
            refine In.fin (by kernel_rfl) ?_
            refine At.ret (by kernel_rfl) ?_
            refine ⟨(.tuple #[(.agg #[(.int .i64 0), (.string ⟨List.toArray ([] : List UInt8)⟩), (.string ⟨List.toArray ([] : List UInt8)⟩), (.int .i64 0), (.int .i64 0)]), (.bool false)]), res_2 (by kernel_rfl) (rv_cell (a := 2) (t := 23) (g := g5) (off := 0) (by kernel_rfl) (SP.get hs254 (i := 0) rfl) (by kernel_rfl)) (rv_tmp (t := 3) (by kernel_rfl)), ?_⟩
            obtain rfl := some_elim H
            exact ⟨rfl, SP.sel hs254 [] rfl rfl⟩
          · have H := cf H hb251
            refine At.skip (by kernel_rfl) ?_
            refine At.seq (by kernel_rfl) (p0 := [true, true, true, true, true, true, false, true, false, true, true, false]) (p1 := [true, true, true, true, true, true, false, true, false, true, true, true]) rfl rfl ?_
            refine At.region (by kernel_rfl) (by kernel_rfl) ?_
            refine In.run' 2 (k' := 2) rfl [(59, (.string ⟨List.toArray z245.1⟩)), (60, (.pointer (some ⟨g22, 2, none⟩)))] (by kernel_rfl) ?_
            refine In.step (k' := 3) rfl (by kernel_rfl) ?_
            refine Step.store (t := 9) (x := (.tmp 60)) (y := (.tmp 59)) (g := g22) (off := 2) (i := 1) (v := (.string ⟨List.toArray z245.1⟩)) (cs' := #[(.int .i64 (IntKind.wrap .i64 ((x13).toNat : Int))), (.string ⟨List.toArray v69⟩), (.string ⟨List.toArray z245.1⟩), (.int .i64 0), (.int .i64 0)]) (d := none) (k := 2) (by kernel_rfl) rfl (by kernel_rfl) (by kernel_rfl) hs250 rfl (by kernel_rfl) ?_
            intro w255 hs256
            have hs257 : SP [] w0 w255 [boxE g5 23 #[(.int .i64 0), (.string ⟨List.toArray ([] : List UInt8)⟩), (.string ⟨List.toArray ([] : List UInt8)⟩), (.int .i64 0), (.int .i64 0)], boxE g22 23 #[(.int .i64 (IntKind.wrap .i64 ((x13).toNat : Int))), (.string ⟨List.toArray v69⟩), (.string ⟨List.toArray z245.1⟩), (.int .i64 0), (.int .i64 0)]] := hs256
            clear hs256
            refine In.fin (by kernel_rfl) ?_
            refine At.region (by kernel_rfl) (by kernel_rfl) ?_
            refine In.run' 2 (k' := 2) rfl [(61, (.slice A70 (List.length v73) c71)), (62, (.int .i64 z245.2.1))] (by kernel_rfl) ?_
            obtain ⟨hz258, hz259, hz260, H⟩ := sub_elim H
            obtain ⟨l261, hyl261⟩ : ∃ y, (List.drop (Int.toNat z245.2.1) (List.take (Int.toNat ((List.length v73 : Nat) : Int)) v73)) = y := ⟨_, rfl⟩
            rw [hyl261] at H
            refine In.step (k' := 3) rfl (by kernel_rfl) ?_
            refine Step.slice (e := eU8) (l := v73) (A := A70) (c := c71) (T := 24) (E := 5) (x := (.tmp 61)) (lo := (some (.tmp 62))) (hi := none) (i := z245.2.1) (j := ((List.length v73 : Nat) : Int)) (d := (some 63)) (k := 2) (by kernel_rfl) rfl (by kernel_rfl) (by kernel_rfl) (by kernel_rfl) ⟨.i64, by kernel_rfl⟩ rfl (RdX.le (RdT.sp hr72 hs257)) hz258 hz259 hz260 ?_
            intro A262 c263 _ _ hcut264
            rw [hyl261] at hcut264 ⊢
            refine In.run' 1 (k' := 4) rfl [(0, (.slice A262 (List.length l261) c263))] (by kernel_rfl) ?_
            refine In.fin (by kernel_rfl) ?_
            exact ⟨z245.1, l261, A262, c263, ⟨(by kernel_rfl), (by kernel_rfl), (by kernel_rfl), (by kernel_rfl), trivial⟩, SP.sel hs257 [0, 1] rfl rfl, (hcut264 w0 hr72), H⟩
        · have H := cf H hb244
          refine At.skip (by kernel_rfl) ?_
          exact ⟨([] : List UInt8), v73, A70, c71, ⟨(by kernel_rfl), (by kernel_rfl), (by kernel_rfl), (by kernel_rfl), trivial⟩, SP.sel hs81 [0, 1] rfl rfl, hr72, H⟩
      · rintro ρ w108 ⟨v103, v107, A104, c105, hk, hs109, hr106, H⟩
        unfold L_subwayref05_Get_k2 at H
        refine At.known [(0, (.slice A104 (List.length v107) c105)), (2, (.pointer (some ⟨g5, 0, none⟩))), (4, (.pointer (some ⟨g22, 0, none⟩))), (5, (.string ⟨List.toArray z29⟩))] hk ?_
        refine At.seq (by kernel_rfl) (p0 := [true, true, true, true, true, true, true, false]) (p1 := [true, true, true, true, true, true, true, true]) rfl rfl ?_
        refine At.seq (by kernel_rfl) (p0 := [true, true, true, true, true, true, true, false, false]) (p1 := [true, true, true, true, true, true, true, false, true]) rfl rfl ?_
        refine At.region (by kernel_rfl) (by kernel_rfl) ?_
        refine In.run' 1 (k' := 1) rfl [(64, (.string ⟨List.toArray z29⟩))] (by kernel_rfl) ?_
        obtain ⟨z110, hz111, H⟩ := bind_elim H
        refine In.step (k' := 2) rfl (by kernel_rfl) ?_
        refine Step.callF (f := 27) (fo := (.func 27)) (xs := #[(.tmp 64), (.const (.int .u8 (78)))]) (tys := #[9, 5]) (first := #[]) (captured := #[]) (d := (some 65)) (k := 1) (by kernel_rfl) rfl (by kernel_rfl) (by kernel_rfl) Try.call27 (L_subwayref05_of_walk  z29 (78 : UInt8) w108  z110 hz111) ?_
        rintro e w112 ⟨rfl, hs113⟩
        refine ⟨_, rfl, ?_⟩
        have hs114 := SP.call hs109 hs113
        clear hs113
        have hs115 : SP [] w0 w112 [boxE g5 23 #[(.int .i64 0), (.string ⟨List.toArray ([] : List UInt8)⟩), (.string ⟨List.toArray ([] : List UInt8)⟩), (.int .i64 0), (.int .i64 0)], boxE g22 23 #[(.int .i64 (IntKind.wrap .i64 ((x13).toNat : Int))), (.string ⟨List.toArray v69⟩), (.string ⟨List.toArray v103⟩), (.int .i64 0), (.int .i64 0)]] := hs114
        clear hs114
        refine In.fin (by kernel_rfl) ?_
        refine At.join (fun ρ w => ∃ (v137 : Int) (v141 : (List UInt8)) (A138 : Option Addr) (c139 : Nat), Known ρ [(0, (.slice A138 (List.length v141) c139)), (2, (.pointer (some ⟨g5, 0, none⟩))), (4, (.pointer (some ⟨g22, 0, none⟩))), (5, (.string ⟨List.toArray z29⟩))] ∧ SP [] w0 w [boxE g5 23 #[(.int .i64 0), (.string ⟨List.toArray ([] : List UInt8)⟩), (.string ⟨List.toArray ([] : List UInt8)⟩), (.int .i64 0), (.int .i64 0)], boxE g22 23 #[(.int .i64 (IntKind.wrap .i64 ((x13).toNat : Int))), (.string ⟨List.toArray v69⟩), (.string ⟨List.toArray v103⟩), (.int .i64 v137), (.int .i64 0)]] ∧ RdT eU8 w0 A138 c139 v141 ∧ L_subwayref05_Get_k3 x13 z29 v69 v103 v137 v141 = some r) ?_ ?_
        · refine At.cond (by kernel_rfl) (o := (.tmp 65)) (by kernel_rfl) (b := z110) (by kernel_rfl) (p0 := [true, true, true, true, true, true, true, false, true, false]) (p1 := [true, true, true, true, true, true, true, false, true, true]) rfl rfl (fun hb223 => ?_) (fun hb223 => ?_)
          · have H := ct H hb223
            refine At.seq (by kernel_rfl) (p0 := [true, true, true, true, true, true, true, false, true, false, false]) (p1 := [true, true, true, true, true, true, true, false, true, false, true]) rfl rfl ?_
            refine At.region (by kernel_rfl) (by kernel_rfl) ?_
            refine In.run' 1 (k' := 1) rfl [(67, (.slice A104 (List.length v107) c105))] (by kernel_rfl) ?_
            obtain ⟨z224, hz225, H⟩ := bind_elim H
            refine In.step (k' := 2) rfl (by kernel_rfl) ?_
            refine Step.callF (f := 29) (fo := (.func 29)) (xs := #[(.tmp 67)]) (tys := #[24]) (first := #[]) (captured := #[]) (d := (some 68)) (k := 1) (by kernel_rfl) rfl (by kernel_rfl) (by kernel_rfl) Try.call29 (L_subwayref01_Get_walk A104 c105 v107 w112 (RdT.sp hr106 hs115) z224 hz225) ?_
            rintro e w226 ⟨rfl, hs227⟩
            refine ⟨_, rfl, ?_⟩
            have hs228 := SP.call hs115 hs227
            clear hs227
            have hs229 : SP [] w0 w226 [boxE g5 23 #[(.int .i64 0), (.string ⟨List.toArray ([] : List UInt8)⟩), (.string ⟨List.toArray ([] : List UInt8)⟩), (.int .i64 0), (.int .i64 0)], boxE g22 23 #[(.int .i64 (IntKind.wrap .i64 ((x13).toNat : Int))), (.string ⟨List.toArray v69⟩), (.string ⟨List.toArray v103⟩), (.int .i64 0), (.int .i64 0)]] := hs228
            clear hs228
            refine In.run' 7 (k' := 9) rfl [(66, (.tuple #[(.int .i64 z224.1), (.int .i64 z224.2.1), (.bool z224.2.2)])), (69, (.int .i64 z224.1)), (70, (.int .i64 z224.2.1)), (71, (.bool z224.2.2)), (12, (.int .i64 z224.1)), (13, (.int .i64 z224.2.1)), (14, (.bool z224.2.2))] (by kernel_rfl) ?_
            refine In.fin (by kernel_rfl) ?_
            refine At.seq (by kernel_rfl) (p0 := [true, true, true, true, true, true, true, false, true, false, true, false]) (p1 := [true, true, true, true, true, true, true, false, true, false, true, true]) rfl rfl ?_
            refine At.seq (by kernel_rfl) (p0 := [true, true, true, true, true, true, true, false, true, false, true, false, false]) (p1 := [true, true, true, true, true, true, true, false, true, false, true, false, true]) rfl rfl ?_
            refine At.region (by kernel_rfl) (by kernel_rfl) ?_
            refine In.run' 2 (k' := 2) rfl [(72, (.bool z224.2.2)), (73, (.bool (!z224.2.2)))] (by kernel_rfl) ?_
            refine In.fin (by kernel_rfl) ?_
            refine At.cond (by kernel_rfl) (o := (.tmp 73)) (by kernel_rfl) (b := (!z224.2.2)) (by kernel_rfl) (p0 := [true, true, true, true, true, true, true, false, true, false, true, false, true, false]) (p1 := [true, true, true, true, true, true, true, false, true, false, true, false, true, true]) rfl rfl (fun hb230 => ?_) (fun hb230 => ?_)
            · have H := ct H hb230
              refine At.seq (by kernel_rfl) (p0 := [true, true, true, true, true, true, true, false, true, false, true, false, true, false, false]) (p1 := [true, true, true, true, true, true, true, false, true, false, true, false, true, false, true]) rfl rfl ?_
              refine At.region (by kernel_rfl) (by kernel_rfl) ?_
              refine In.run' 1 (k' := 1) rfl [(74, (.agg #[(.int .i64 0), (.string ⟨List.toArray ([] : List UInt8)⟩), (.string ⟨List.toArray ([] : List UInt8)⟩), (.int .i64 0), (.int .i64 0)]))] (by kernel_rfl) ?_
              refine In.step (k' := 2) rfl (by kernel_rfl) ?_
              refine Step.store (t := 23) (x := (.tmp 2)) (y := (.tmp 74)) (g := g5) (off := 0) (i := 0) (v := (.agg #[(.int .i64 0), (.string ⟨List.toArray ([] : List UInt8)⟩), (.string ⟨List.toArray ([] : List UInt8)⟩), (.int .i64 0), (.int .i64 0)])) (cs' := #[(.int .i64 0), (.string ⟨List.toArray ([] : List UInt8)⟩), (.string ⟨List.toArray ([] : List UInt8)⟩), (.int .i64 0), (.int .i64 0)]) (d := none) (k := 1) (by kernel_rfl) rfl (by kernel_rfl) (by kernel_rfl) hs229 rfl (by kernel_rfl) ?_
              intro w231 hs232
              have hs233 : SP [] w0 w231 [boxE g5 23 #[(.int .i64 0), (.string ⟨List.toArray ([] : List UInt8)⟩), (.string ⟨List.toArray ([] : List UInt8)⟩), (.int .i64 0), (.int .i64 0)], boxE g22 23 #[(.int .i64 (IntKind.wrap .i64 ((x13).toNat : Int))), (.string ⟨List.toArray v69⟩), (.string ⟨List.toArray v103⟩), (.int .i64 0), (.int .i64 0)]] := hs232
              clear hs232
              refine In.run' 1 (k' := 3) rfl [(3, (.bool false))] (by kernel_rfl) ?_
              refine In.fin (by kernel_rfl) ?_
              refine At.ret (by kernel_rfl) ?_
              refine ⟨(.tuple #[(.agg #[(.int .i64 0), (.string ⟨List.toArray ([] : List UInt8)⟩), (.string ⟨List.toArray ([] : List UInt8)⟩), (.int .i64 0), (.int .i64 0)]), (.bool false)]), res_2 (by kernel_rfl) (rv_cell (a := 2) (t := 23) (g := g5) (off := 0) (by kernel_rfl) (SP.get hs233 (i := 0) rfl) (by kernel_rfl)) (rv_tmp (t := 3) (by kernel_rfl)), ?_⟩
              obtain rfl := some_elim H
              exact ⟨rfl, SP.sel hs233 [] rfl rfl⟩
            · have H := cf H hb230
              refine At.skip (by kernel_rfl) ?_
              refine At.seq (by kernel_rfl) (p0 := [true, true, true, true, true, true, true, false, true, false, true, true, false]) (p1 := [true, true, true, true, true, true, true, false, true, false, true, true, true]) rfl rfl ?_
              refine At.region (by kernel_rfl) (by kernel_rfl) ?_
              refine In.run' 2 (k' := 2) rfl [(75, (.int .i64 z224.1)), (76, (.pointer (some ⟨g22, 3, none⟩)))] (by kernel_rfl) ?_
              refine In.step (k' := 3) rfl (by kernel_rfl) ?_
              refine Step.store (t := 2) (x := (.tmp 76)) (y := (.tmp 75)) (g := g22) (off := 3) (i := 1) (v := (.int .i64 z224.1)) (cs' := #[(.int .i64 (IntKind.wrap .i64 ((x13).toNat : Int))), (.string ⟨List.toArray v69⟩), (.string ⟨List.toArray v103⟩), (.int .i64 z224.1), (.int .i64 0)]) (d := none) (k := 2) (by kernel_rfl) rfl (by kernel_rfl) (by kernel_rfl) hs229 rfl (by kernel_rfl) ?_
              intro w234 hs235
              have hs236 : SP [] w0 w234 [boxE g5 23 #[(.int .i64 0), (.string ⟨List.toArray ([] : List UInt8)⟩), (.string ⟨List.toArray ([] : List UInt8)⟩), (.int .i64 0), (.int .i64 0)], boxE g22 23 #[(.int .i64 (IntKind.wrap .i64 ((x13).toNat : Int))), (.string ⟨List.toArray v69⟩), (.string ⟨List.toArray v103⟩), (.int .i64 z224.1), (.int .i64 0)]] := hs235
              clear hs235
              refine In.fin (by kernel_rfl) ?_
              refine At.region (by kernel_rfl) (by kernel_rfl) ?_
              refine In.run' 2 (k' := 2) rfl [(77, (.slice A104 (List.length v107) c105)), (78, (.int .i64 z224.2.1))] (by kernel_rfl) ?_
              obtain ⟨hz237, hz238, hz239, H⟩ := sub_elim H
              obtain ⟨l240, hyl240⟩ : ∃ y, (List.drop (Int.toNat z224.2.1) (List.take (Int.toNat ((List.length v107 : Nat) : Int)) v107)) = y := ⟨_, rfl⟩
              rw [hyl240] at H
              refine In.step (k' := 3) rfl (by kernel_rfl) ?_
              refine Step.slice (e := eU8) (l := v107) (A := A104) (c := c105) (T := 24) (E := 5) (x := (.tmp 77)) (lo := (some (.tmp 78))) (hi := none) (i := z224.2.1) (j := ((List.length v107 : Nat) : Int)) (d := (some 79)) (k := 2) (by kernel_rfl) rfl (by kernel_rfl) (by kernel_rfl) (by kernel_rfl) ⟨.i64, by kernel_rfl⟩ rfl (RdX.le (RdT.sp hr106 hs236)) hz237 hz238 hz239 ?_
              intro A241 c242 _ _ hcut243
              rw [hyl240] at hcut243 ⊢
              refine In.run' 1 (k' := 4) rfl [(0, (.slice A241 (List.length l240) c242))] (by kernel_rfl) ?_
              refine In.fin (by kernel_rfl) ?_
              exact ⟨z224.1, l240, A241, c242, ⟨(by kernel_rfl), (by kernel_rfl), (by kernel_rfl), (by kernel_rfl), trivial⟩, SP.sel hs236 [0, 1] rfl rfl, (hcut243 w0 hr106), H⟩
          · have H := cf H hb223
            refine At.skip (by kernel_rfl) ?_
            exact ⟨0, v107, A104, c105, ⟨(by kernel_rfl), (by kernel_rfl), (by kernel_rfl), (by kernel_rfl), trivial⟩, SP.sel hs115 [0, 1] rfl rfl, hr106, H⟩
        · rintro ρ w142 ⟨v137, v141, A138, c139, hk, hs143, hr140, H⟩
          unfold L_subwayref05_Get_k3 at H
          refine At.known [(0, (.slice A138 (List.length v141) c139)), (2, (.pointer (some ⟨g5, 0, none⟩))), (4, (.pointer (some ⟨g22, 0, none⟩))), (5, (.string ⟨List.toArray z29⟩))] hk ?_
          refine At.seq (by kernel_rfl) (p0 := [true, true, true, true, true, true, true, true, false]) (p1 := [true, true, true, true, true, true, true, true, true]) rfl rfl ?_
          refine At.seq (by kernel_rfl) (p0 := [true, true, true, true, true, true, true, true, false, false]) (p1 := [true, true, true, true, true, true, true, true, false, true]) rfl rfl ?_
          refine At.region (by kernel_rfl) (by kernel_rfl) ?_
          refine In.run' 1 (k' := 1) rfl [(80, (.string ⟨List.toArray z29⟩))] (by kernel_rfl) ?_
          obtain ⟨z144, hz145, H⟩ := bind_elim H
          refine In.step (k' := 2) rfl (by kernel_rfl) ?_
          refine Step.callF (f := 27) (fo := (.func 27)) (xs := #[(.tmp 80), (.const (.int .u8 (77)))]) (tys := #[9, 5]) (first := #[]) (captured := #[]) (d := (some 81)) (k := 1) (by kernel_rfl) rfl (by kernel_rfl) (by kernel_rfl) Try.call27 (L_subwayref05_of_walk  z29 (77 : UInt8) w142  z144 hz145) ?_
          rintro e w146 ⟨rfl, hs147⟩
          refine ⟨_, rfl, ?_⟩
          have hs148 := SP.call hs143 hs147
          clear hs147
          have hs149 : SP [] w0 w146 [boxE g5 23 #[(.int .i64 0), (.string ⟨List.toArray ([] : List UInt8)⟩), (.string ⟨List.toArray ([] : List UInt8)⟩), (.int .i64 0), (.int .i64 0)], boxE g22 23 #[(.int .i64 (IntKind.wrap .i64 ((x13).toNat : Int))), (.string ⟨List.toArray v69⟩), (.string ⟨List.toArray v103⟩), (.int .i64 v137), (.int .i64 0)]] := hs148
          clear hs148
          refine In.fin (by kernel_rfl) ?_
          refine At.join (fun ρ w => ∃ (v171 : Int) (v175 : (List UInt8)) (A172 : Option Addr) (c173 : Nat), Known ρ [(0, (.slice A172 (List.length v175) c173)), (2, (.pointer (some ⟨g5, 0, none⟩))), (4, (.pointer (some ⟨g22, 0, none⟩)))] ∧ SP [] w0 w [boxE g5 23 #[(.int .i64 0), (.string ⟨List.toArray ([] : List UInt8)⟩), (.string ⟨List.toArray ([] : List UInt8)⟩), (.int .i64 0), (.int .i64 0)], boxE g22 23 #[(.int .i64 (IntKind.wrap .i64 ((x13).toNat : Int))), (.string ⟨List.toArray v69⟩), (.string ⟨List.toArray v103⟩), (.int .i64 v137), (.int .i64 v171)]] ∧ RdT eU8 w0 A172 c173 v175 ∧ L_subwayref05_Get_k4 x13 v69 v103 v137 v171 v175 = some r) ?_ ?_
          · refine At.cond (by kernel_rfl) (o := (.tmp 81)) (by kernel_rfl) (b := z144) (by kernel_rfl) (p0 := [true, true, true, true, true, true, true, true, false, true, false]) (p1 := [true, true, true, true, true, true, true, true, false, true, true]) rfl rfl (fun hb202 => ?_) (fun hb202 => ?_)
            · have H := ct H hb202
              refine At.seq (by kernel_rfl) (p0 := [true, true, true, true, true, true, true, true, false, true, false, false]) (p1 := [true, true, true, true, true, true, true, true, false, true, false, true]) rfl rfl ?_
              refine At.region (by kernel_rfl) (by kernel_rfl) ?_
              refine In.run' 1 (k' := 1) rfl [(83, (.slice A138 (List.length v141) c139))] (by kernel_rfl) ?_
              obtain ⟨z203, hz204, H⟩ := bind_elim H
              refine In.step (k' := 2) rfl (by kernel_rfl) ?_
              refine Step.callF (f := 29) (fo := (.func 29)) (xs := #[(.tmp 83)]) (tys := #[24]) (first := #[]) (captured := #[]) (d := (some 84)) (k := 1) (by kernel_rfl) rfl (by kernel_rfl) (by kernel_rfl) Try.call29 (L_subwayref01_Get_walk A138 c139 v141 w146 (RdT.sp hr140 hs149) z203 hz204) ?_
              rintro e w205 ⟨rfl, hs206⟩
              refine ⟨_, rfl, ?_⟩
              have hs207 := SP.call hs149 hs206
              clear hs206
              have hs208 : SP [] w0 w205 [boxE g5 23 #[(.int .i64 0), (.string ⟨List.toArray ([] : List UInt8)⟩), (.string ⟨List.toArray ([] : List UInt8)⟩), (.int .i64 0), (.int .i64 0)], boxE g22 23 #[(.int .i64 (IntKind.wrap .i64 ((x13).toNat : Int))), (.string ⟨List.toArray v69⟩), (.string ⟨List.toArray v103⟩), (.int .i64 v137), (.int .i64 0)]] := hs207
              clear hs207
              refine In.run' 7 (k' := 9) rfl [(82, (.tuple #[(.int .i64 z203.1), (.int .i64 z203.2.1), (.bool z203.2.2)])), (85, (.int .i64 z203.1)), (86, (.int .i64 z203.2.1)), (87, (.bool z203.2.2)), (15, (.int .i64 z203.1)), (16, (.int .i64 z203.2.1)), (17, (.bool z203.2.2))] (by kernel_rfl) ?_
              refine In.fin (by kernel_rfl) ?_
              refine At.seq (by kernel_rfl) (p0 := [true, true, true, true, true, true, true, true, false, true, false, true, false]) (p1 := [true, true, true, true, true, true, true, true, false, true, false, true, true]) rfl rfl ?_
              refine At.seq (by kernel_rfl) (p0 := [true, true, true, true, true, true, true, true, false, true, false, true, false, false]) (p1 := [true, true, true, true, true, true, true, true, false, true, false, true, false, true]) rfl rfl ?_
              refine At.region (by kernel_rfl) (by kernel_rfl) ?_
              refine In.run' 2 (k' := 2) rfl [(88, (.bool z203.2.2)), (89, (.bool (!z203.2.2)))] (by kernel_rfl) ?_
              refine In.fin (by kernel_rfl) ?_
              refine At.cond (by kernel_rfl) (o := (.tmp 89)) (by kernel_rfl) (b := (!z203.2.2)) (by kernel_rfl) (p0 := [true, true, true, true, true, true, true, true, false, true, false, true, false, true, false]) (p1 := [true, true, true, true, true, true, true, true, false, true, false, true, false, true, true]) rfl rfl (fun hb209 => ?_) (fun hb209 => ?_)
              · have H := ct H hb209
                refine At.seq (by kernel_rfl) (p0 := [true, true, true, true, true, true, true, true, false, true, false, true, false, true, false, false]) (p1 := [true, true, true, true, true, true, true, true, false, true, false, true, false, true, false, true]) rfl rfl ?_
                refine At.region (by kernel_rfl) (by kernel_rfl) ?_
                refine In.run' 1 (k' := 1) rfl [(90, (.agg #[(.int .i64 0), (.string ⟨List.toArray ([] : List UInt8)⟩), (.string ⟨List.toArray ([] : List UInt8)⟩), (.int .i64 0), (.int .i64 0)]))] (by kernel_rfl) ?_
                refine In.step (k' := 2) rfl (by kernel_rfl) ?_
                refine Step.store (t := 23) (x := (.tmp 2)) (y := (.tmp 90)) (g := g5) (off := 0) (i := 0) (v := (.agg #[(.int .i64 0), (.string ⟨List.toArray ([] : List UInt8)⟩), (.string ⟨List.toArray ([] : List UInt8)⟩), (.int .i64 0), (.int .i64 0)])) (cs' := #[(.int .i64 0), (.string ⟨List.toArray ([] : List UInt8)⟩), (.string ⟨List.toArray ([] : List UInt8)⟩), (.int .i64 0), (.int .i64 0)]) (d := none) (k := 1) (by kernel_rfl) rfl (by kernel_rfl) (by kernel_rfl) hs208 rfl (by kernel_rfl) ?_
                intro w210 hs211
                have hs212 : SP [] w0 w210 [boxE g5 23 #[(.int .i64 0), (.string ⟨List.toArray ([] : List UInt8)⟩), (.string ⟨List.toArray ([] : List UInt8)⟩), (.int .i64 0), (.int .i64 0)], boxE g22 23 #[(.int .i64 (IntKind.wrap .i64 ((x13).toNat : Int))), (.string ⟨List.toArray v69⟩), (.string ⟨List.toArray v103⟩), (.int .i64 v137), (.int .i64 0)]] := hs211
                clear hs211
                refine In.run' 1 (k' := 3) rfl [(3, (.bool false))] (by kernel_rfl) ?_
                refine In.fin (by kernel_rfl) ?_
                refine At.ret (by kernel_rfl) ?_
                refine ⟨(.tuple #[(.agg #[(.int .i64 0), (.string ⟨List.toArray ([] : List UInt8)⟩), (.string ⟨List.toArray ([] : List UInt8)⟩), (.int .i64 0), (.int .i64 0)]), (.bool false)]), res_2 (by kernel_rfl) (rv_cell (a := 2) (t := 23) (g := g5) (off := 0) (by kernel_rfl) (SP.get hs212 (i := 0) rfl) (by kernel_rfl)) (rv_tmp (t := 3) (by kernel_rfl)), ?_⟩
                obtain rfl := some_elim H
                exact ⟨rfl, SP.sel hs212 [] rfl rfl⟩
              · have H := cf H hb209
                refine At.skip (by kernel_rfl) ?_
                refine At.seq (by kernel_rfl) (p0 := [true, true, true, true, true, true, true, true, false, true, false, true, true, false]) (p1 := [true, true, true, true, true, true, true, true, false, true, false, true, true, true]) rfl rfl ?_
                refine At.region (by kernel_rfl) (by kernel_rfl) ?_
                refine In.run' 2 (k' := 2) rfl [(91, (.int .i64 z203.1)), (92, (.pointer (some ⟨g22, 4, none⟩)))] (by kernel_rfl) ?_
                refine In.step (k' := 3) rfl (by kernel_rfl) ?_
                refine Step.store (t := 2) (x := (.tmp 92)) (y := (.tmp 91)) (g := g22) (off := 4) (i := 1) (v := (.int .i64 z203.1)) (cs' := #[(.int .i64 (IntKind.wrap .i64 ((x13).toNat : Int))), (.string ⟨List.toArray v69⟩), (.string ⟨List.toArray v103⟩), (.int .i64 v137), (.int .i64 z203.1)]) (d := none) (k := 2) (by kernel_rfl) rfl (by kernel_rfl) (by kernel_rfl) hs208 rfl (by kernel_rfl) ?_
                intro w213 hs214
                have hs215 : SP [] w0 w213 [boxE g5 23 #[(.int .i64 0), (.string ⟨List.toArray ([] : List UInt8)⟩), (.string ⟨List.toArray ([] : List UInt8)⟩), (.int .i64 0), (.int .i64 0)], boxE g22 23 #[(.int .i64 (IntKind.wrap .i64 ((x13).toNat : Int))), (.string ⟨List.toArray v69⟩), (.string ⟨List.toArray v103⟩), (.int .i64 v137), (.int .i64 z203.1)]] := hs214
                clear hs214
                refine In.fin (by kernel_rfl) ?_
                refine At.region (by kernel_rfl) (by kernel_rfl) ?_
                refine In.run' 2 (k' := 2) rfl [(93, (.slice A138 (List.length v141) c139)), (94, (.int .i64 z203.2.1))] (by kernel_rfl) ?_
                obtain ⟨hz216, hz217, hz218, H⟩ := sub_elim H
                obtain ⟨l219, hyl219⟩ : ∃ y, (List.drop (Int.toNat z203.2.1) (List.take (Int.toNat ((List.length v141 : Nat) : Int)) v141)) = y := ⟨_, rfl⟩
                rw [hyl219] at H
                refine In.step (k' := 3) rfl (by kernel_rfl) ?_
                refine Step.slice (e := eU8) (l := v141) (A := A138) (c := c139) (T := 24) (E := 5) (x := (.tmp 93)) (lo := (some (.tmp 94))) (hi := none) (i := z203.2.1) (j := ((List.length v141 : Nat) : Int)) (d := (some 95)) (k := 2) (by kernel_rfl) rfl (by kernel_rfl) (by kernel_rfl) (by kernel_rfl) ⟨.i64, by kernel_rfl⟩ rfl (RdX.le (RdT.sp hr140 hs215)) hz216 hz217 hz218 ?_
                intro A220 c221 _ _ hcut222
                rw [hyl219] at hcut222 ⊢
                refine In.run' 1 (k' := 4) rfl [(0, (.slice A220 (List.length l219) c221))] (by kernel_rfl) ?_
                refine In.fin (by kernel_rfl) ?_
                exact ⟨z203.1, l219, A220, c221, ⟨(by kernel_rfl), (by kernel_rfl), (by kernel_rfl), trivial⟩, SP.sel hs215 [0, 1] rfl rfl, (hcut222 w0 hr140), H⟩
            · have H := cf H hb202
              refine At.skip (by kernel_rfl) ?_
              exact ⟨0, v141, A138, c139, ⟨(by kernel_rfl), (by kernel_rfl), (by kernel_rfl), trivial⟩, SP.sel hs149 [0, 1] rfl rfl, hr140, H⟩
          · rintro ρ w176 ⟨v171, v175, A172, c173, hk, hs177, hr174, H⟩
            unfold L_subwayref05_Get_k4 at H
            refine At.known [(0, (.slice A172 (List.length v175) c173)), (2, (.pointer (some ⟨g5, 0, none⟩))), (4, (.pointer (some ⟨g22, 0, none⟩)))] hk ?_
            refine At.seq (by kernel_rfl) (p0 := [true, true, true, true, true, true, true, true, true, false]) (p1 := [true, true, true, true, true, true, true, true, true, true]) rfl rfl ?_
            refine At.seq (by kernel_rfl) (p0 := [true, true, true, true, true, true, true, true, true, false, false]) (p1 := [true, true, true, true, true, true, true, true, true, false, true]) rfl rfl ?_
            refine At.join (fun ρ w => ∃ (v185 : Bool), Known ρ [(2, (.pointer (some ⟨g5, 0, none⟩))), (4, (.pointer (some ⟨g22, 0, none⟩))), (103, (.bool v185))] ∧ SP [] w0 w [boxE g5 23 #[(.int .i64 0), (.string ⟨List.toArray ([] : List UInt8)⟩), (.string ⟨List.toArray ([] : List UInt8)⟩), (.int .i64 0), (.int .i64 0)], boxE g22 23 #[(.int .i64 (IntKind.wrap .i64 ((x13).toNat : Int))), (.string ⟨List.toArray v69⟩), (.string ⟨List.toArray v103⟩), (.int .i64 v137), (.int .i64 v171)]] ∧ L_subwayref05_Get_k5 x13 v69 v103 v137 v171 v185 = some r) ?_ ?_
            · refine At.region (by kernel_rfl) (by kernel_rfl) ?_
              refine In.run' 4 (k' := 4) rfl [(96, (.slice A172 (List.length v175) c173)), (97, (.int .i64 ((List.length v175 : Nat) : Int))), (98, (.bool (decide (((List.length v175 : Nat) : Int) > 0)))), (99, (.bool (decide (((List.length v175 : Nat) : Int) > 0))))] (by kernel_rfl) ?_
              refine In.guard (t := 99) (b := (decide (((List.length v175 : Nat) : Int) > 0))) (by kernel_rfl) (fun hb195 => ?_) (fun hb195 => ?_)
              · have H := ct H hb195
                refine In.run' 4 (k' := 8) rfl [(100, undef), (101, undef), (102, undef), (103, (.bool true))] (by kernel_rfl) ?_
                refine In.fin (by kernel_rfl) ?_
                exact ⟨true, ⟨(by kernel_rfl), (by kernel_rfl), (by kernel_rfl), trivial⟩, SP.sel hs177 [0, 1] rfl rfl, H⟩
              · have H := cf H hb195
                refine In.step (k' := 5) rfl (by kernel_rfl) ?_
                refine Step.load (t := 23) (x := (.tmp 4)) (g := g22) (off := 0) (i := 1) (v := (.agg #[(.int .i64 (IntKind.wrap .i64 ((x13).toNat : Int))), (.string ⟨List.toArray v69⟩), (.string ⟨List.toArray v103⟩), (.int .i64 v137), (.int .i64 v171)])) (d := (some 100)) (k := 4) (by kernel_rfl) rfl (by kernel_rfl) hs177 rfl (by kernel_rfl) ?_
                obtain ⟨z196, hz197, H⟩ := bind_elim H
                refine In.step (k' := 6) rfl (by kernel_rfl) ?_
                refine Step.callF (f := 14) (fo := (.func 14)) (xs := #[(.tmp 100)]) (tys := #[23]) (first := #[]) (captured := #[]) (d := (some 101)) (k := 5) (by kernel_rfl) rfl (by kernel_rfl) (by kernel_rfl) Try.call14 (L_subwayref05_Right_walk  (IntKind.wrap .i64 ((x13).toNat : Int)) v69 v103 v137 v171 w176  z196 hz197) ?_
                rintro e w198 ⟨rfl, hs199⟩
                refine ⟨_, rfl, ?_⟩
                have hs200 := SP.call hs177 hs199
                clear hs199
                have hs201 : SP [] w0 w198 [boxE g5 23 #[(.int .i64 0), (.string ⟨List.toArray ([] : List UInt8)⟩), (.string ⟨List.toArray ([] : List UInt8)⟩), (.int .i64 0), (.int .i64 0)], boxE g22 23 #[(.int .i64 (IntKind.wrap .i64 ((x13).toNat : Int))), (.string ⟨List.toArray v69⟩), (.string ⟨List.toArray v103⟩), (.int .i64 v137), (.int .i64 v171)]] := hs200
                clear hs200
                refine In.run' 2 (k' := 8) rfl [(102, (.bool (!z196))), (103, (.bool (!z196)))] (by kernel_rfl) ?_
                refine In.fin (by kernel_rfl) ?_
                exact ⟨(!z196), ⟨(by kernel_rfl), (by kernel_rfl), (by kernel_rfl), trivial⟩, SP.sel hs201 [0, 1] rfl rfl, H⟩
            · rintro ρ w186 ⟨v185, hk, hs187, H⟩
              unfold L_subwayref05_Get_k5 at H
              refine At.known [(2, (.pointer (some ⟨g5, 0, none⟩))), (4, (.pointer (some ⟨g22, 0, none⟩))), (103, (.bool v185))] hk ?_
              refine At.cond (by kernel_rfl) (o := (.tmp 103)) (by kernel_rfl) (b := v185) (by kernel_rfl) (p0 := [true, true, true, true, true, true, true, true, true, false, true, false]) (p1 := [true, true, true, true, true, true, true, true, true, false, true, true]) rfl rfl (fun hb188 => ?_) (fun hb188 => ?_)
              · have H := ct H hb188
                refine At.seq (by kernel_rfl) (p0 := [true, true, true, true, true, true, true, true, true, false, true, false, false]) (p1 := [true, true, true, true, true, true, true, true, true, false, true, false, true]) rfl rfl ?_
                refine At.region (by kernel_rfl) (by kernel_rfl) ?_
                refine In.run' 1 (k' := 1) rfl [(104, (.agg #[(.int .i64 0), (.string ⟨List.toArray ([] : List UInt8)⟩), (.string ⟨List.toArray ([] : List UInt8)⟩), (.int .i64 0), (.int .i64 0)]))] (by kernel_rfl) ?_
                refine In.step (k' := 2) rfl (by kernel_rfl) ?_
                refine Step.store (t := 23) (x := (.tmp 2)) (y := (.tmp 104)) (g := g5) (off := 0) (i := 0) (v := (.agg #[(.int .i64 0), (.string ⟨List.toArray ([] : List UInt8)⟩), (.string ⟨List.toArray ([] : List UInt8)⟩), (.int .i64 0), (.int .i64 0)])) (cs' := #[(.int .i64 0), (.string ⟨List.toArray ([] : List UInt8)⟩), (.string ⟨List.toArray ([] : List UInt8)⟩), (.int .i64 0), (.int .i64 0)]) (d := none) (k := 1) (by kernel_rfl) rfl (by kernel_rfl) (by kernel_rfl) hs187 rfl (by kernel_rfl) ?_
                intro w189 hs190
                have hs191 : SP [] w0 w189 [boxE g5 23 #[(.int .i64 0), (.string ⟨List.toArray ([] : List UInt8)⟩), (.string ⟨List.toArray ([] : List UInt8)⟩), (.int .i64 0), (.int .i64 0)], boxE g22 23 #[(.int .i64 (IntKind.wrap .i64 ((x13).toNat : Int))), (.string ⟨List.toArray v69⟩), (.string ⟨List.toArray v103⟩), (.int .i64 v137), (.int .i64 v171)]] := hs190
                clear hs190
                refine In.run' 1 (k' := 3) rfl [(3, (.bool false))] (by kernel_rfl) ?_
                refine In.fin (by kernel_rfl) ?_
                refine At.ret (by kernel_rfl) ?_
                refine ⟨(.tuple #[(.agg #[(.int .i64 0), (.string ⟨List.toArray ([] : List UInt8)⟩), (.string ⟨List.toArray ([] : List UInt8)⟩), (.int .i64 0), (.int .i64 0)]), (.bool false)]), res_2 (by kernel_rfl) (rv_cell (a := 2) (t := 23) (g := g5) (off := 0) (by kernel_rfl) (SP.get hs191 (i := 0) rfl) (by kernel_rfl)) (rv_tmp (t := 3) (by kernel_rfl)), ?_⟩
                obtain rfl := some_elim H
                exact ⟨rfl, SP.sel hs191 [] rfl rfl⟩
              · have H := cf H hb188
                refine At.skip (by kernel_rfl) ?_
                refine At.seq (by kernel_rfl) (p0 := [true, true, true, true, true, true, true, true, true, true, false]) (p1 := [true, true, true, true, true, true, true, true, true, true, true]) rfl rfl ?_
                refine At.region (by kernel_rfl) (by kernel_rfl) ?_
                refine In.step (k' := 1) rfl (by kernel_rfl) ?_
                refine Step.load (t := 23) (x := (.tmp 4)) (g := g22) (off := 0) (i := 1) (v := (.agg #[(.int .i64 (IntKind.wrap .i64 ((x13).toNat : Int))), (.string ⟨List.toArray v69⟩), (.string ⟨List.toArray v103⟩), (.int .i64 v137), (.int .i64 v171)])) (d := (some 105)) (k := 0) (by kernel_rfl) rfl (by kernel_rfl) hs187 rfl (by kernel_rfl) ?_
                refine In.step (k' := 2) rfl (by kernel_rfl) ?_
                refine Step.store (t := 23) (x := (.tmp 2)) (y := (.tmp 105)) (g := g5) (off := 0) (i := 0) (v := (.agg #[(.int .i64 (IntKind.wrap .i64 ((x13).toNat : Int))), (.string ⟨List.toArray v69⟩), (.string ⟨List.toArray v103⟩), (.int .i64 v137), (.int .i64 v171)])) (cs' := #[(.int .i64 (IntKind.wrap .i64 ((x13).toNat : Int))), (.string ⟨List.toArray v69⟩), (.string ⟨List.toArray v103⟩), (.int .i64 v137), (.int .i64 v171)]) (d := none) (k := 1) (by kernel_rfl) rfl (by kernel_rfl) (by kernel_rfl) hs187 rfl (by kernel_rfl) ?_
                intro w192 hs193
                have hs194 : SP [] w0 w192 [boxE g5 23 #[(.int .i64 (IntKind.wrap .i64 ((x13).toNat : Int))), (.string ⟨List.toArray v69⟩), (.string ⟨List.toArray v103⟩), (.int .i64 v137), (.int .i64 v171)], boxE g22 23 #[(.int .i64 (IntKind.wrap .i64 ((x13).toNat : Int))), (.string ⟨List.toArray v69⟩), (.string ⟨List.toArray v103⟩), (.int .i64 v137), (.int .i64 v171)]] := hs193
                clear hs193
                refine In.run' 1 (k' := 3) rfl [(3, (.bool true))] (by kernel_rfl) ?_
                refine In.fin (by kernel_rfl) ?_
                refine At.ret (by kernel_rfl) ?_
                refine ⟨(.tuple #[(.agg #[(.int .i64 (IntKind.wrap .i64 ((x13).toNat : Int))), (.string ⟨List.toArray v69⟩), (.string ⟨List.toArray v103⟩), (.int .i64 v137), (.int .i64 v171)]), (.bool true)]), res_2 (by kernel_rfl) (rv_cell (a := 2) (t := 23) (g := g5) (off := 0) (by kernel_rfl) (SP.get hs194 (i := 0) rfl) (by kernel_rfl)) (rv_tmp (t := 3) (by kernel_rfl)), ?_⟩
                obtain rfl := some_elim H
                exact ⟨rfl, SP.sel hs194 [] rfl rfl⟩
end Go.Proofs.Ytjpchjbbfbmjgaa
