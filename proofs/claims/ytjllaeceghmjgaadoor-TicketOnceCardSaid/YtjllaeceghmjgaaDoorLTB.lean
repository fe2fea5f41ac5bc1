/- LIFTED BY PROGRAM (tools/lift.py): what functions compute, and that they do. -/
import Derived.Test.YtjllaeceghmjgaaDoorLTA
import Derived.Test.YtjllaeceghmjgaaDoorDelT
import Derived.Test.YtjllaeceghmjgaaDoorLM
import Derived.Test.YtjllaeceghmjgaaDoorLR3
import Derived.Test.YtjllaeceghmjgaaDoorLNum
import Derived.Test.YtjllaeceghmjgaaDoorLR1d
namespace Go.Proofs.YtjllaeceghmjgaaDoor
set_option linter.unusedSimpArgs false
set_option linter.unusedVariables false
open Go.RowKit

/-! L_ticket_Book_Redeem -/
def L_ticket_Book_Redeem (q2 : (List UInt8)) (q5 : Int) (q6 : (List (Int × (List UInt8) × (List UInt8) × Int × (List UInt8)))) (p9 : (List UInt8)) (p10 : (List UInt8)) : Option (Int × (List UInt8) × (List UInt8) × Int × Int × (List UInt8) × Int × (List (Int × (List UInt8) × (List UInt8) × Int × (List UInt8)))) :=
  ((L_slices_IndexFunc_ticket_ticket_ticket_ticket q6 (fun y0 y1 y2 y3 y4 => L_ticket_Book_Redeem_1 y0 y1 y2 y3 y4 p9)).bind fun z85 => (cond (decide (z85 < 0)) (some (0, ([] : List UInt8), ([] : List UInt8), 0, 151, q2, q5, q6)) ((idx q6 z85).bind fun x95 => (cond (!(x95.2.2.1 == p10)) (some (0, ([] : List UInt8), ([] : List UInt8), 0, 131, q2, q5, q6)) ((idx q6 z85).bind fun x108 => ((sub q6 z85 (IntKind.wrap .i64 (z85 + 1))).bind fun _ => ((some (List.take (Int.toNat z85) q6 ++ List.drop (Int.toNat (IntKind.wrap .i64 (z85 + 1))) q6)).bind fun l127 => (some (x108.1, x108.2.1, x108.2.2.1, x108.2.2.2.1, 0, q2, q5, l127)))))))))
set_option maxRecDepth 100000 in
set_option maxHeartbeats 4000000 in
theorem L_ticket_Book_Redeem_walk {S : List Nat} (g1 : Nat) (A3 : Option Addr) (c4 : Nat) (A7 : Option Addr) (c8 : Nat) (q2 : (List UInt8)) (q5 : Int) (q6 : (List (Int × (List UInt8) × (List UInt8) × Int × (List UInt8)))) (p9 : (List UInt8)) (p10 : (List UInt8)) (w0 : World) (hO : SP S w0 w0 [boxE g1 56 #[(.slice A3 (List.length q2) c4), (.int .i64 q5), (.slice A7 (List.length q6) c8)], rdE eU8 A3 c4 q2, rowT 59 (ePair (eInt .i64) (ePair eStr (ePair eStr (ePair (eInt .i64) eStr)))) A7 c8 q6])  (r : (Int × (List UInt8) × (List UInt8) × Int × Int × (List UInt8) × Int × (List (Int × (List UInt8) × (List UInt8) × Int × (List UInt8))))) (H : L_ticket_Book_Redeem q2 q5 q6 p9 p10 = some r) :
  Calls Tryd.prog 13 #[(pt g1 0), (.string ⟨List.toArray p9⟩), (.string ⟨List.toArray p10⟩)] w0 (fun e w' => ∃ (A73 : Option Addr) (c74 : Nat) (A75 : Option Addr) (c76 : Nat), e = .returned (.tuple #[(.agg #[(.int .i64 r.1), (.string ⟨List.toArray r.2.1⟩), (.string ⟨List.toArray r.2.2.1⟩), (.int .i64 r.2.2.2.1)]), (.int .i64 r.2.2.2.2.1)]) ∧ SP S w0 w' [boxE g1 56 #[(.slice A73 (List.length r.2.2.2.2.2.1) c74), (.int .i64 r.2.2.2.2.2.2.1), (.slice A75 (List.length r.2.2.2.2.2.2.2) c76)], rdE eU8 A73 c74 r.2.2.2.2.2.1, rowT 59 (ePair (eInt .i64) (ePair eStr (ePair eStr (ePair (eInt .i64) eStr)))) A75 c76 r.2.2.2.2.2.2.2]) := by
 unfold L_ticket_Book_Redeem at H
 refine calls_go (n := 53) Tryd.func13 K K K ?_
 have hs0 := hO
 refine At.sq K ?_
 refine At.region K K ?_
 refine In.step (k' := 1) rfl K ?_
 refine Step.box (t := 9) (x := (.tmp 1)) (v := (.string ⟨List.toArray p9⟩)) (d := (some 4)) (k := 0) K rfl K hs0 ?_
 intro g77 w78 (hs80 : SP S w0 w78 [boxE g1 56 #[(.slice A3 (List.length q2) c4), (.int .i64 q5), (.slice A7 (List.length q6) c8)], rdE eU8 A3 c4 q2, rowT 59 (ePair (eInt .i64) (ePair eStr (ePair eStr (ePair (eInt .i64) eStr)))) A7 c8 q6, boxE g77 9 #[(.string ⟨List.toArray p9⟩)]])
 refine In.step (k' := 2) rfl K ?_
 refine Step.alloc (t := 31) (z := (.agg #[(.int .i64 0), (.string ⟨List.toArray ([] : List UInt8)⟩), (.string ⟨List.toArray ([] : List UInt8)⟩), (.int .i64 0)])) (d := (some 6)) (k := 1) K rfl K hs80 ?_
 intro g81 w82 (hs84 : SP S w0 w82 [boxE g1 56 #[(.slice A3 (List.length q2) c4), (.int .i64 q5), (.slice A7 (List.length q6) c8)], rdE eU8 A3 c4 q2, rowT 59 (ePair (eInt .i64) (ePair eStr (ePair eStr (ePair (eInt .i64) eStr)))) A7 c8 q6, boxE g77 9 #[(.string ⟨List.toArray p9⟩)], boxE g81 31 #[(.int .i64 0), (.string ⟨List.toArray ([] : List UInt8)⟩), (.string ⟨List.toArray ([] : List UInt8)⟩), (.int .i64 0)]])
 refine In.run' 1 (k' := 3) rfl [(7, (.int .i64 0))] K ?_
 refine In.fin K ?_
 refine At.sq K ?_
 refine At.region K K ?_
 refine In.run' 3 (k' := 3) rfl [(10, (pt g1 0)), (11, (pt g1 0)), (12, (pt g1 2))] K ?_
 refine In.step (k' := 4) rfl K ?_
 refine Step.load (t := 54) (x := (.tmp 12)) (g := g1) (off := 2) (i := 0) (v := (.slice A7 (List.length q6) c8)) (d := (some 13)) (k := 3) K rfl K hs84 rfl K ?_
 refine In.run' 1 (k' := 5) rfl [(14, (.func (.func 23) #[] #[(pt g77 0)]))] K ?_
 obtain ⟨z85, hz86, H⟩ := bind_elim H
 refine In.step (k' := 6) rfl K ?_
 refine Step.callF (f := 22) (fo := (.func 22)) (xs := #[(.tmp 13), (.tmp 14)]) (tys := #[54, 60]) (first := #[]) (captured := #[]) (d := (some 15)) (k := 5) K rfl K K Tryd.call22 (L_slices_IndexFunc_ticket_ticket_ticket_ticket_walk A7 c8 23 #[(pt g77 0)] q6 (fun y0 y1 y2 y3 y4 => L_ticket_Book_Redeem_1 y0 y1 y2 y3 y4 p9) w82 (rowT_rd (SP.get hs84 (i := 2) rfl)) Tryd.call23 (fun y0 y1 y2 y3 y4 z w hw hz => L_ticket_Book_Redeem_1_walk g77 y0 y1 y2 y3 y4 p9 w (blk_below (show w82.heap[g77]? = some (.cells #[(.string ⟨List.toArray p9⟩)] 9 (0, 0)) from SP.get hs84 (i := 3) rfl) hw) z hz) z85 hz86) ?_
 rintro e w87 ⟨rfl, hs88⟩
 refine ⟨_, rfl, ?_⟩
 have hs90 : SP S w0 w87 [boxE g1 56 #[(.slice A3 (List.length q2) c4), (.int .i64 q5), (.slice A7 (List.length q6) c8)], rdE eU8 A3 c4 q2, rowT 59 (ePair (eInt .i64) (ePair eStr (ePair eStr (ePair (eInt .i64) eStr)))) A7 c8 q6, boxE g77 9 #[(.string ⟨List.toArray p9⟩)], boxE g81 31 #[(.int .i64 0), (.string ⟨List.toArray ([] : List UInt8)⟩), (.string ⟨List.toArray ([] : List UInt8)⟩), (.int .i64 0)]] := SP.call hs84 hs88
 clear hs88
 refine In.run' 1 (k' := 7) rfl [(8, (.int .i64 z85))] K ?_
 refine In.fin K ?_
 refine At.sq K ?_
 refine At.bk K (id := 0) K ?_
 refine At.sq K ?_
 refine At.region K K ?_
 refine In.run' 3 (k' := 3) rfl [(17, (.int .i64 z85)), (18, (.bool (decide (z85 < 0)))), (16, (.bool (decide (z85 < 0))))] K ?_
 refine In.fin K ?_
 refine At.cd K (o := (.tmp 16)) K (b := (decide (z85 < 0))) K (fun hb91 => ?_) (fun hb91 => ?_)
 ·have H := ct H hb91
  refine At.sq K ?_
  refine At.region K K ?_
  refine In.run' 1 (k' := 1) rfl [(19, (.agg #[(.int .i64 0), (.string ⟨List.toArray ([] : List UInt8)⟩), (.string ⟨List.toArray ([] : List UInt8)⟩), (.int .i64 0)]))] K ?_
  refine In.step (k' := 2) rfl K ?_
  refine Step.store (t := 31) (x := (.tmp 6)) (y := (.tmp 19)) (g := g81) (off := 0) (i := 4) (v := (.agg #[(.int .i64 0), (.string ⟨List.toArray ([] : List UInt8)⟩), (.string ⟨List.toArray ([] : List UInt8)⟩), (.int .i64 0)])) (cs' := #[(.int .i64 0), (.string ⟨List.toArray ([] : List UInt8)⟩), (.string ⟨List.toArray ([] : List UInt8)⟩), (.int .i64 0)]) (d := none) (k := 1) K rfl K K hs90 rfl K ?_
  intro w92 (hs94 : SP S w0 w92 [boxE g1 56 #[(.slice A3 (List.length q2) c4), (.int .i64 q5), (.slice A7 (List.length q6) c8)], rdE eU8 A3 c4 q2, rowT 59 (ePair (eInt .i64) (ePair eStr (ePair eStr (ePair (eInt .i64) eStr)))) A7 c8 q6, boxE g77 9 #[(.string ⟨List.toArray p9⟩)], boxE g81 31 #[(.int .i64 0), (.string ⟨List.toArray ([] : List UInt8)⟩), (.string ⟨List.toArray ([] : List UInt8)⟩), (.int .i64 0)]])
  refine In.run' 1 (k' := 3) rfl [(7, (.int .i64 151))] K ?_
  refine In.fin K ?_
  refine At.ret K ?_
  refine ⟨(.tuple #[(.agg #[(.int .i64 0), (.string ⟨List.toArray ([] : List UInt8)⟩), (.string ⟨List.toArray ([] : List UInt8)⟩), (.int .i64 0)]), (.int .i64 151)]), res_2 K (rv_cell (a := 6) (t := 31) (g := g81) (off := 0) K (SP.get hs94 (i := 4) rfl) K) (rv_tmp (t := 7) K), ?_⟩
  obtain rfl := some_elim H
  exact ⟨A3, c4, A7, c8, rfl, SP.sel hs94 [0,1,2] rfl rfl⟩
 ·have H := cf H hb91
  refine At.sq K ?_
  refine At.region K K ?_
  refine In.run' 3 (k' := 3) rfl [(21, (pt g1 0)), (22, (pt g1 0)), (23, (pt g1 2))] K ?_
  refine In.step (k' := 4) rfl K ?_
  refine Step.load (t := 54) (x := (.tmp 23)) (g := g1) (off := 2) (i := 0) (v := (.slice A7 (List.length q6) c8)) (d := (some 24)) (k := 3) K rfl K hs90 rfl K ?_
  refine In.run' 1 (k' := 5) rfl [(25, (.int .i64 z85))] K ?_
  obtain ⟨x95, hp96, hq97, hx98, H⟩ := idx_elim H
  refine In.step (k' := 6) rfl K ?_
  refine Step.elem (e := (ePair (eInt .i64) (ePair eStr (ePair eStr (ePair (eInt .i64) eStr))))) (l := q6) (A := A7) (c := c8) (T := 54) (E := 59) (x := (.tmp 24)) (ix := (.tmp 25)) (ki := .i64) (iz := z85) (d := (some 26)) (k := 5) K rfl K K K K (rowT_rd (SP.get hs90 (i := 2) rfl)) hp96 hq97 ?_
  intro b99 o100 hA102 hb103 hc101
  refine In.run' 2 (k' := 8) rfl [(27, (.pointer (some ⟨b99, (o100 + Int.toNat z85 * (ePair (eInt .i64) (ePair eStr (ePair eStr (ePair (eInt .i64) eStr)))).sz), none⟩))), (28, (.pointer (some ⟨b99, (o100 + Int.toNat z85 * (ePair (eInt .i64) (ePair eStr (ePair eStr (ePair (eInt .i64) eStr)))).sz + 2), none⟩)))] K ?_
  refine In.step (k' := 9) rfl K ?_
  refine Step.cell (t := 9) (x := (.tmp 28)) (b := b99) (off := (o100 + Int.toNat z85 * (ePair (eInt .i64) (ePair eStr (ePair eStr (ePair (eInt .i64) eStr)))).sz + 2)) (v := (.string ⟨List.toArray x95.2.2.1⟩)) (d := (some 29)) (k := 8) K rfl K K (elem_cell (e := (ePair (eInt .i64) (ePair eStr (ePair eStr (ePair (eInt .i64) eStr))))) (rdt_cells (rowT_rd (SP.get hs90 (i := 2) rfl)) hA102 hp96 hq97) hx98 (j := 2) rfl) ?_
  refine In.run' 1 (k' := 10) rfl [(30, (.string ⟨List.toArray p10⟩))] K ?_
  refine In.step (k' := 11) rfl K ?_
  refine Step.strOp (op := .neq) (T := 9) (T' := 9) (x := (.tmp 29)) (y := (.tmp 30)) (a := x95.2.2.1) (b := p10) (r := (.bool (!(x95.2.2.1 == p10)))) (d := (some 31)) (k := 10) K rfl K K rfl ?_
  refine In.run' 1 (k' := 12) rfl [(20, (.bool (!(x95.2.2.1 == p10))))] K ?_
  refine In.fin K ?_
  refine At.cd K (o := (.tmp 20)) K (b := (!(x95.2.2.1 == p10))) K (fun hb104 => ?_) (fun hb104 => ?_)
  ·have H := ct H hb104
   refine At.sq K ?_
   refine At.region K K ?_
   refine In.run' 1 (k' := 1) rfl [(32, (.agg #[(.int .i64 0), (.string ⟨List.toArray ([] : List UInt8)⟩), (.string ⟨List.toArray ([] : List UInt8)⟩), (.int .i64 0)]))] K ?_
   refine In.step (k' := 2) rfl K ?_
   refine Step.store (t := 31) (x := (.tmp 6)) (y := (.tmp 32)) (g := g81) (off := 0) (i := 4) (v := (.agg #[(.int .i64 0), (.string ⟨List.toArray ([] : List UInt8)⟩), (.string ⟨List.toArray ([] : List UInt8)⟩), (.int .i64 0)])) (cs' := #[(.int .i64 0), (.string ⟨List.toArray ([] : List UInt8)⟩), (.string ⟨List.toArray ([] : List UInt8)⟩), (.int .i64 0)]) (d := none) (k := 1) K rfl K K hs90 rfl K ?_
   intro w105 (hs107 : SP S w0 w105 [boxE g1 56 #[(.slice A3 (List.length q2) c4), (.int .i64 q5), (.slice A7 (List.length q6) c8)], rdE eU8 A3 c4 q2, rowT 59 (ePair (eInt .i64) (ePair eStr (ePair eStr (ePair (eInt .i64) eStr)))) A7 c8 q6, boxE g77 9 #[(.string ⟨List.toArray p9⟩)], boxE g81 31 #[(.int .i64 0), (.string ⟨List.toArray ([] : List UInt8)⟩), (.string ⟨List.toArray ([] : List UInt8)⟩), (.int .i64 0)]])
   refine In.run' 1 (k' := 3) rfl [(7, (.int .i64 131))] K ?_
   refine In.fin K ?_
   refine At.ret K ?_
   refine ⟨(.tuple #[(.agg #[(.int .i64 0), (.string ⟨List.toArray ([] : List UInt8)⟩), (.string ⟨List.toArray ([] : List UInt8)⟩), (.int .i64 0)]), (.int .i64 131)]), res_2 K (rv_cell (a := 6) (t := 31) (g := g81) (off := 0) K (SP.get hs107 (i := 4) rfl) K) (rv_tmp (t := 7) K), ?_⟩
   obtain rfl := some_elim H
   exact ⟨A3, c4, A7, c8, rfl, SP.sel hs107 [0,1,2] rfl rfl⟩
  ·have H := cf H hb104
   refine At.skip K ?_
   refine At.sq K ?_
   refine At.region K K ?_
   refine In.run' 3 (k' := 3) rfl [(33, (pt g1 0)), (34, (pt g1 0)), (35, (pt g1 2))] K ?_
   refine In.step (k' := 4) rfl K ?_
   refine Step.load (t := 54) (x := (.tmp 35)) (g := g1) (off := 2) (i := 0) (v := (.slice A7 (List.length q6) c8)) (d := (some 36)) (k := 3) K rfl K hs90 rfl K ?_
   refine In.run' 1 (k' := 5) rfl [(37, (.int .i64 z85))] K ?_
   obtain ⟨x108, hp109, hq110, hx111, H⟩ := idx_elim H
   refine In.step (k' := 6) rfl K ?_
   refine Step.elem (e := (ePair (eInt .i64) (ePair eStr (ePair eStr (ePair (eInt .i64) eStr))))) (l := q6) (A := A7) (c := c8) (T := 54) (E := 59) (x := (.tmp 36)) (ix := (.tmp 37)) (ki := .i64) (iz := z85) (d := (some 38)) (k := 5) K rfl K K K K (rowT_rd (SP.get hs90 (i := 2) rfl)) hp109 hq110 ?_
   intro b112 o113 hA115 hb116 hc114
   refine In.run' 1 (k' := 7) rfl [(39, (.pointer (some ⟨b112, (o113 + Int.toNat z85 * (ePair (eInt .i64) (ePair eStr (ePair eStr (ePair (eInt .i64) eStr)))).sz), none⟩)))] K ?_
   refine In.step (k' := 8) rfl K ?_
   refine Step.cells (t := 31) (x := (.tmp 39)) (b := b112) (off := (o113 + Int.toNat z85 * (ePair (eInt .i64) (ePair eStr (ePair eStr (ePair (eInt .i64) eStr)))).sz)) (xs := [(.int .i64 x108.1), (.string ⟨List.toArray x108.2.1⟩), (.string ⟨List.toArray x108.2.2.1⟩), (.int .i64 x108.2.2.2.1)]) (d := (some 40)) (k := 7) K rfl K K K (elem_cells0 (e := (ePair (eInt .i64) (ePair eStr (ePair eStr (ePair (eInt .i64) eStr))))) (rdt_cells (rowT_rd (SP.get hs90 (i := 2) rfl)) hA115 hp109 hq110) hx111 rfl) ?_
   refine In.step (k' := 9) rfl K ?_
   refine Step.alloc (t := 31) (z := (.agg #[(.int .i64 0), (.string ⟨List.toArray ([] : List UInt8)⟩), (.string ⟨List.toArray ([] : List UInt8)⟩), (.int .i64 0)])) (d := (some 9)) (k := 8) K rfl K hs90 ?_
   intro g117 w118 (hs120 : SP S w0 w118 [boxE g1 56 #[(.slice A3 (List.length q2) c4), (.int .i64 q5), (.slice A7 (List.length q6) c8)], rdE eU8 A3 c4 q2, rowT 59 (ePair (eInt .i64) (ePair eStr (ePair eStr (ePair (eInt .i64) eStr)))) A7 c8 q6, boxE g77 9 #[(.string ⟨List.toArray p9⟩)], boxE g81 31 #[(.int .i64 0), (.string ⟨List.toArray ([] : List UInt8)⟩), (.string ⟨List.toArray ([] : List UInt8)⟩), (.int .i64 0)], boxE g117 31 #[(.int .i64 0), (.string ⟨List.toArray ([] : List UInt8)⟩), (.string ⟨List.toArray ([] : List UInt8)⟩), (.int .i64 0)]])
   refine In.step (k' := 10) rfl K ?_
   refine Step.store (t := 31) (x := (.tmp 9)) (y := (.tmp 40)) (g := g117) (off := 0) (i := 5) (v := (.agg #[(.int .i64 x108.1), (.string ⟨List.toArray x108.2.1⟩), (.string ⟨List.toArray x108.2.2.1⟩), (.int .i64 x108.2.2.2.1)])) (cs' := #[(.int .i64 x108.1), (.string ⟨List.toArray x108.2.1⟩), (.string ⟨List.toArray x108.2.2.1⟩), (.int .i64 x108.2.2.2.1)]) (d := none) (k := 9) K rfl K K hs120 rfl K ?_
   intro w121 (hs123 : SP S w0 w121 [boxE g1 56 #[(.slice A3 (List.length q2) c4), (.int .i64 q5), (.slice A7 (List.length q6) c8)], rdE eU8 A3 c4 q2, rowT 59 (ePair (eInt .i64) (ePair eStr (ePair eStr (ePair (eInt .i64) eStr)))) A7 c8 q6, boxE g77 9 #[(.string ⟨List.toArray p9⟩)], boxE g81 31 #[(.int .i64 0), (.string ⟨List.toArray ([] : List UInt8)⟩), (.string ⟨List.toArray ([] : List UInt8)⟩), (.int .i64 0)], boxE g117 31 #[(.int .i64 x108.1), (.string ⟨List.toArray x108.2.1⟩), (.string ⟨List.toArray x108.2.2.1⟩), (.int .i64 x108.2.2.2.1)]])
   refine In.fin K ?_
   refine At.sq K ?_
   refine At.region K K ?_
   refine In.run' 4 (k' := 4) rfl [(41, (pt g1 0)), (42, (pt g1 0)), (43, (pt g1 0)), (44, (pt g1 2))] K ?_
   refine In.step (k' := 5) rfl K ?_
   refine Step.load (t := 54) (x := (.tmp 44)) (g := g1) (off := 2) (i := 0) (v := (.slice A7 (List.length q6) c8)) (d := (some 45)) (k := 4) K rfl K hs123 rfl K ?_
   refine In.run' 3 (k' := 8) rfl [(46, (.int .i64 z85)), (47, (.int .i64 z85)), (48, (.int .i64 (IntKind.wrap .i64 (z85 + 1))))] K ?_
   obtain ⟨hz124, hz125, hz126, H⟩ := sub_elim H
   replace H := some_bind_elim H
   obtain ⟨l127, hyl127⟩ : ∃ y, (List.take (Int.toNat z85) q6 ++ List.drop (Int.toNat (IntKind.wrap .i64 (z85 + 1))) q6) = y := ⟨_, rfl⟩
   rw [hyl127] at H
   refine In.step (k' := 9) rfl K ?_
   refine Step.callF (f := 24) (fo := (.func 24)) (xs := #[(.tmp 45), (.tmp 46), (.tmp 48)]) (tys := #[54, 3, 3]) (first := #[]) (captured := #[]) (d := (some 49)) (k := 8) K rfl K K Tryd.call24 (delete_own (e := (ePair (eInt .i64) (ePair eStr (ePair eStr (ePair (eInt .i64) eStr))))) (A := A7) (c := c8) (l := q6) rfl z85 (IntKind.wrap .i64 (z85 + 1)) hz124 hz125 hz126 w121 (SP.get hs123 (i := 2) rfl)) ?_
   rw [hyl127]
   rintro e w128 ⟨rfl, hm130, hk131⟩
   refine ⟨_, rfl, ?_⟩
   have hs132 : SP S w0 w128 [boxE g1 56 #[(.slice A3 (List.length q2) c4), (.int .i64 q5), (.slice A7 (List.length q6) c8)], rdE eU8 A3 c4 q2, rowT 59 (ePair (eInt .i64) (ePair eStr (ePair eStr (ePair (eInt .i64) eStr)))) A7 c8 l127, boxE g77 9 #[(.string ⟨List.toArray p9⟩)], boxE g81 31 #[(.int .i64 0), (.string ⟨List.toArray ([] : List UInt8)⟩), (.string ⟨List.toArray ([] : List UInt8)⟩), (.int .i64 0)], boxE g117 31 #[(.int .i64 x108.1), (.string ⟨List.toArray x108.2.1⟩), (.string ⟨List.toArray x108.2.2.1⟩), (.int .i64 x108.2.2.2.1)]] := SP.del hs123 (i := 2) rfl hm130 hk131
   clear hm130 hk131
   refine In.run' 2 (k' := 11) rfl [(50, (pt g1 0)), (51, (pt g1 2))] K ?_
   refine In.step (k' := 12) rfl K ?_
   refine Step.store (t := 54) (x := (.tmp 51)) (y := (.tmp 49)) (g := g1) (off := 2) (i := 0) (v := (.slice A7 (List.length l127) c8)) (cs' := #[(.slice A3 (List.length q2) c4), (.int .i64 q5), (.slice A7 (List.length l127) c8)]) (d := none) (k := 11) K rfl K K hs132 rfl K ?_
   intro w133 (hs135 : SP S w0 w133 [boxE g1 56 #[(.slice A3 (List.length q2) c4), (.int .i64 q5), (.slice A7 (List.length l127) c8)], rdE eU8 A3 c4 q2, rowT 59 (ePair (eInt .i64) (ePair eStr (ePair eStr (ePair (eInt .i64) eStr)))) A7 c8 l127, boxE g77 9 #[(.string ⟨List.toArray p9⟩)], boxE g81 31 #[(.int .i64 0), (.string ⟨List.toArray ([] : List UInt8)⟩), (.string ⟨List.toArray ([] : List UInt8)⟩), (.int .i64 0)], boxE g117 31 #[(.int .i64 x108.1), (.string ⟨List.toArray x108.2.1⟩), (.string ⟨List.toArray x108.2.2.1⟩), (.int .i64 x108.2.2.2.1)]])
   refine In.fin K ?_
   refine At.sq K ?_
   refine At.region K K ?_
   refine In.step (k' := 1) rfl K ?_
   refine Step.load (t := 31) (x := (.tmp 9)) (g := g117) (off := 0) (i := 5) (v := (.agg #[(.int .i64 x108.1), (.string ⟨List.toArray x108.2.1⟩), (.string ⟨List.toArray x108.2.2.1⟩), (.int .i64 x108.2.2.2.1)])) (d := (some 52)) (k := 0) K rfl K hs135 rfl K ?_
   refine In.step (k' := 2) rfl K ?_
   refine Step.store (t := 31) (x := (.tmp 6)) (y := (.tmp 52)) (g := g81) (off := 0) (i := 4) (v := (.agg #[(.int .i64 x108.1), (.string ⟨List.toArray x108.2.1⟩), (.string ⟨List.toArray x108.2.2.1⟩), (.int .i64 x108.2.2.2.1)])) (cs' := #[(.int .i64 x108.1), (.string ⟨List.toArray x108.2.1⟩), (.string ⟨List.toArray x108.2.2.1⟩), (.int .i64 x108.2.2.2.1)]) (d := none) (k := 1) K rfl K K hs135 rfl K ?_
   intro w136 (hs138 : SP S w0 w136 [boxE g1 56 #[(.slice A3 (List.length q2) c4), (.int .i64 q5), (.slice A7 (List.length l127) c8)], rdE eU8 A3 c4 q2, rowT 59 (ePair (eInt .i64) (ePair eStr (ePair eStr (ePair (eInt .i64) eStr)))) A7 c8 l127, boxE g77 9 #[(.string ⟨List.toArray p9⟩)], boxE g81 31 #[(.int .i64 x108.1), (.string ⟨List.toArray x108.2.1⟩), (.string ⟨List.toArray x108.2.2.1⟩), (.int .i64 x108.2.2.2.1)], boxE g117 31 #[(.int .i64 x108.1), (.string ⟨List.toArray x108.2.1⟩), (.string ⟨List.toArray x108.2.2.1⟩), (.int .i64 x108.2.2.2.1)]])
   refine In.run' 1 (k' := 3) rfl [(7, (.int .i64 0))] K ?_
   refine In.fin K ?_
   refine At.ret K ?_
   refine ⟨(.tuple #[(.agg #[(.int .i64 x108.1), (.string ⟨List.toArray x108.2.1⟩), (.string ⟨List.toArray x108.2.2.1⟩), (.int .i64 x108.2.2.2.1)]), (.int .i64 0)]), res_2 K (rv_cell (a := 6) (t := 31) (g := g81) (off := 0) K (SP.get hs138 (i := 4) rfl) K) (rv_tmp (t := 7) K), ?_⟩
   obtain rfl := some_elim H
   exact ⟨A3, c4, A7, c8, rfl, SP.sel hs138 [0,1,2] rfl rfl⟩
/-! L_ticket_Book_Void -/
def L_ticket_Book_Void_k1 (q2 : (List UInt8)) (q5 : Int) (z55 : (Int)) (v80 : (List (Int × (List UInt8) × (List UInt8) × Int × (List UInt8)))) : Option (Bool × (List UInt8) × Int × (List (Int × (List UInt8) × (List UInt8) × Int × (List UInt8)))) :=
  (some ((decide (z55 ≥ 0)), q2, q5, v80))
def L_ticket_Book_Void (q2 : (List UInt8)) (q5 : Int) (q6 : (List (Int × (List UInt8) × (List UInt8) × Int × (List UInt8)))) (p9 : Int) : Option (Bool × (List UInt8) × Int × (List (Int × (List UInt8) × (List UInt8) × Int × (List UInt8)))) :=
  ((L_ticket_Book_of q2 q5 q6 p9).bind fun z55 => (cond (decide (z55 ≥ 0)) ((sub q6 z55 (IntKind.wrap .i64 (z55 + 1))).bind fun _ => ((some (List.take (Int.toNat z55) q6 ++ List.drop (Int.toNat (IntKind.wrap .i64 (z55 + 1))) q6)).bind fun l87 => (L_ticket_Book_Void_k1 q2 q5 z55 l87))) (L_ticket_Book_Void_k1 q2 q5 z55 q6)))
set_option maxRecDepth 100000 in
set_option maxHeartbeats 4000000 in
theorem L_ticket_Book_Void_walk {S : List Nat} (g1 : Nat) (A3 : Option Addr) (c4 : Nat) (A7 : Option Addr) (c8 : Nat) (q2 : (List UInt8)) (q5 : Int) (q6 : (List (Int × (List UInt8) × (List UInt8) × Int × (List UInt8)))) (p9 : Int) (w0 : World) (hO : SP S w0 w0 [boxE g1 56 #[(.slice A3 (List.length q2) c4), (.int .i64 q5), (.slice A7 (List.length q6) c8)], rdE eU8 A3 c4 q2, rowT 59 (ePair (eInt .i64) (ePair eStr (ePair eStr (ePair (eInt .i64) eStr)))) A7 c8 q6])  (r : (Bool × (List UInt8) × Int × (List (Int × (List UInt8) × (List UInt8) × Int × (List UInt8))))) (H : L_ticket_Book_Void q2 q5 q6 p9 = some r) :
  Calls Tryd.prog 16 #[(pt g1 0), (.int .i64 p9)] w0 (fun e w' => ∃ (A51 : Option Addr) (c52 : Nat) (A53 : Option Addr) (c54 : Nat), e = .returned (.bool r.1) ∧ SP S w0 w' [boxE g1 56 #[(.slice A51 (List.length r.2.1) c52), (.int .i64 r.2.2.1), (.slice A53 (List.length r.2.2.2) c54)], rdE eU8 A51 c52 r.2.1, rowT 59 (ePair (eInt .i64) (ePair eStr (ePair eStr (ePair (eInt .i64) eStr)))) A53 c54 r.2.2.2]) := by
 unfold L_ticket_Book_Void at H
 refine calls_go (n := 24) Tryd.func16 K K K ?_
 have hs0 := hO
 refine At.sq K ?_
 refine At.region K K ?_
 refine In.run' 1 (k' := 1) rfl [(4, (.bool false))] K ?_
 refine In.fin K ?_
 refine At.sq K ?_
 refine At.region K K ?_
 refine In.run' 2 (k' := 2) rfl [(6, (pt g1 0)), (7, (.int .i64 p9))] K ?_
 obtain ⟨z55, hz56, H⟩ := bind_elim H
 refine In.step (k' := 3) rfl K ?_
 refine Step.callF (f := 26) (fo := (.func 26)) (xs := #[(.tmp 6), (.tmp 7)]) (tys := #[24, 3]) (first := #[]) (captured := #[]) (d := (some 8)) (k := 2) K rfl K K Tryd.call26 (L_ticket_Book_of_walk g1 A3 c4 A7 c8 q2 q5 q6 p9 w0 (SP.sub hs0 [0, 1, 2] rfl rfl) z55 hz56) ?_
 rintro e w57 ⟨A59, c60, A61, c62, rfl, hs58⟩
 refine ⟨_, rfl, ?_⟩
 have hs64 : SP S w0 w57 [boxE g1 56 #[(.slice A59 (List.length q2) c60), (.int .i64 q5), (.slice A61 (List.length q6) c62)], rdE eU8 A59 c60 q2, rowT 59 (ePair (eInt .i64) (ePair eStr (ePair eStr (ePair (eInt .i64) eStr)))) A61 c62 q6] := SP.callS hs0 [0, 1, 2] [] rfl rfl hs58 rfl
 clear hs58
 refine In.run' 1 (k' := 4) rfl [(5, (.int .i64 z55))] K ?_
 refine In.fin K ?_
 refine At.sq K ?_
 refine At.sq K ?_
 refine At.region K K ?_
 refine In.run' 2 (k' := 2) rfl [(9, (.int .i64 z55)), (10, (.bool (decide (z55 ≥ 0))))] K ?_
 refine In.fin K ?_
 refine At.join (fun ρ w => ∃ (v80 : (List (Int × (List UInt8) × (List UInt8) × Int × (List UInt8)))) (A78 : Option Addr) (c79 : Nat), Known ρ [(5, (.int .i64 z55))] ∧ SP S w0 w [rdE eU8 A59 c60 q2, rowT 59 (ePair (eInt .i64) (ePair eStr (ePair eStr (ePair (eInt .i64) eStr)))) A78 c79 v80, boxE g1 56 #[(.slice A59 (List.length q2) c60), (.int .i64 q5), (.slice A78 (List.length v80) c79)]] ∧ L_ticket_Book_Void_k1 q2 q5 z55 v80 = some r) ?_ ?_
 ·refine At.cd K (o := (.tmp 10)) K (b := (decide (z55 ≥ 0))) K (fun hb83 => ?_) (fun hb83 => ?_)
  ·have H := ct H hb83
   refine At.region K K ?_
   refine In.run' 4 (k' := 4) rfl [(11, (pt g1 0)), (12, (pt g1 0)), (13, (pt g1 0)), (14, (pt g1 2))] K ?_
   refine In.step (k' := 5) rfl K ?_
   refine Step.load (t := 54) (x := (.tmp 14)) (g := g1) (off := 2) (i := 0) (v := (.slice A61 (List.length q6) c62)) (d := (some 15)) (k := 4) K rfl K hs64 rfl K ?_
   refine In.run' 3 (k' := 8) rfl [(16, (.int .i64 z55)), (17, (.int .i64 z55)), (18, (.int .i64 (IntKind.wrap .i64 (z55 + 1))))] K ?_
   obtain ⟨hz84, hz85, hz86, H⟩ := sub_elim H
   replace H := some_bind_elim H
   obtain ⟨l87, hyl87⟩ : ∃ y, (List.take (Int.toNat z55) q6 ++ List.drop (Int.toNat (IntKind.wrap .i64 (z55 + 1))) q6) = y := ⟨_, rfl⟩
   rw [hyl87] at H
   refine In.step (k' := 9) rfl K ?_
   refine Step.callF (f := 24) (fo := (.func 24)) (xs := #[(.tmp 15), (.tmp 16), (.tmp 18)]) (tys := #[54, 3, 3]) (first := #[]) (captured := #[]) (d := (some 19)) (k := 8) K rfl K K Tryd.call24 (delete_own (e := (ePair (eInt .i64) (ePair eStr (ePair eStr (ePair (eInt .i64) eStr))))) (A := A61) (c := c62) (l := q6) rfl z55 (IntKind.wrap .i64 (z55 + 1)) hz84 hz85 hz86 w57 (SP.get hs64 (i := 2) rfl)) ?_
   rw [hyl87]
   rintro e w88 ⟨rfl, hm90, hk91⟩
   refine ⟨_, rfl, ?_⟩
   have hs92 : SP S w0 w88 [boxE g1 56 #[(.slice A59 (List.length q2) c60), (.int .i64 q5), (.slice A61 (List.length q6) c62)], rdE eU8 A59 c60 q2, rowT 59 (ePair (eInt .i64) (ePair eStr (ePair eStr (ePair (eInt .i64) eStr)))) A61 c62 l87] := SP.del hs64 (i := 2) rfl hm90 hk91
   clear hm90 hk91
   refine In.run' 2 (k' := 11) rfl [(20, (pt g1 0)), (21, (pt g1 2))] K ?_
   refine In.step (k' := 12) rfl K ?_
   refine Step.store (t := 54) (x := (.tmp 21)) (y := (.tmp 19)) (g := g1) (off := 2) (i := 0) (v := (.slice A61 (List.length l87) c62)) (cs' := #[(.slice A59 (List.length q2) c60), (.int .i64 q5), (.slice A61 (List.length l87) c62)]) (d := none) (k := 11) K rfl K K hs92 rfl K ?_
   intro w93 (hs95 : SP S w0 w93 [boxE g1 56 #[(.slice A59 (List.length q2) c60), (.int .i64 q5), (.slice A61 (List.length l87) c62)], rdE eU8 A59 c60 q2, rowT 59 (ePair (eInt .i64) (ePair eStr (ePair eStr (ePair (eInt .i64) eStr)))) A61 c62 l87])
   refine In.fin K ?_
   exact ⟨l87, A61, c62, ⟨K, trivial⟩, SP.sel hs95 [1, 2, 0] rfl rfl, H⟩
  ·have H := cf H hb83
   refine At.skip K ?_
   exact ⟨q6, A61, c62, ⟨K, trivial⟩, SP.sel hs64 [1, 2, 0] rfl rfl, H⟩
 ·rintro ρ w81 ⟨v80, A78, c79, hk, hs82, H⟩
  unfold L_ticket_Book_Void_k1 at H
  first | refine At.known [(5, (.int .i64 z55))] hk ?_ | rw [← known_updL (l := [(5, (.int .i64 z55))]) hk]
  refine At.sq K ?_
  refine At.region K K ?_
  refine In.run' 3 (k' := 3) rfl [(22, (.int .i64 z55)), (23, (.bool (decide (z55 ≥ 0)))), (4, (.bool (decide (z55 ≥ 0))))] K ?_
  refine In.fin K ?_
  refine At.ret K ?_
  refine ⟨(.bool (decide (z55 ≥ 0))), K, ?_⟩
  obtain rfl := some_elim H
  exact ⟨A59, c60, A78, c79, rfl, SP.sel hs82 [2,0,1] rfl rfl⟩
/-! L_ticket_Book_Issue -/
def L_ticket_Book_Issue (q2 : (List UInt8)) (q5 : Int) (q6 : (List (Int × (List UInt8) × (List UInt8) × Int × (List UInt8)))) (pVisitor9 : Int) (pName10 : (List UInt8)) (pTenant11 : (List UInt8)) (pEpoch12 : Int) (p13 : (List UInt8)) : Option ((List UInt8) × Int × (List UInt8) × Int × (List (Int × (List UInt8) × (List UInt8) × Int × (List UInt8)))) :=
  ((L_ticket_Book_of q2 q5 q6 pVisitor9).bind fun z210 => (cond (decide (z210 ≥ 0)) (some (([] : List UInt8), 4, q2, q5, q6)) (cond (((List.length q6 : Nat) : Int) == 64) (some (([] : List UInt8), 2, q2, q5, q6)) ((L_num_Decimal (IntKind.wrap .i64 (q5 + 1))).bind fun z225 => ((sub p13 0 (if 255 < ((List.length p13 : Nat) : Int) then 255 else ((List.length p13 : Nat) : Int))).bind fun l234 => ((L_mac_Proof q2 ([z225, l234] : List (List UInt8))).bind fun z239 => ((sub z239 0 32).bind fun l248 => ((app q6 ([(pVisitor9, pName10, pTenant11, pEpoch12, l248)] : List (Int × (List UInt8) × (List UInt8) × Int × (List UInt8)))).bind fun l326 => (some (l248, 0, q2, (IntKind.wrap .i64 (q5 + 1)), l326))))))))))
set_option maxRecDepth 100000 in
set_option maxHeartbeats 4000000 in
theorem L_ticket_Book_Issue_walk {S : List Nat} (g1 : Nat) (A3 : Option Addr) (c4 : Nat) (A7 : Option Addr) (c8 : Nat) (q2 : (List UInt8)) (q5 : Int) (q6 : (List (Int × (List UInt8) × (List UInt8) × Int × (List UInt8)))) (pVisitor9 : Int) (pName10 : (List UInt8)) (pTenant11 : (List UInt8)) (pEpoch12 : Int) (p13 : (List UInt8)) (w0 : World) (hL : ∀ w, Mod S w0 w → LaidW w) (hO : SP S w0 w0 [boxE g1 56 #[(.slice A3 (List.length q2) c4), (.int .i64 q5), (.slice A7 (List.length q6) c8)], rdE eU8 A3 c4 q2, rowT 59 (ePair (eInt .i64) (ePair eStr (ePair eStr (ePair (eInt .i64) eStr)))) A7 c8 q6])  (r : ((List UInt8) × Int × (List UInt8) × Int × (List (Int × (List UInt8) × (List UInt8) × Int × (List UInt8))))) (H : L_ticket_Book_Issue q2 q5 q6 pVisitor9 pName10 pTenant11 pEpoch12 p13 = some r) :
  Calls Tryd.prog 18 #[(pt g1 0), (.agg #[(.int .i64 pVisitor9), (.string ⟨List.toArray pName10⟩), (.string ⟨List.toArray pTenant11⟩), (.int .i64 pEpoch12)]), (.string ⟨List.toArray p13⟩)] w0 (fun e w' => ∃ (A202 : Option Addr) (c203 : Nat) (A204 : Option Addr) (c205 : Nat), e = .returned (.tuple #[(.string ⟨List.toArray r.1⟩), (.int .i64 r.2.1)]) ∧ SP S w0 w' [boxE g1 56 #[(.slice A202 (List.length r.2.2.1) c203), (.int .i64 r.2.2.2.1), (.slice A204 (List.length r.2.2.2.2) c205)], rdE eU8 A202 c203 r.2.2.1, rowT 59 (ePair (eInt .i64) (ePair eStr (ePair eStr (ePair (eInt .i64) eStr)))) A204 c205 r.2.2.2.2]) := by
 unfold L_ticket_Book_Issue at H
 refine calls_go (n := 59) Tryd.func18 K K K ?_
 have hs0 := hO
 refine At.sq K ?_
 refine At.region K K ?_
 refine In.step (k' := 1) rfl K ?_
 refine Step.box (t := 31) (x := (.tmp 1)) (v := (.agg #[(.int .i64 pVisitor9), (.string ⟨List.toArray pName10⟩), (.string ⟨List.toArray pTenant11⟩), (.int .i64 pEpoch12)])) (d := (some 4)) (k := 0) K rfl K hs0 ?_
 intro g206 w207 (hs209 : SP S w0 w207 [boxE g1 56 #[(.slice A3 (List.length q2) c4), (.int .i64 q5), (.slice A7 (List.length q6) c8)], rdE eU8 A3 c4 q2, rowT 59 (ePair (eInt .i64) (ePair eStr (ePair eStr (ePair (eInt .i64) eStr)))) A7 c8 q6, boxE g206 31 #[(.int .i64 pVisitor9), (.string ⟨List.toArray pName10⟩), (.string ⟨List.toArray pTenant11⟩), (.int .i64 pEpoch12)]])
 refine In.run' 2 (k' := 3) rfl [(6, (.string ⟨List.toArray ([] : List UInt8)⟩)), (7, (.int .i64 0))] K ?_
 refine In.fin K ?_
 refine At.sq K ?_
 refine At.bk K (id := 0) K ?_
 refine At.sq K ?_
 refine At.region K K ?_
 refine In.run' 2 (k' := 2) rfl [(10, (pt g1 0)), (11, (pt g206 0))] K ?_
 refine In.step (k' := 3) rfl K ?_
 refine Step.load (t := 3) (x := (.tmp 11)) (g := g206) (off := 0) (i := 3) (v := (.int .i64 pVisitor9)) (d := (some 12)) (k := 2) K rfl K hs209 rfl K ?_
 obtain ⟨z210, hz211, H⟩ := bind_elim H
 refine In.step (k' := 4) rfl K ?_
 refine Step.callF (f := 26) (fo := (.func 26)) (xs := #[(.tmp 10), (.tmp 12)]) (tys := #[24, 3]) (first := #[]) (captured := #[]) (d := (some 13)) (k := 3) K rfl K K Tryd.call26 (L_ticket_Book_of_walk g1 A3 c4 A7 c8 q2 q5 q6 pVisitor9 w207 (SP.sub hs209 [0, 1, 2] rfl rfl) z210 hz211) ?_
 rintro e w212 ⟨A214, c215, A216, c217, rfl, hs213⟩
 refine ⟨_, rfl, ?_⟩
 have hs219 : SP S w0 w212 [boxE g206 31 #[(.int .i64 pVisitor9), (.string ⟨List.toArray pName10⟩), (.string ⟨List.toArray pTenant11⟩), (.int .i64 pEpoch12)], boxE g1 56 #[(.slice A214 (List.length q2) c215), (.int .i64 q5), (.slice A216 (List.length q6) c217)], rdE eU8 A214 c215 q2, rowT 59 (ePair (eInt .i64) (ePair eStr (ePair eStr (ePair (eInt .i64) eStr)))) A216 c217 q6] := SP.callS hs209 [0, 1, 2] [3] rfl rfl hs213 rfl
 clear hs213
 refine In.run' 2 (k' := 6) rfl [(14, (.bool (decide (z210 ≥ 0)))), (9, (.bool (decide (z210 ≥ 0))))] K ?_
 refine In.fin K ?_
 refine At.cd K (o := (.tmp 9)) K (b := (decide (z210 ≥ 0))) K (fun hb220 => ?_) (fun hb220 => ?_)
 ·have H := ct H hb220
  refine At.sq K ?_
  refine At.region K K ?_
  refine In.run' 2 (k' := 2) rfl [(6, (.string ⟨List.toArray ([] : List UInt8)⟩)), (7, (.int .i64 4))] K ?_
  refine In.fin K ?_
  refine At.ret K ?_
  refine ⟨(.tuple #[(.string ⟨List.toArray ([] : List UInt8)⟩), (.int .i64 4)]), K, ?_⟩
  obtain rfl := some_elim H
  exact ⟨A214, c215, A216, c217, rfl, SP.sel hs219 [1,2,3] rfl rfl⟩
 ·have H := cf H hb220
  refine At.sq K ?_
  refine At.region K K ?_
  refine In.run' 3 (k' := 3) rfl [(16, (pt g1 0)), (17, (pt g1 0)), (18, (pt g1 2))] K ?_
  refine In.step (k' := 4) rfl K ?_
  refine Step.load (t := 54) (x := (.tmp 18)) (g := g1) (off := 2) (i := 1) (v := (.slice A216 (List.length q6) c217)) (d := (some 19)) (k := 3) K rfl K hs219 rfl K ?_
  refine In.run' 3 (k' := 7) rfl [(20, (.int .i64 ((List.length q6 : Nat) : Int))), (21, (.bool (((List.length q6 : Nat) : Int) == 64))), (15, (.bool (((List.length q6 : Nat) : Int) == 64)))] K ?_
  refine In.fin K ?_
  refine At.cd K (o := (.tmp 15)) K (b := (((List.length q6 : Nat) : Int) == 64)) K (fun hb221 => ?_) (fun hb221 => ?_)
  ·have H := ct H hb221
   refine At.sq K ?_
   refine At.region K K ?_
   refine In.run' 2 (k' := 2) rfl [(6, (.string ⟨List.toArray ([] : List UInt8)⟩)), (7, (.int .i64 2))] K ?_
   refine In.fin K ?_
   refine At.ret K ?_
   refine ⟨(.tuple #[(.string ⟨List.toArray ([] : List UInt8)⟩), (.int .i64 2)]), K, ?_⟩
   obtain rfl := some_elim H
   exact ⟨A214, c215, A216, c217, rfl, SP.sel hs219 [1,2,3] rfl rfl⟩
  ·have H := cf H hb221
   refine At.skip K ?_
   refine At.sq K ?_
   refine At.region K K ?_
   refine In.run' 3 (k' := 3) rfl [(22, (pt g1 0)), (23, (pt g1 0)), (24, (pt g1 1))] K ?_
   refine In.step (k' := 4) rfl K ?_
   refine Step.load (t := 2) (x := (.tmp 24)) (g := g1) (off := 1) (i := 1) (v := (.int .i64 q5)) (d := (some 25)) (k := 3) K rfl K hs219 rfl K ?_
   refine In.run' 3 (k' := 7) rfl [(26, (.int .i64 (IntKind.wrap .i64 (q5 + 1)))), (27, (pt g1 0)), (28, (pt g1 1))] K ?_
   refine In.step (k' := 8) rfl K ?_
   refine Step.store (t := 2) (x := (.tmp 28)) (y := (.tmp 26)) (g := g1) (off := 1) (i := 1) (v := (.int .i64 (IntKind.wrap .i64 (q5 + 1)))) (cs' := #[(.slice A214 (List.length q2) c215), (.int .i64 (IntKind.wrap .i64 (q5 + 1))), (.slice A216 (List.length q6) c217)]) (d := none) (k := 7) K rfl K K hs219 rfl K ?_
   intro w222 (hs224 : SP S w0 w222 [boxE g206 31 #[(.int .i64 pVisitor9), (.string ⟨List.toArray pName10⟩), (.string ⟨List.toArray pTenant11⟩), (.int .i64 pEpoch12)], boxE g1 56 #[(.slice A214 (List.length q2) c215), (.int .i64 (IntKind.wrap .i64 (q5 + 1))), (.slice A216 (List.length q6) c217)], rdE eU8 A214 c215 q2, rowT 59 (ePair (eInt .i64) (ePair eStr (ePair eStr (ePair (eInt .i64) eStr)))) A216 c217 q6])
   refine In.fin K ?_
   refine At.sq K ?_
   obtain ⟨z225, hz226, H⟩ := bind_elim H
   obtain ⟨hz231, hz232, hz233, H⟩ := sub_elim H
   obtain ⟨l234, hyl234⟩ : ∃ y, (List.drop (Int.toNat 0) (List.take (Int.toNat (if 255 < ((List.length p13 : Nat) : Int) then 255 else ((List.length p13 : Nat) : Int))) p13)) = y := ⟨_, rfl⟩
   rw [hyl234] at H
   obtain ⟨z239, hz240, H⟩ := bind_elim H
   obtain ⟨hz245, hz246, hz247, H⟩ := sub_elim H
   obtain ⟨l248, hyl248⟩ : ∃ y, (List.drop (Int.toNat 0) (List.take (Int.toNat 32) z239)) = y := ⟨_, rfl⟩
   rw [hyl248] at H
   refine At.stages K K K K K [GEq (pt g1 0), GEq (pt g1 0), GEq (pt g1 0), GEq (.slice A214 (List.length q2) c215), GEq (pt g1 0), GEq (pt g1 0), GEq (pt g1 1), GEq (.int .i64 (IntKind.wrap .i64 (q5 + 1))), GEq (.string ⟨List.toArray z225⟩), GEq (.string ⟨List.toArray p13⟩), GEq (.string ⟨List.toArray p13⟩), GEq (.int .i64 ((List.length p13 : Nat) : Int)), GEq (.int .i64 (if 255 < ((List.length p13 : Nat) : Int) then 255 else ((List.length p13 : Nat) : Int))), GEq (.string ⟨List.toArray l234⟩), GAny, GEq (.string ⟨List.toArray z239⟩), GEq (.string ⟨List.toArray l248⟩), GEq (.string ⟨List.toArray l248⟩)] [8, 14, 15] [([], fun vs w => VL vs [] ∧ SP S w0 w [boxE g206 31 #[(.int .i64 pVisitor9), (.string ⟨List.toArray pName10⟩), (.string ⟨List.toArray pTenant11⟩), (.int .i64 pEpoch12)], boxE g1 56 #[(.slice A214 (List.length q2) c215), (.int .i64 (IntKind.wrap .i64 (q5 + 1))), (.slice A216 (List.length q6) c217)], rdE eU8 A214 c215 q2, rowT 59 (ePair (eInt .i64) (ePair eStr (ePair eStr (ePair (eInt .i64) eStr)))) A216 c217 q6]), ([8], fun vs w => VL vs [(.string ⟨List.toArray z225⟩)] ∧ SP S w0 w [boxE g206 31 #[(.int .i64 pVisitor9), (.string ⟨List.toArray pName10⟩), (.string ⟨List.toArray pTenant11⟩), (.int .i64 pEpoch12)], boxE g1 56 #[(.slice A214 (List.length q2) c215), (.int .i64 (IntKind.wrap .i64 (q5 + 1))), (.slice A216 (List.length q6) c217)], rdE eU8 A214 c215 q2, rowT 59 (ePair (eInt .i64) (ePair eStr (ePair eStr (ePair (eInt .i64) eStr)))) A216 c217 q6]), ([8, 14], fun vs w => ∃ (g257 : Nat), VL vs [(.string ⟨List.toArray z225⟩), (.slice (some ⟨g257, 0, none⟩) (List.length ([z225, l234] : List (List UInt8))) (List.length ([z225, l234] : List (List UInt8))))] ∧ SP S w0 w [boxE g206 31 #[(.int .i64 pVisitor9), (.string ⟨List.toArray pName10⟩), (.string ⟨List.toArray pTenant11⟩), (.int .i64 pEpoch12)], boxE g1 56 #[(.slice A214 (List.length q2) c215), (.int .i64 (IntKind.wrap .i64 (q5 + 1))), (.slice A216 (List.length q6) c217)], rdE eU8 A214 c215 q2, rowT 59 (ePair (eInt .i64) (ePair eStr (ePair eStr (ePair (eInt .i64) eStr)))) A216 c217 q6, rowT 9 eStr (some ⟨g257, 0, none⟩) (List.length ([z225, l234] : List (List UInt8))) ([z225, l234] : List (List UInt8))]), ([8, 14, 15], fun vs w => ∃ (g265 : Nat), VL vs [(.string ⟨List.toArray z225⟩), (.slice (some ⟨g265, 0, none⟩) (List.length ([z225, l234] : List (List UInt8))) (List.length ([z225, l234] : List (List UInt8)))), (.string ⟨List.toArray z239⟩)] ∧ SP S w0 w [boxE g206 31 #[(.int .i64 pVisitor9), (.string ⟨List.toArray pName10⟩), (.string ⟨List.toArray pTenant11⟩), (.int .i64 pEpoch12)], boxE g1 56 #[(.slice A214 (List.length q2) c215), (.int .i64 (IntKind.wrap .i64 (q5 + 1))), (.slice A216 (List.length q6) c217)], rdE eU8 A214 c215 q2, rowT 59 (ePair (eInt .i64) (ePair eStr (ePair eStr (ePair (eInt .i64) eStr)))) A216 c217 q6, rowT 9 eStr (some ⟨g265, 0, none⟩) (List.length ([z225, l234] : List (List UInt8))) ([z225, l234] : List (List UInt8))])] (N := 18) K ⟨K, Nat.zero_lt_succ _⟩ (show VL [] [] ∧ SP S w0 w222.drew [boxE g206 31 #[(.int .i64 pVisitor9), (.string ⟨List.toArray pName10⟩), (.string ⟨List.toArray pTenant11⟩), (.int .i64 pEpoch12)], boxE g1 56 #[(.slice A214 (List.length q2) c215), (.int .i64 (IntKind.wrap .i64 (q5 + 1))), (.slice A216 (List.length q6) c217)], rdE eU8 A214 c215 q2, rowT 59 (ePair (eInt .i64) (ePair eStr (ePair eStr (ePair (eInt .i64) eStr)))) A216 c217 q6] from ⟨trivial, SP.drew hs224⟩) ⟨⟨⟨⟨⟨⟨⟨⟨⟨⟨⟨⟨⟨⟨⟨⟨⟨⟨trivial, ?_⟩, ?_⟩, ?_⟩, ?_⟩, ?_⟩, ?_⟩, ?_⟩, ?_⟩, ?_⟩, ?_⟩, ?_⟩, ?_⟩, ?_⟩, ?_⟩, ?_⟩, ?_⟩, ?_⟩, ?_⟩ (last := 3) K ?_
   ·exact Owe.run K [(0, (pt g1 0))] ⟨gS K K, trivial⟩ (pt g1 0) (fun _ _ => K) rfl
   ·exact Owe.run K [(29, (pt g1 0))] ⟨gA 0 K K, trivial⟩ (pt g1 0) (fun _ _ => K) rfl
   ·exact Owe.run K [(30, (pt g1 0))] ⟨gA 1 K K, trivial⟩ (pt g1 0) (fun _ _ => K) rfl
   ·refine Owe.light K [0, 1, 2] K (all_cons ?_ (all_cons ?_ (all_cons ?_ all_nil)))
    ·rintro ρ' w' hs hah ⟨hvl274, hs273⟩
     have hkn : Known ρ' [(31, (pt g1 0))] := ⟨hah 2 31 K, trivial⟩
     refine Step.known _ hkn ?_
     refine Step.load (t := 50) (x := (.tmp 31)) (g := g1) (off := 0) (i := 1) (v := (.slice A214 (List.length q2) c215)) (d := (some 32)) (k := 3) K rfl K hs273 rfl K ?_
     exact ⟨rfl, _, updO_known hkn, rfl⟩
    ·rintro ρ' w' hs hah ⟨⟨q276, -⟩, hs275⟩
     have hkn : Known ρ' [(31, (pt g1 0))] := ⟨hah 2 31 K, trivial⟩
     refine Step.known _ hkn ?_
     refine Step.load (t := 50) (x := (.tmp 31)) (g := g1) (off := 0) (i := 1) (v := (.slice A214 (List.length q2) c215)) (d := (some 32)) (k := 3) K rfl K hs275 rfl K ?_
     exact ⟨rfl, _, updO_known hkn, rfl⟩
    ·rintro ρ' w' hs hah ⟨g257, ⟨q279, q280, -⟩, hs278⟩
     have hkn : Known ρ' [(31, (pt g1 0))] := ⟨hah 2 31 K, trivial⟩
     refine Step.known _ hkn ?_
     refine Step.load (t := 50) (x := (.tmp 31)) (g := g1) (off := 0) (i := 1) (v := (.slice A214 (List.length q2) c215)) (d := (some 32)) (k := 3) K rfl K hs278 rfl K ?_
     exact ⟨rfl, _, updO_known hkn, rfl⟩
   ·exact Owe.run K [(0, (pt g1 0))] ⟨gS K K, trivial⟩ (pt g1 0) (fun _ _ => K) rfl
   ·exact Owe.run K [(33, (pt g1 0))] ⟨gA 4 K K, trivial⟩ (pt g1 0) (fun _ _ => K) rfl
   ·exact Owe.run K [(34, (pt g1 0))] ⟨gA 5 K K, trivial⟩ (pt g1 1) (fun _ _ => K) rfl
   ·refine Owe.light K [0] K (all_cons ?_ all_nil)
    ·rintro ρ' w' hs hah ⟨hvl283, hs282⟩
     have hkn : Known ρ' [(35, (pt g1 1))] := ⟨hah 6 35 K, trivial⟩
     refine Step.known _ hkn ?_
     refine Step.load (t := 2) (x := (.tmp 35)) (g := g1) (off := 1) (i := 1) (v := (.int .i64 (IntKind.wrap .i64 (q5 + 1)))) (d := (some 36)) (k := 7) K rfl K hs282 rfl K ?_
     exact ⟨rfl, _, updO_known hkn, rfl⟩
   ·refine Owe.heavy K [(0, 1)] K (all_cons ⟨K, K, ?_⟩ all_nil)
    ·rintro ρ' w' hs hah ⟨hvl285, hs284⟩
     have hkn : Known ρ' [(36, (.int .i64 (IntKind.wrap .i64 (q5 + 1))))] := ⟨hah 7 36 K, trivial⟩
     refine Step.known _ hkn ?_
     refine Step.callF (f := 28) (fo := (.func 28)) (xs := #[(.tmp 36)]) (tys := #[2]) (first := #[]) (captured := #[]) (d := (some 37)) (k := 8) K rfl K K Tryd.call28 (L_num_Decimal_walk  (IntKind.wrap .i64 (q5 + 1)) w' (hL w' (SP.mod hs284)) z225 hz226) ?_
     rintro e w286 ⟨rfl, hs287⟩
     refine ⟨_, rfl, ?_⟩
     have hs289 : SP S w0 w286 [boxE g206 31 #[(.int .i64 pVisitor9), (.string ⟨List.toArray pName10⟩), (.string ⟨List.toArray pTenant11⟩), (.int .i64 pEpoch12)], boxE g1 56 #[(.slice A214 (List.length q2) c215), (.int .i64 (IntKind.wrap .i64 (q5 + 1))), (.slice A216 (List.length q6) c217)], rdE eU8 A214 c215 q2, rowT 59 (ePair (eInt .i64) (ePair eStr (ePair eStr (ePair (eInt .i64) eStr)))) A216 c217 q6] := SP.call hs284 hs287
     clear hs287
     refine ⟨_, updO_known hkn, rfl, ?_⟩
     exact (And.intro (And.intro rfl (trivial)) (hs289))
   ·exact Owe.run K [(2, (.string ⟨List.toArray p13⟩))] ⟨gS K K, trivial⟩ (.string ⟨List.toArray p13⟩) (fun _ _ => K) rfl
   ·exact Owe.run K [(2, (.string ⟨List.toArray p13⟩))] ⟨gS K K, trivial⟩ (.string ⟨List.toArray p13⟩) (fun _ _ => K) rfl
   ·exact Owe.run K [(39, (.string ⟨List.toArray p13⟩))] ⟨gA 10 K K, trivial⟩ (.int .i64 ((List.length p13 : Nat) : Int)) (fun _ _ => K) rfl
   ·exact Owe.run K [(40, (.int .i64 ((List.length p13 : Nat) : Int)))] ⟨gA 11 K K, trivial⟩ (.int .i64 (if 255 < ((List.length p13 : Nat) : Int) then 255 else ((List.length p13 : Nat) : Int))) (fun _ _ => K) rfl
   ·refine Owe.light K [0, 1] K (all_cons ?_ (all_cons ?_ all_nil))
    ·rintro ρ' w' hs hah ⟨hvl291, hs290⟩
     have hkn : Known ρ' [(38, (.string ⟨List.toArray p13⟩)), (41, (.int .i64 (if 255 < ((List.length p13 : Nat) : Int) then 255 else ((List.length p13 : Nat) : Int))))] := ⟨hah 9 38 K, hah 12 41 K, trivial⟩
     refine Step.known _ hkn ?_
     refine Step.strSlice (a := p13) (T := 9) (x := (.tmp 38)) (lo := none) (hi := (some (.tmp 41))) (i := 0) (j := (if 255 < ((List.length p13 : Nat) : Int) then 255 else ((List.length p13 : Nat) : Int))) (d := (some 42)) (k := 13) K rfl K K rfl ⟨.i64, K⟩ hz231 hz232 hz233 ?_
     rw [hyl234]
     exact ⟨rfl, _, updO_known hkn, rfl⟩
    ·rintro ρ' w' hs hah ⟨⟨q293, -⟩, hs292⟩
     have hkn : Known ρ' [(38, (.string ⟨List.toArray p13⟩)), (41, (.int .i64 (if 255 < ((List.length p13 : Nat) : Int) then 255 else ((List.length p13 : Nat) : Int))))] := ⟨hah 9 38 K, hah 12 41 K, trivial⟩
     refine Step.known _ hkn ?_
     refine Step.strSlice (a := p13) (T := 9) (x := (.tmp 38)) (lo := none) (hi := (some (.tmp 41))) (i := 0) (j := (if 255 < ((List.length p13 : Nat) : Int) then 255 else ((List.length p13 : Nat) : Int))) (d := (some 42)) (k := 13) K rfl K K rfl ⟨.i64, K⟩ hz231 hz232 hz233 ?_
     rw [hyl234]
     exact ⟨rfl, _, updO_known hkn, rfl⟩
   ·refine Owe.heavy K [(1, 2)] K (all_cons ⟨K, K, ?_⟩ all_nil)
    ·rintro ρ' w' hs hah ⟨⟨q296, -⟩, hs295⟩
     have hkn : Known ρ' [(37, (.string ⟨List.toArray z225⟩)), (42, (.string ⟨List.toArray l234⟩))] := ⟨(valF_eq (h := 8) K).symm.trans q296, hah 13 42 K, trivial⟩
     refine Step.known _ hkn ?_
     refine Step.newSlice (e := eStr) (T := 29) (E := 9) (len := 2) (parts := #[(0, (.tmp 37)), (1, (.tmp 42))]) (cs := #[(.string ⟨List.toArray z225⟩), (.string ⟨List.toArray l234⟩)]) ([z225, l234] : List (List UInt8)) (d := (some 43)) (k := 14) K rfl (fun _ => K) hs295 rfl rfl rfl rfl ?_
     intro g298 w299 (hs301 : SP S w0 w299 [boxE g206 31 #[(.int .i64 pVisitor9), (.string ⟨List.toArray pName10⟩), (.string ⟨List.toArray pTenant11⟩), (.int .i64 pEpoch12)], boxE g1 56 #[(.slice A214 (List.length q2) c215), (.int .i64 (IntKind.wrap .i64 (q5 + 1))), (.slice A216 (List.length q6) c217)], rdE eU8 A214 c215 q2, rowT 59 (ePair (eInt .i64) (ePair eStr (ePair eStr (ePair (eInt .i64) eStr)))) A216 c217 q6, rowT 9 eStr (some ⟨g298, 0, none⟩) (List.length ([z225, l234] : List (List UInt8))) ([z225, l234] : List (List UInt8))])
     refine ⟨_, updO_known hkn, trivial, ?_⟩
     exact (Exists.intro g298 (And.intro (And.intro q296 (And.intro rfl (trivial))) (hs301)))
   ·refine Owe.heavy K [(2, 3)] K (all_cons ⟨K, K, ?_⟩ all_nil)
    ·rintro ρ' w' hs hah ⟨g257, ⟨q303, q304, -⟩, hs302⟩
     have hkn : Known ρ' [(32, (.slice A214 (List.length q2) c215)), (43, (.slice (some ⟨g257, 0, none⟩) (List.length ([z225, l234] : List (List UInt8))) (List.length ([z225, l234] : List (List UInt8)))))] := ⟨hah 3 32 K, (valF_eq (h := 14) K).symm.trans q304, trivial⟩
     refine Step.known _ hkn ?_
     refine Step.callF (f := 27) (fo := (.func 27)) (xs := #[(.tmp 32), (.tmp 43)]) (tys := #[50, 29]) (first := #[]) (captured := #[]) (d := (some 44)) (k := 15) K rfl K K Tryd.call27 (L_mac_Proof_walk A214 c215 (some ⟨g257, 0, none⟩) (List.length ([z225, l234] : List (List UInt8))) q2 ([z225, l234] : List (List UInt8)) w' (rdE_rd (SP.get hs302 (i := 2) rfl)) (rowT_rd (SP.get hs302 (i := 4) rfl)) z239 hz240) ?_
     rintro e w306 ⟨rfl, hs307⟩
     refine ⟨_, rfl, ?_⟩
     have hs309 : SP S w0 w306 [boxE g206 31 #[(.int .i64 pVisitor9), (.string ⟨List.toArray pName10⟩), (.string ⟨List.toArray pTenant11⟩), (.int .i64 pEpoch12)], boxE g1 56 #[(.slice A214 (List.length q2) c215), (.int .i64 (IntKind.wrap .i64 (q5 + 1))), (.slice A216 (List.length q6) c217)], rdE eU8 A214 c215 q2, rowT 59 (ePair (eInt .i64) (ePair eStr (ePair eStr (ePair (eInt .i64) eStr)))) A216 c217 q6, rowT 9 eStr (some ⟨g257, 0, none⟩) (List.length ([z225, l234] : List (List UInt8))) ([z225, l234] : List (List UInt8))] := SP.call hs302 hs307
     clear hs307
     refine ⟨_, updO_known hkn, rfl, ?_⟩
     exact (Exists.intro g257 (And.intro (And.intro q303 (And.intro q304 (And.intro rfl (trivial)))) (hs309)))
   ·refine Owe.light K [3] K (all_cons ?_ all_nil)
    ·rintro ρ' w' hs hah ⟨g265, ⟨q311, q312, q313, -⟩, hs310⟩
     have hkn : Known ρ' [(44, (.string ⟨List.toArray z239⟩))] := ⟨(valF_eq (h := 15) K).symm.trans q313, trivial⟩
     refine Step.known _ hkn ?_
     refine Step.strSlice (a := z239) (T := 9) (x := (.tmp 44)) (lo := none) (hi := (some (.const (.int .i64 (32))))) (i := 0) (j := 32) (d := (some 45)) (k := 16) K rfl K K rfl ⟨.i64, K⟩ hz245 hz246 hz247 ?_
     rw [hyl248]
     exact ⟨rfl, _, updO_known hkn, rfl⟩
   ·exact Owe.run K [(45, (.string ⟨List.toArray l248⟩))] ⟨gA 16 K K, trivial⟩ (.string ⟨List.toArray l248⟩) (fun _ _ => K) rfl
   ·rintro ρ' w' hs hf ⟨g265, ⟨q316, q317, q318, -⟩, hs315⟩
    refine postKnown [(0, (pt g1 0)), (4, (pt g206 0)), (8, (.string ⟨List.toArray l248⟩))] ⟨(hs 0 K).trans K, (hs 4 K).trans K, hf 17 8 K, trivial⟩ ?_
    obtain ⟨w320, hww320⟩ : ∃ x, w' = x := ⟨_, rfl⟩
    rw [hww320] at hs315 ⊢
    refine At.sq K ?_
    obtain ⟨hl325, H⟩ := app_elim H
    obtain ⟨l326, hyl326⟩ : ∃ y, q6 ++ ([(pVisitor9, pName10, pTenant11, pEpoch12, l248)] : List (Int × (List UInt8) × (List UInt8) × Int × (List UInt8))) = y := ⟨_, rfl⟩
    rw [hyl326] at H
    refine At.stages K K K K K [GEq (pt g1 0), GEq (pt g1 0), GEq (pt g1 0), GEq (pt g1 2), GEq (.slice A216 (List.length q6) c217), GEq (.agg #[(.int .i64 pVisitor9), (.string ⟨List.toArray pName10⟩), (.string ⟨List.toArray pTenant11⟩), (.int .i64 pEpoch12)]), GEq (.string ⟨List.toArray l248⟩), GEq (.agg #[(.int .i64 pVisitor9), (.string ⟨List.toArray pName10⟩), (.string ⟨List.toArray pTenant11⟩), (.int .i64 pEpoch12), (.string ⟨List.toArray l248⟩)]), GAny, GAny, GEq (pt g1 0), GEq (pt g1 2), GAny] [8, 9, 12] [([], fun vs w => VL vs [] ∧ SP S w0 w [boxE g206 31 #[(.int .i64 pVisitor9), (.string ⟨List.toArray pName10⟩), (.string ⟨List.toArray pTenant11⟩), (.int .i64 pEpoch12)], boxE g1 56 #[(.slice A214 (List.length q2) c215), (.int .i64 (IntKind.wrap .i64 (q5 + 1))), (.slice A216 (List.length q6) c217)], rdE eU8 A214 c215 q2, rowT 59 (ePair (eInt .i64) (ePair eStr (ePair eStr (ePair (eInt .i64) eStr)))) A216 c217 q6, rowT 9 eStr (some ⟨g265, 0, none⟩) (List.length ([z225, l234] : List (List UInt8))) ([z225, l234] : List (List UInt8))]), ([8], fun vs w => ∃ (g335 : Nat), VL vs [(.slice (some ⟨g335, 0, none⟩) (List.length ([(pVisitor9, pName10, pTenant11, pEpoch12, l248)] : List (Int × (List UInt8) × (List UInt8) × Int × (List UInt8)))) (List.length ([(pVisitor9, pName10, pTenant11, pEpoch12, l248)] : List (Int × (List UInt8) × (List UInt8) × Int × (List UInt8)))))] ∧ SP S w0 w [boxE g206 31 #[(.int .i64 pVisitor9), (.string ⟨List.toArray pName10⟩), (.string ⟨List.toArray pTenant11⟩), (.int .i64 pEpoch12)], boxE g1 56 #[(.slice A214 (List.length q2) c215), (.int .i64 (IntKind.wrap .i64 (q5 + 1))), (.slice A216 (List.length q6) c217)], rdE eU8 A214 c215 q2, rowT 59 (ePair (eInt .i64) (ePair eStr (ePair eStr (ePair (eInt .i64) eStr)))) A216 c217 q6, rowT 9 eStr (some ⟨g265, 0, none⟩) (List.length ([z225, l234] : List (List UInt8))) ([z225, l234] : List (List UInt8)), rowT 59 (ePair (eInt .i64) (ePair eStr (ePair eStr (ePair (eInt .i64) eStr)))) (some ⟨g335, 0, none⟩) (List.length ([(pVisitor9, pName10, pTenant11, pEpoch12, l248)] : List (Int × (List UInt8) × (List UInt8) × Int × (List UInt8)))) ([(pVisitor9, pName10, pTenant11, pEpoch12, l248)] : List (Int × (List UInt8) × (List UInt8) × Int × (List UInt8)))]), ([8, 9], fun vs w => ∃ (g339 : Nat), ∃ (A343 : Option Addr), ∃ (c344 : Nat), VL vs [(.slice (some ⟨g339, 0, none⟩) (List.length ([(pVisitor9, pName10, pTenant11, pEpoch12, l248)] : List (Int × (List UInt8) × (List UInt8) × Int × (List UInt8)))) (List.length ([(pVisitor9, pName10, pTenant11, pEpoch12, l248)] : List (Int × (List UInt8) × (List UInt8) × Int × (List UInt8))))), (.slice A343 (List.length l326) c344)] ∧ SP S w0 w [boxE g206 31 #[(.int .i64 pVisitor9), (.string ⟨List.toArray pName10⟩), (.string ⟨List.toArray pTenant11⟩), (.int .i64 pEpoch12)], boxE g1 56 #[(.slice A214 (List.length q2) c215), (.int .i64 (IntKind.wrap .i64 (q5 + 1))), (.slice A216 (List.length q6) c217)], rdE eU8 A214 c215 q2, rowT 59 (ePair (eInt .i64) (ePair eStr (ePair eStr (ePair (eInt .i64) eStr)))) A343 c344 l326, rowT 9 eStr (some ⟨g265, 0, none⟩) (List.length ([z225, l234] : List (List UInt8))) ([z225, l234] : List (List UInt8)), rowT 59 (ePair (eInt .i64) (ePair eStr (ePair eStr (ePair (eInt .i64) eStr)))) (some ⟨g339, 0, none⟩) (List.length ([(pVisitor9, pName10, pTenant11, pEpoch12, l248)] : List (Int × (List UInt8) × (List UInt8) × Int × (List UInt8)))) ([(pVisitor9, pName10, pTenant11, pEpoch12, l248)] : List (Int × (List UInt8) × (List UInt8) × Int × (List UInt8)))]), ([8, 9, 12], fun vs w => ∃ (g348 : Nat), ∃ (A352 : Option Addr), ∃ (c353 : Nat), VL vs [(.slice (some ⟨g348, 0, none⟩) (List.length ([(pVisitor9, pName10, pTenant11, pEpoch12, l248)] : List (Int × (List UInt8) × (List UInt8) × Int × (List UInt8)))) (List.length ([(pVisitor9, pName10, pTenant11, pEpoch12, l248)] : List (Int × (List UInt8) × (List UInt8) × Int × (List UInt8))))), (.slice A352 (List.length l326) c353), undef] ∧ SP S w0 w [boxE g206 31 #[(.int .i64 pVisitor9), (.string ⟨List.toArray pName10⟩), (.string ⟨List.toArray pTenant11⟩), (.int .i64 pEpoch12)], boxE g1 56 #[(.slice A214 (List.length q2) c215), (.int .i64 (IntKind.wrap .i64 (q5 + 1))), (.slice A352 (List.length l326) c353)], rdE eU8 A214 c215 q2, rowT 59 (ePair (eInt .i64) (ePair eStr (ePair eStr (ePair (eInt .i64) eStr)))) A352 c353 l326, rowT 9 eStr (some ⟨g265, 0, none⟩) (List.length ([z225, l234] : List (List UInt8))) ([z225, l234] : List (List UInt8)), rowT 59 (ePair (eInt .i64) (ePair eStr (ePair eStr (ePair (eInt .i64) eStr)))) (some ⟨g348, 0, none⟩) (List.length ([(pVisitor9, pName10, pTenant11, pEpoch12, l248)] : List (Int × (List UInt8) × (List UInt8) × Int × (List UInt8)))) ([(pVisitor9, pName10, pTenant11, pEpoch12, l248)] : List (Int × (List UInt8) × (List UInt8) × Int × (List UInt8)))])] (N := 13) K ⟨K, Nat.zero_lt_succ _⟩ (show VL [] [] ∧ SP S w0 w320.drew [boxE g206 31 #[(.int .i64 pVisitor9), (.string ⟨List.toArray pName10⟩), (.string ⟨List.toArray pTenant11⟩), (.int .i64 pEpoch12)], boxE g1 56 #[(.slice A214 (List.length q2) c215), (.int .i64 (IntKind.wrap .i64 (q5 + 1))), (.slice A216 (List.length q6) c217)], rdE eU8 A214 c215 q2, rowT 59 (ePair (eInt .i64) (ePair eStr (ePair eStr (ePair (eInt .i64) eStr)))) A216 c217 q6, rowT 9 eStr (some ⟨g265, 0, none⟩) (List.length ([z225, l234] : List (List UInt8))) ([z225, l234] : List (List UInt8))] from ⟨trivial, SP.drew hs315⟩) ⟨⟨⟨⟨⟨⟨⟨⟨⟨⟨⟨⟨⟨trivial, ?_⟩, ?_⟩, ?_⟩, ?_⟩, ?_⟩, ?_⟩, ?_⟩, ?_⟩, ?_⟩, ?_⟩, ?_⟩, ?_⟩, ?_⟩ (last := 3) K ?_
    ·exact Owe.run K [(0, (pt g1 0))] ⟨gS K K, trivial⟩ (pt g1 0) (fun _ _ => K) rfl
    ·exact Owe.run K [(0, (pt g1 0))] ⟨gS K K, trivial⟩ (pt g1 0) (fun _ _ => K) rfl
    ·exact Owe.run K [(47, (pt g1 0))] ⟨gA 1 K K, trivial⟩ (pt g1 0) (fun _ _ => K) rfl
    ·exact Owe.run K [(48, (pt g1 0))] ⟨gA 2 K K, trivial⟩ (pt g1 2) (fun _ _ => K) rfl
    ·refine Owe.light K [0, 1] K (all_cons ?_ (all_cons ?_ all_nil))
     ·rintro ρ' w' hs hah ⟨hvl361, hs360⟩
      have hkn : Known ρ' [(49, (pt g1 2))] := ⟨hah 3 49 K, trivial⟩
      refine Step.known _ hkn ?_
      refine Step.load (t := 54) (x := (.tmp 49)) (g := g1) (off := 2) (i := 1) (v := (.slice A216 (List.length q6) c217)) (d := (some 50)) (k := 4) K rfl K hs360 rfl K ?_
      exact ⟨rfl, _, updO_known hkn, rfl⟩
     ·rintro ρ' w' hs hah ⟨g335, ⟨q363, -⟩, hs362⟩
      have hkn : Known ρ' [(49, (pt g1 2))] := ⟨hah 3 49 K, trivial⟩
      refine Step.known _ hkn ?_
      refine Step.load (t := 54) (x := (.tmp 49)) (g := g1) (off := 2) (i := 1) (v := (.slice A216 (List.length q6) c217)) (d := (some 50)) (k := 4) K rfl K hs362 rfl K ?_
      exact ⟨rfl, _, updO_known hkn, rfl⟩
    ·refine Owe.light K [0] K (all_cons ?_ all_nil)
     ·rintro ρ' w' hs hah ⟨hvl366, hs365⟩
      have hkn : Known ρ' [(4, (pt g206 0))] := ⟨(hs 4 K).trans K, trivial⟩
      refine Step.known _ hkn ?_
      refine Step.load (t := 31) (x := (.tmp 4)) (g := g206) (off := 0) (i := 0) (v := (.agg #[(.int .i64 pVisitor9), (.string ⟨List.toArray pName10⟩), (.string ⟨List.toArray pTenant11⟩), (.int .i64 pEpoch12)])) (d := (some 51)) (k := 5) K rfl K hs365 rfl K ?_
      exact ⟨rfl, _, updO_known hkn, rfl⟩
    ·exact Owe.run K [(8, (.string ⟨List.toArray l248⟩))] ⟨gS K K, trivial⟩ (.string ⟨List.toArray l248⟩) (fun _ _ => K) rfl
    ·exact Owe.run K [(51, (.agg #[(.int .i64 pVisitor9), (.string ⟨List.toArray pName10⟩), (.string ⟨List.toArray pTenant11⟩), (.int .i64 pEpoch12)])), (52, (.string ⟨List.toArray l248⟩))] ⟨gA 5 K K, gA 6 K K, trivial⟩ (.agg #[(.int .i64 pVisitor9), (.string ⟨List.toArray pName10⟩), (.string ⟨List.toArray pTenant11⟩), (.int .i64 pEpoch12), (.string ⟨List.toArray l248⟩)]) (fun _ _ => K) rfl
    ·refine Owe.heavy K [(0, 1)] K (all_cons ⟨K, K, ?_⟩ all_nil)
     ·rintro ρ' w' hs hah ⟨hvl368, hs367⟩
      have hkn : Known ρ' [(53, (.agg #[(.int .i64 pVisitor9), (.string ⟨List.toArray pName10⟩), (.string ⟨List.toArray pTenant11⟩), (.int .i64 pEpoch12), (.string ⟨List.toArray l248⟩)]))] := ⟨hah 7 53 K, trivial⟩
      refine Step.known _ hkn ?_
      refine Step.newSlice (e := (ePair (eInt .i64) (ePair eStr (ePair eStr (ePair (eInt .i64) eStr))))) (T := 54) (E := 59) (len := 1) (parts := #[(0, (.tmp 53))]) (cs := #[(.int .i64 pVisitor9), (.string ⟨List.toArray pName10⟩), (.string ⟨List.toArray pTenant11⟩), (.int .i64 pEpoch12), (.string ⟨List.toArray l248⟩)]) ([(pVisitor9, pName10, pTenant11, pEpoch12, l248)] : List (Int × (List UInt8) × (List UInt8) × Int × (List UInt8))) (d := (some 54)) (k := 8) K rfl (fun _ => K) hs367 rfl rfl rfl rfl ?_
      intro g369 w370 (hs372 : SP S w0 w370 [boxE g206 31 #[(.int .i64 pVisitor9), (.string ⟨List.toArray pName10⟩), (.string ⟨List.toArray pTenant11⟩), (.int .i64 pEpoch12)], boxE g1 56 #[(.slice A214 (List.length q2) c215), (.int .i64 (IntKind.wrap .i64 (q5 + 1))), (.slice A216 (List.length q6) c217)], rdE eU8 A214 c215 q2, rowT 59 (ePair (eInt .i64) (ePair eStr (ePair eStr (ePair (eInt .i64) eStr)))) A216 c217 q6, rowT 9 eStr (some ⟨g265, 0, none⟩) (List.length ([z225, l234] : List (List UInt8))) ([z225, l234] : List (List UInt8)), rowT 59 (ePair (eInt .i64) (ePair eStr (ePair eStr (ePair (eInt .i64) eStr)))) (some ⟨g369, 0, none⟩) (List.length ([(pVisitor9, pName10, pTenant11, pEpoch12, l248)] : List (Int × (List UInt8) × (List UInt8) × Int × (List UInt8)))) ([(pVisitor9, pName10, pTenant11, pEpoch12, l248)] : List (Int × (List UInt8) × (List UInt8) × Int × (List UInt8)))])
      refine ⟨_, updO_known hkn, trivial, ?_⟩
      exact (Exists.intro g369 (And.intro (And.intro rfl (trivial)) (hs372)))
    ·refine Owe.heavy K [(1, 2)] K (all_cons ⟨K, K, ?_⟩ all_nil)
     ·rintro ρ' w' hs hah ⟨g335, ⟨q374, -⟩, hs373⟩
      have hkn : Known ρ' [(50, (.slice A216 (List.length q6) c217)), (54, (.slice (some ⟨g335, 0, none⟩) (List.length ([(pVisitor9, pName10, pTenant11, pEpoch12, l248)] : List (Int × (List UInt8) × (List UInt8) × Int × (List UInt8)))) (List.length ([(pVisitor9, pName10, pTenant11, pEpoch12, l248)] : List (Int × (List UInt8) × (List UInt8) × Int × (List UInt8))))))] := ⟨hah 4 50 K, (valF_eq (h := 8) K).symm.trans q374, trivial⟩
      refine Step.known _ hkn ?_
      refine Step.append (e := (ePair (eInt .i64) (ePair eStr (ePair eStr (ePair (eInt .i64) eStr))))) (l := q6) (m := ([(pVisitor9, pName10, pTenant11, pEpoch12, l248)] : List (Int × (List UInt8) × (List UInt8) × Int × (List UInt8)))) (A := A216) (c := c217) (T := 54) (TX := 54) (E := 59) (b := 64) (s := (.tmp 50)) (x := (.tmp 54)) (i := 3) (vx := (.slice (some ⟨g335, 0, none⟩) (List.length ([(pVisitor9, pName10, pTenant11, pEpoch12, l248)] : List (Int × (List UInt8) × (List UInt8) × Int × (List UInt8)))) (List.length ([(pVisitor9, pName10, pTenant11, pEpoch12, l248)] : List (Int × (List UInt8) × (List UInt8) × Int × (List UInt8)))))) (d := (some 55)) (k := 9) K rfl K K K K rfl hs373 rfl (src_rdt (E := 59) K (rowT_rd (SP.get hs373 (i := 5) rfl))) hl325 ?_
      rw [hyl326]
      intro A376 c377 w378 (hs380 : SP S w0 w378 [boxE g206 31 #[(.int .i64 pVisitor9), (.string ⟨List.toArray pName10⟩), (.string ⟨List.toArray pTenant11⟩), (.int .i64 pEpoch12)], boxE g1 56 #[(.slice A214 (List.length q2) c215), (.int .i64 (IntKind.wrap .i64 (q5 + 1))), (.slice A216 (List.length q6) c217)], rdE eU8 A214 c215 q2, rowT 59 (ePair (eInt .i64) (ePair eStr (ePair eStr (ePair (eInt .i64) eStr)))) A376 c377 l326, rowT 9 eStr (some ⟨g265, 0, none⟩) (List.length ([z225, l234] : List (List UInt8))) ([z225, l234] : List (List UInt8)), rowT 59 (ePair (eInt .i64) (ePair eStr (ePair eStr (ePair (eInt .i64) eStr)))) (some ⟨g335, 0, none⟩) (List.length ([(pVisitor9, pName10, pTenant11, pEpoch12, l248)] : List (Int × (List UInt8) × (List UInt8) × Int × (List UInt8)))) ([(pVisitor9, pName10, pTenant11, pEpoch12, l248)] : List (Int × (List UInt8) × (List UInt8) × Int × (List UInt8)))])
      refine ⟨_, updO_known hkn, trivial, ?_⟩
      exact (Exists.intro g335 (Exists.intro A376 (Exists.intro c377 (And.intro (And.intro q374 (And.intro rfl (trivial))) (hs380)))))
    ·exact Owe.run K [(46, (pt g1 0))] ⟨gA 0 K K, trivial⟩ (pt g1 0) (fun _ _ => K) rfl
    ·exact Owe.run K [(56, (pt g1 0))] ⟨gA 10 K K, trivial⟩ (pt g1 2) (fun _ _ => K) rfl
    ·refine Owe.heavy K [(2, 3)] K (all_cons ⟨K, K, ?_⟩ all_nil)
     ·rintro ρ' w' hs hah ⟨g339, A343, c344, ⟨q382, q383, -⟩, hs381⟩
      have hkn : Known ρ' [(57, (pt g1 2)), (55, (.slice A343 (List.length l326) c344))] := ⟨hah 11 57 K, (valF_eq (h := 9) K).symm.trans q383, trivial⟩
      refine Step.known _ hkn ?_
      refine Step.store (t := 54) (x := (.tmp 57)) (y := (.tmp 55)) (g := g1) (off := 2) (i := 1) (v := (.slice A343 (List.length l326) c344)) (cs' := #[(.slice A214 (List.length q2) c215), (.int .i64 (IntKind.wrap .i64 (q5 + 1))), (.slice A343 (List.length l326) c344)]) (d := none) (k := 12) K rfl K K hs381 rfl K ?_
      intro w385 (hs387 : SP S w0 w385 [boxE g206 31 #[(.int .i64 pVisitor9), (.string ⟨List.toArray pName10⟩), (.string ⟨List.toArray pTenant11⟩), (.int .i64 pEpoch12)], boxE g1 56 #[(.slice A214 (List.length q2) c215), (.int .i64 (IntKind.wrap .i64 (q5 + 1))), (.slice A343 (List.length l326) c344)], rdE eU8 A214 c215 q2, rowT 59 (ePair (eInt .i64) (ePair eStr (ePair eStr (ePair (eInt .i64) eStr)))) A343 c344 l326, rowT 9 eStr (some ⟨g265, 0, none⟩) (List.length ([z225, l234] : List (List UInt8))) ([z225, l234] : List (List UInt8)), rowT 59 (ePair (eInt .i64) (ePair eStr (ePair eStr (ePair (eInt .i64) eStr)))) (some ⟨g339, 0, none⟩) (List.length ([(pVisitor9, pName10, pTenant11, pEpoch12, l248)] : List (Int × (List UInt8) × (List UInt8) × Int × (List UInt8)))) ([(pVisitor9, pName10, pTenant11, pEpoch12, l248)] : List (Int × (List UInt8) × (List UInt8) × Int × (List UInt8)))])
      refine ⟨_, updO_known hkn, trivial, ?_⟩
      exact (Exists.intro g339 (Exists.intro A343 (Exists.intro c344 (And.intro (And.intro q382 (And.intro q383 (And.intro rfl (trivial)))) (hs387)))))
    ·rintro ρ' w' hs hf ⟨g348, A352, c353, ⟨q389, q390, q391, -⟩, hs388⟩
     refine postKnown [(8, (.string ⟨List.toArray l248⟩))] ⟨(hs 8 K).trans K, trivial⟩ ?_
     obtain ⟨w393, hww393⟩ : ∃ x, w' = x := ⟨_, rfl⟩
     rw [hww393] at hs388 ⊢
     refine At.sq K ?_
     refine At.region K K ?_
     refine In.run' 3 (k' := 3) rfl [(58, (.string ⟨List.toArray l248⟩)), (6, (.string ⟨List.toArray l248⟩)), (7, (.int .i64 0))] K ?_
     refine In.fin K ?_
     refine At.ret K ?_
     refine ⟨(.tuple #[(.string ⟨List.toArray l248⟩), (.int .i64 0)]), K, ?_⟩
     obtain rfl := some_elim H
     exact ⟨A214, c215, A352, c353, rfl, SP.sel hs388 [1,2,3] rfl rfl⟩
/-! L_subwayref15_Book_Issue -/
def L_subwayref15_Book_Issue_b1 (rec1 : Int → Option ((List UInt8) × Int × (List UInt8) × Int × (List ((List UInt8) × Int × (List UInt8) × (List UInt8) × Int)))) (q2 : (List UInt8)) (q3 : Int) (q4 : (List ((List UInt8) × Int × (List UInt8) × (List UInt8) × Int))) (pVisitor7 : Int) (pName8 : (List UInt8)) (pTenant9 : (List UInt8)) (pEpoch10 : Int) (p11 : (List UInt8)) (v1241 : Int) : Option ((List UInt8) × Int × (List UInt8) × Int × (List ((List UInt8) × Int × (List UInt8) × (List UInt8) × Int))) :=
  (cond (decide (v1241 < ((List.length q4 : Nat) : Int))) ((idx q4 v1241).bind fun x1546 => (cond (x1546.2.1 == pVisitor7) (some (([] : List UInt8), 4, q2, q3, q4)) (rec1 (IntKind.wrap .i64 (v1241 + 1))))) (cond (decide (((List.length q4 : Nat) : Int) ≥ 64)) (some (([] : List UInt8), 2, q2, q3, q4)) ((chk (Nat.ble (List.length q2) 281474976710656)).bind fun _ => ((L_subwayref01_Decimal (IntKind.wrap .i64 (q3 + 1))).bind fun z1595 => ((sub p11 0 (if 255 < ((List.length p11 : Nat) : Int) then 255 else ((List.length p11 : Nat) : Int))).bind fun l1604 => ((L_subwayref03_Proof q2 ([z1595, l1604] : List (List UInt8))).bind fun z1609 => ((sub z1609 0 32).bind fun l1768 => ((app q4 ([(l1768, pVisitor7, pName8, pTenant9, pEpoch10)] : List ((List UInt8) × Int × (List UInt8) × (List UInt8) × Int))).bind fun l1774 => ((sub z1609 0 32).bind fun l1847 => (some (l1847, 0, q2, (IntKind.wrap .i64 (q3 + 1)), l1774)))))))))))
def L_subwayref15_Book_Issue_l1 (q2 : (List UInt8)) (q3 : Int) (q4 : (List ((List UInt8) × Int × (List UInt8) × (List UInt8) × Int))) (pVisitor7 : Int) (pName8 : (List UInt8)) (pTenant9 : (List UInt8)) (pEpoch10 : Int) (p11 : (List UInt8)) : Nat → Int → Option ((List UInt8) × Int × (List UInt8) × Int × (List ((List UInt8) × Int × (List UInt8) × (List UInt8) × Int)))
  | 0, _ => none
  | f + 1, v1241 => L_subwayref15_Book_Issue_b1  (L_subwayref15_Book_Issue_l1 q2 q3 q4 pVisitor7 pName8 pTenant9 pEpoch10 p11 f) q2 q3 q4 pVisitor7 pName8 pTenant9 pEpoch10 p11 v1241
def L_subwayref15_Book_Issue (q2 : (List UInt8)) (q3 : Int) (q4 : (List ((List UInt8) × Int × (List UInt8) × (List UInt8) × Int))) (pVisitor7 : Int) (pName8 : (List UInt8)) (pTenant9 : (List UInt8)) (pEpoch10 : Int) (p11 : (List UInt8)) : Option ((List UInt8) × Int × (List UInt8) × Int × (List ((List UInt8) × Int × (List UInt8) × (List UInt8) × Int))) :=
  (L_subwayref15_Book_Issue_l1 q2 q3 q4 pVisitor7 pName8 pTenant9 pEpoch10 p11 fuel 0)
set_option maxRecDepth 100000 in
set_option maxHeartbeats 4000000 in
theorem L_subwayref15_Book_Issue_walk {S : List Nat} (g1 : Nat) (A5 : Option Addr) (c6 : Nat) (q2 : (List UInt8)) (q3 : Int) (q4 : (List ((List UInt8) × Int × (List UInt8) × (List UInt8) × Int))) (pVisitor7 : Int) (pName8 : (List UInt8)) (pTenant9 : (List UInt8)) (pEpoch10 : Int) (p11 : (List UInt8)) (w0 : World) (hO : SP S w0 w0 [boxE g1 44 #[(.string ⟨List.toArray q2⟩), (.int .i64 q3), (.slice A5 (List.length q4) c6)], rowT 63 (ePair eStr (ePair (eInt .i64) (ePair eStr (ePair eStr (eInt .i64))))) A5 c6 q4])  (r : ((List UInt8) × Int × (List UInt8) × Int × (List ((List UInt8) × Int × (List UInt8) × (List UInt8) × Int)))) (H : L_subwayref15_Book_Issue q2 q3 q4 pVisitor7 pName8 pTenant9 pEpoch10 p11 = some r) :
  Calls Tryd.prog 19 #[(pt g1 0), (.agg #[(.int .i64 pVisitor7), (.string ⟨List.toArray pName8⟩), (.string ⟨List.toArray pTenant9⟩), (.int .i64 pEpoch10)]), (.string ⟨List.toArray p11⟩)] w0 (fun e w' => ∃ (A929 : Option Addr) (c930 : Nat), e = .returned (.tuple #[(.string ⟨List.toArray r.1⟩), (.int .i64 r.2.1)]) ∧ SP S w0 w' [boxE g1 44 #[(.string ⟨List.toArray r.2.2.1⟩), (.int .i64 r.2.2.2.1), (.slice A929 (List.length r.2.2.2.2) c930)], rowT 63 (ePair eStr (ePair (eInt .i64) (ePair eStr (ePair eStr (eInt .i64))))) A929 c930 r.2.2.2.2]) := by
 unfold L_subwayref15_Book_Issue at H
 refine calls_go (n := 77) Tryd.func19 K K K ?_
 have hs0 := hO
 refine At.sq K ?_
 refine At.region K K ?_
 refine In.step (k' := 1) rfl K ?_
 refine Step.box (t := 31) (x := (.tmp 1)) (v := (.agg #[(.int .i64 pVisitor7), (.string ⟨List.toArray pName8⟩), (.string ⟨List.toArray pTenant9⟩), (.int .i64 pEpoch10)])) (d := (some 4)) (k := 0) K rfl K hs0 ?_
 intro g931 w932 (hs934 : SP S w0 w932 [boxE g1 44 #[(.string ⟨List.toArray q2⟩), (.int .i64 q3), (.slice A5 (List.length q4) c6)], rowT 63 (ePair eStr (ePair (eInt .i64) (ePair eStr (ePair eStr (eInt .i64))))) A5 c6 q4, boxE g931 31 #[(.int .i64 pVisitor7), (.string ⟨List.toArray pName8⟩), (.string ⟨List.toArray pTenant9⟩), (.int .i64 pEpoch10)]])
 refine In.run' 2 (k' := 3) rfl [(6, (.string ⟨List.toArray ([] : List UInt8)⟩)), (7, (.int .i64 0))] K ?_
 refine In.fin K ?_
 refine At.sq K ?_
 refine At.sq K ?_
 refine At.region K K ?_
 refine In.run' 1 (k' := 1) rfl [(8, (.int .i64 0))] K ?_
 refine In.fin K ?_
 refine At.bk K (id := 0) K ?_
 refine At.lp K (fun f1 ρ w => ∃ (v1241 : Int), Known ρ [(0, (pt g1 0)), (2, (.string ⟨List.toArray p11⟩)), (4, (pt g931 0)), (8, (.int .i64 v1241))] ∧ SP S w0 w [rowT 63 (ePair eStr (ePair (eInt .i64) (ePair eStr (ePair eStr (eInt .i64))))) A5 c6 q4, boxE g1 44 #[(.string ⟨List.toArray q2⟩), (.int .i64 q3), (.slice A5 (List.length q4) c6)], boxE g931 31 #[(.int .i64 pVisitor7), (.string ⟨List.toArray pName8⟩), (.string ⟨List.toArray pTenant9⟩), (.int .i64 pEpoch10)]] ∧ L_subwayref15_Book_Issue_l1 q2 q3 q4 pVisitor7 pName8 pTenant9 pEpoch10 p11 f1 v1241 = some r) (by rintro ρ w ⟨v1241, hk, hs, H⟩; cases H) ?_ fuel ?_
 ·rintro f1 ρ w1239 ⟨v1241, hk, hs1240, H⟩
  refine At.known [(0, (pt g1 0)), (2, (.string ⟨List.toArray p11⟩)), (4, (pt g931 0)), (8, (.int .i64 v1241))] hk ?_
  replace H := (show L_subwayref15_Book_Issue_b1 (L_subwayref15_Book_Issue_l1 q2 q3 q4 pVisitor7 pName8 pTenant9 pEpoch10 p11 f1) q2 q3 q4 pVisitor7 pName8 pTenant9 pEpoch10 p11 v1241 = some r from H)
  unfold L_subwayref15_Book_Issue_b1 at H
  refine At.sq K ?_
  refine At.sq K ?_
  refine At.region K K ?_
  refine In.run' 4 (k' := 4) rfl [(10, (.int .i64 v1241)), (11, (pt g1 0)), (12, (pt g1 0)), (13, (pt g1 2))] K ?_
  refine In.step (k' := 5) rfl K ?_
  refine Step.load (t := 42) (x := (.tmp 13)) (g := g1) (off := 2) (i := 1) (v := (.slice A5 (List.length q4) c6)) (d := (some 14)) (k := 4) K rfl K hs1240 rfl K ?_
  refine In.run' 2 (k' := 7) rfl [(15, (.int .i64 ((List.length q4 : Nat) : Int))), (16, (.bool (decide (v1241 < ((List.length q4 : Nat) : Int)))))] K ?_
  refine In.fin K ?_
  refine At.cd K (o := (.tmp 16)) K (b := (decide (v1241 < ((List.length q4 : Nat) : Int)))) K (fun hb1545 => ?_) (fun hb1545 => ?_)
  ·have H := ct H hb1545
   refine At.skip K ?_
   refine At.sq K ?_
   refine At.bk K (id := 1) K ?_
   refine At.sq K ?_
   obtain ⟨x1546, hp1547, hq1548, hx1549, H⟩ := idx_elim H
   refine At.stages K K K K K [GEq (pt g1 0), GEq (pt g1 0), GEq (pt g1 2), GEq (.slice A5 (List.length q4) c6), GEq (.int .i64 v1241), GElem0 A5 (ePair eStr (ePair (eInt .i64) (ePair eStr (ePair eStr (eInt .i64))))).sz v1241, GElem A5 (ePair eStr (ePair (eInt .i64) (ePair eStr (ePair eStr (eInt .i64))))).sz v1241 1, GElem A5 (ePair eStr (ePair (eInt .i64) (ePair eStr (ePair eStr (eInt .i64))))).sz v1241 1, GEq (.int .i64 x1546.2.1), GEq (pt g931 0), GEq (.int .i64 pVisitor7), GEq (.bool (x1546.2.1 == pVisitor7))] [] [([], fun vs w => VL vs [] ∧ SP S w0 w [rowT 63 (ePair eStr (ePair (eInt .i64) (ePair eStr (ePair eStr (eInt .i64))))) A5 c6 q4, boxE g1 44 #[(.string ⟨List.toArray q2⟩), (.int .i64 q3), (.slice A5 (List.length q4) c6)], boxE g931 31 #[(.int .i64 pVisitor7), (.string ⟨List.toArray pName8⟩), (.string ⟨List.toArray pTenant9⟩), (.int .i64 pEpoch10)]])] (N := 12) K ⟨K, Nat.zero_lt_succ _⟩ (show VL [] [] ∧ SP S w0 w1239.drew [rowT 63 (ePair eStr (ePair (eInt .i64) (ePair eStr (ePair eStr (eInt .i64))))) A5 c6 q4, boxE g1 44 #[(.string ⟨List.toArray q2⟩), (.int .i64 q3), (.slice A5 (List.length q4) c6)], boxE g931 31 #[(.int .i64 pVisitor7), (.string ⟨List.toArray pName8⟩), (.string ⟨List.toArray pTenant9⟩), (.int .i64 pEpoch10)]] from ⟨trivial, SP.drew hs1240⟩) ⟨⟨⟨⟨⟨⟨⟨⟨⟨⟨⟨⟨trivial, ?_⟩, ?_⟩, ?_⟩, ?_⟩, ?_⟩, ?_⟩, ?_⟩, ?_⟩, ?_⟩, ?_⟩, ?_⟩, ?_⟩ (last := 0) K ?_
   ·exact Owe.run K [(0, (pt g1 0))] ⟨gS K K, trivial⟩ (pt g1 0) (fun _ _ => K) rfl
   ·exact Owe.run K [(19, (pt g1 0))] ⟨gA 0 K K, trivial⟩ (pt g1 0) (fun _ _ => K) rfl
   ·exact Owe.run K [(20, (pt g1 0))] ⟨gA 1 K K, trivial⟩ (pt g1 2) (fun _ _ => K) rfl
   ·refine Owe.light K [0] K (all_cons ?_ all_nil)
    ·rintro ρ' w' hs hah ⟨hvl1556, hs1555⟩
     have hkn : Known ρ' [(21, (pt g1 2))] := ⟨hah 2 21 K, trivial⟩
     refine Step.known _ hkn ?_
     refine Step.load (t := 42) (x := (.tmp 21)) (g := g1) (off := 2) (i := 1) (v := (.slice A5 (List.length q4) c6)) (d := (some 22)) (k := 3) K rfl K hs1555 rfl K ?_
     exact ⟨rfl, _, updO_known hkn, rfl⟩
   ·exact Owe.run K [(8, (.int .i64 v1241))] ⟨gS K K, trivial⟩ (.int .i64 v1241) (fun _ _ => K) rfl
   ·refine Owe.light K [0] K (all_cons ?_ all_nil)
    ·rintro ρ' w' hs hah ⟨hvl1558, hs1557⟩
     have hkn : Known ρ' [(22, (.slice A5 (List.length q4) c6)), (23, (.int .i64 v1241))] := ⟨hah 3 22 K, hah 4 23 K, trivial⟩
     refine Step.known _ hkn ?_
     refine Step.elem (e := (ePair eStr (ePair (eInt .i64) (ePair eStr (ePair eStr (eInt .i64)))))) (l := q4) (A := A5) (c := c6) (T := 42) (E := 63) (x := (.tmp 22)) (ix := (.tmp 23)) (ki := .i64) (iz := v1241) (d := (some 24)) (k := 5) K rfl K K K K (rowT_rd (SP.get hs1557 (i := 0) rfl)) hp1547 hq1548 ?_
     intro b1559 o1560 hA1562 hb1563 hc1561
     exact ⟨rfl, _, updO_known hkn, ⟨b1559, o1560, hA1562, rfl⟩⟩
   ·refine Owe.light K [0] K (all_cons ?_ all_nil)
    ·rintro ρ' w' hs hah ⟨hvl1565, hs1564⟩
     obtain ⟨b1566, o1567, hA1568, e24⟩ := hah 5 24 K
     have hkn : Known ρ' [(24, (.pointer (some ⟨b1566, (o1567 + Int.toNat v1241 * (ePair eStr (ePair (eInt .i64) (ePair eStr (ePair eStr (eInt .i64))))).sz), none⟩)))] := ⟨e24, trivial⟩
     refine Step.known _ hkn ?_
     refine Step.run (k := 6) (v := (.pointer (some ⟨b1566, (o1567 + Int.toNat v1241 * (ePair eStr (ePair (eInt .i64) (ePair eStr (ePair eStr (eInt .i64))))).sz + 1), none⟩))) K ?_
     exact ⟨rfl, _, updO_known hkn, ⟨b1566, o1567, hA1568, rfl⟩⟩
   ·refine Owe.light K [0] K (all_cons ?_ all_nil)
    ·rintro ρ' w' hs hah ⟨hvl1570, hs1569⟩
     obtain ⟨b1571, o1572, hA1573, e25⟩ := hah 6 25 K
     have hkn : Known ρ' [(25, (.pointer (some ⟨b1571, (o1572 + Int.toNat v1241 * (ePair eStr (ePair (eInt .i64) (ePair eStr (ePair eStr (eInt .i64))))).sz + 1), none⟩)))] := ⟨e25, trivial⟩
     refine Step.known _ hkn ?_
     refine Step.run (k := 7) (v := (.pointer (some ⟨b1571, (o1572 + Int.toNat v1241 * (ePair eStr (ePair (eInt .i64) (ePair eStr (ePair eStr (eInt .i64))))).sz + 1), none⟩))) K ?_
     exact ⟨rfl, _, updO_known hkn, ⟨b1571, o1572, hA1573, rfl⟩⟩
   ·refine Owe.light K [0] K (all_cons ?_ all_nil)
    ·rintro ρ' w' hs hah ⟨hvl1575, hs1574⟩
     obtain ⟨b1576, o1577, hA1578, e26⟩ := hah 7 26 K
     have hkn : Known ρ' [(26, (.pointer (some ⟨b1576, (o1577 + Int.toNat v1241 * (ePair eStr (ePair (eInt .i64) (ePair eStr (ePair eStr (eInt .i64))))).sz + 1), none⟩)))] := ⟨e26, trivial⟩
     refine Step.known _ hkn ?_
     refine Step.cell (t := 3) (x := (.tmp 26)) (b := b1576) (off := (o1577 + Int.toNat v1241 * (ePair eStr (ePair (eInt .i64) (ePair eStr (ePair eStr (eInt .i64))))).sz + 1)) (v := (.int .i64 x1546.2.1)) (d := (some 27)) (k := 8) K rfl K K (elem_cell (e := (ePair eStr (ePair (eInt .i64) (ePair eStr (ePair eStr (eInt .i64)))))) (rdt_cells (rowT_rd (SP.get hs1574 (i := 0) rfl)) hA1578 hp1547 hq1548) hx1549 (j := 1) rfl) ?_
     exact ⟨rfl, _, updO_known hkn, rfl⟩
   ·exact Owe.run K [(4, (pt g931 0))] ⟨gS K K, trivial⟩ (pt g931 0) (fun _ _ => K) rfl
   ·refine Owe.light K [0] K (all_cons ?_ all_nil)
    ·rintro ρ' w' hs hah ⟨hvl1580, hs1579⟩
     have hkn : Known ρ' [(28, (pt g931 0))] := ⟨hah 9 28 K, trivial⟩
     refine Step.known _ hkn ?_
     refine Step.load (t := 3) (x := (.tmp 28)) (g := g931) (off := 0) (i := 2) (v := (.int .i64 pVisitor7)) (d := (some 29)) (k := 10) K rfl K hs1579 rfl K ?_
     exact ⟨rfl, _, updO_known hkn, rfl⟩
   ·exact Owe.run K [(27, (.int .i64 x1546.2.1)), (29, (.int .i64 pVisitor7))] ⟨gA 8 K K, gA 10 K K, trivial⟩ (.bool (x1546.2.1 == pVisitor7)) (fun _ _ => K) rfl
   ·rintro ρ' w' hs hf ⟨hvl1582, hs1581⟩
    refine postKnown [(0, (pt g1 0)), (2, (.string ⟨List.toArray p11⟩)), (4, (pt g931 0)), (8, (.int .i64 v1241)), (30, (.bool (x1546.2.1 == pVisitor7)))] ⟨(hs 0 K).trans K, (hs 2 K).trans K, (hs 4 K).trans K, (hs 8 K).trans K, hf 11 30 K, trivial⟩ ?_
    obtain ⟨w1583, hww1583⟩ : ∃ x, w' = x := ⟨_, rfl⟩
    rw [hww1583] at hs1581 ⊢
    refine At.cd K (o := (.tmp 30)) K (b := (x1546.2.1 == pVisitor7)) K (fun hb1584 => ?_) (fun hb1584 => ?_)
    ·have H := ct H hb1584
     refine At.sq K ?_
     refine At.region K K ?_
     refine In.run' 2 (k' := 2) rfl [(6, (.string ⟨List.toArray ([] : List UInt8)⟩)), (7, (.int .i64 4))] K ?_
     refine In.fin K ?_
     refine At.ret K ?_
     refine ⟨(.tuple #[(.string ⟨List.toArray ([] : List UInt8)⟩), (.int .i64 4)]), K, ?_⟩
     obtain rfl := some_elim H
     exact ⟨A5, c6, rfl, SP.sel hs1581 [1,0] rfl rfl⟩
    ·have H := cf H hb1584
     refine At.skip K ?_
     refine At.region K K ?_
     refine In.run' 3 (k' := 3) rfl [(17, (.int .i64 v1241)), (18, (.int .i64 (IntKind.wrap .i64 (v1241 + 1)))), (8, (.int .i64 (IntKind.wrap .i64 (v1241 + 1))))] K ?_
     refine In.fin K ?_
     exact ⟨(IntKind.wrap .i64 (v1241 + 1)), ⟨K, K, K, K, trivial⟩, SP.sel hs1581 [0, 1, 2] rfl rfl, H⟩
  ·have H := cf H hb1545
   refine At.exit K (id := 0) K ?_
   refine At.sq K ?_
   refine At.sq K ?_
   refine At.region K K ?_
   refine In.run' 3 (k' := 3) rfl [(31, (pt g1 0)), (32, (pt g1 0)), (33, (pt g1 2))] K ?_
   refine In.step (k' := 4) rfl K ?_
   refine Step.load (t := 42) (x := (.tmp 33)) (g := g1) (off := 2) (i := 1) (v := (.slice A5 (List.length q4) c6)) (d := (some 34)) (k := 3) K rfl K hs1240 rfl K ?_
   refine In.run' 2 (k' := 6) rfl [(35, (.int .i64 ((List.length q4 : Nat) : Int))), (36, (.bool (decide (((List.length q4 : Nat) : Int) ≥ 64))))] K ?_
   refine In.fin K ?_
   refine At.cd K (o := (.tmp 36)) K (b := (decide (((List.length q4 : Nat) : Int) ≥ 64))) K (fun hb1585 => ?_) (fun hb1585 => ?_)
   ·have H := ct H hb1585
    refine At.sq K ?_
    refine At.region K K ?_
    refine In.run' 2 (k' := 2) rfl [(6, (.string ⟨List.toArray ([] : List UInt8)⟩)), (7, (.int .i64 2))] K ?_
    refine In.fin K ?_
    refine At.ret K ?_
    refine ⟨(.tuple #[(.string ⟨List.toArray ([] : List UInt8)⟩), (.int .i64 2)]), K, ?_⟩
    obtain rfl := some_elim H
    exact ⟨A5, c6, rfl, SP.sel hs1240 [1,0] rfl rfl⟩
   ·have H := cf H hb1585
    refine At.skip K ?_
    refine At.sq K ?_
    refine At.region K K ?_
    refine In.run' 4 (k' := 4) rfl [(37, (pt g1 0)), (38, (pt g1 0)), (39, (pt g1 0)), (40, (pt g1 1))] K ?_
    refine In.step (k' := 5) rfl K ?_
    refine Step.load (t := 2) (x := (.tmp 40)) (g := g1) (off := 1) (i := 1) (v := (.int .i64 q3)) (d := (some 41)) (k := 4) K rfl K hs1240 rfl K ?_
    refine In.run' 3 (k' := 8) rfl [(42, (.int .i64 (IntKind.wrap .i64 (q3 + 1)))), (43, (pt g1 0)), (44, (pt g1 1))] K ?_
    refine In.step (k' := 9) rfl K ?_
    refine Step.store (t := 2) (x := (.tmp 44)) (y := (.tmp 42)) (g := g1) (off := 1) (i := 1) (v := (.int .i64 (IntKind.wrap .i64 (q3 + 1)))) (cs' := #[(.string ⟨List.toArray q2⟩), (.int .i64 (IntKind.wrap .i64 (q3 + 1))), (.slice A5 (List.length q4) c6)]) (d := none) (k := 8) K rfl K K hs1240 rfl K ?_
    intro w1586 (hs1588 : SP S w0 w1586 [rowT 63 (ePair eStr (ePair (eInt .i64) (ePair eStr (ePair eStr (eInt .i64))))) A5 c6 q4, boxE g1 44 #[(.string ⟨List.toArray q2⟩), (.int .i64 (IntKind.wrap .i64 (q3 + 1))), (.slice A5 (List.length q4) c6)], boxE g931 31 #[(.int .i64 pVisitor7), (.string ⟨List.toArray pName8⟩), (.string ⟨List.toArray pTenant9⟩), (.int .i64 pEpoch10)]])
    refine In.fin K ?_
    refine At.sq K ?_
    obtain ⟨hb1589, H⟩ := chk_elim H
    obtain ⟨z1595, hz1596, H⟩ := bind_elim H
    obtain ⟨hz1601, hz1602, hz1603, H⟩ := sub_elim H
    obtain ⟨l1604, hyl1604⟩ : ∃ y, (List.drop (Int.toNat 0) (List.take (Int.toNat (if 255 < ((List.length p11 : Nat) : Int) then 255 else ((List.length p11 : Nat) : Int))) p11)) = y := ⟨_, rfl⟩
    rw [hyl1604] at H
    obtain ⟨z1609, hz1610, H⟩ := bind_elim H
    refine At.stages K K K K K [GEq (pt g1 0), GEq (pt g1 0), GEq (pt g1 0), GEq (.string ⟨List.toArray q2⟩), GAny, GEq (pt g1 0), GEq (pt g1 0), GEq (pt g1 1), GEq (.int .i64 (IntKind.wrap .i64 (q3 + 1))), GEq (.string ⟨List.toArray z1595⟩), GEq (.string ⟨List.toArray p11⟩), GEq (.string ⟨List.toArray p11⟩), GEq (.int .i64 ((List.length p11 : Nat) : Int)), GEq (.int .i64 (if 255 < ((List.length p11 : Nat) : Int) then 255 else ((List.length p11 : Nat) : Int))), GEq (.string ⟨List.toArray l1604⟩), GAny, GEq (.string ⟨List.toArray z1609⟩), GEq (.string ⟨List.toArray z1609⟩)] [4, 9, 15, 16] [([], fun vs w => VL vs [] ∧ SP S w0 w [rowT 63 (ePair eStr (ePair (eInt .i64) (ePair eStr (ePair eStr (eInt .i64))))) A5 c6 q4, boxE g1 44 #[(.string ⟨List.toArray q2⟩), (.int .i64 (IntKind.wrap .i64 (q3 + 1))), (.slice A5 (List.length q4) c6)], boxE g931 31 #[(.int .i64 pVisitor7), (.string ⟨List.toArray pName8⟩), (.string ⟨List.toArray pTenant9⟩), (.int .i64 pEpoch10)]]), ([4], fun vs w => ∃ (g1615 : Nat), ∃ (c1616 : Nat), VL vs [(.slice (some ⟨g1615, 0, none⟩) (List.length q2) c1616)] ∧ SP S w0 w [rowT 63 (ePair eStr (ePair (eInt .i64) (ePair eStr (ePair eStr (eInt .i64))))) A5 c6 q4, boxE g1 44 #[(.string ⟨List.toArray q2⟩), (.int .i64 (IntKind.wrap .i64 (q3 + 1))), (.slice A5 (List.length q4) c6)], boxE g931 31 #[(.int .i64 pVisitor7), (.string ⟨List.toArray pName8⟩), (.string ⟨List.toArray pTenant9⟩), (.int .i64 pEpoch10)], rdE eU8 (some ⟨g1615, 0, none⟩) c1616 q2]), ([9], fun vs w => VL vs [(.string ⟨List.toArray z1595⟩)] ∧ SP S w0 w [rowT 63 (ePair eStr (ePair (eInt .i64) (ePair eStr (ePair eStr (eInt .i64))))) A5 c6 q4, boxE g1 44 #[(.string ⟨List.toArray q2⟩), (.int .i64 (IntKind.wrap .i64 (q3 + 1))), (.slice A5 (List.length q4) c6)], boxE g931 31 #[(.int .i64 pVisitor7), (.string ⟨List.toArray pName8⟩), (.string ⟨List.toArray pTenant9⟩), (.int .i64 pEpoch10)]]), ([4, 9], fun vs w => ∃ (g1624 : Nat), ∃ (c1625 : Nat), VL vs [(.slice (some ⟨g1624, 0, none⟩) (List.length q2) c1625), (.string ⟨List.toArray z1595⟩)] ∧ SP S w0 w [rowT 63 (ePair eStr (ePair (eInt .i64) (ePair eStr (ePair eStr (eInt .i64))))) A5 c6 q4, boxE g1 44 #[(.string ⟨List.toArray q2⟩), (.int .i64 (IntKind.wrap .i64 (q3 + 1))), (.slice A5 (List.length q4) c6)], boxE g931 31 #[(.int .i64 pVisitor7), (.string ⟨List.toArray pName8⟩), (.string ⟨List.toArray pTenant9⟩), (.int .i64 pEpoch10)], rdE eU8 (some ⟨g1624, 0, none⟩) c1625 q2]), ([9, 15], fun vs w => ∃ (g1637 : Nat), VL vs [(.string ⟨List.toArray z1595⟩), (.slice (some ⟨g1637, 0, none⟩) (List.length ([z1595, l1604] : List (List UInt8))) (List.length ([z1595, l1604] : List (List UInt8))))] ∧ SP S w0 w [rowT 63 (ePair eStr (ePair (eInt .i64) (ePair eStr (ePair eStr (eInt .i64))))) A5 c6 q4, boxE g1 44 #[(.string ⟨List.toArray q2⟩), (.int .i64 (IntKind.wrap .i64 (q3 + 1))), (.slice A5 (List.length q4) c6)], boxE g931 31 #[(.int .i64 pVisitor7), (.string ⟨List.toArray pName8⟩), (.string ⟨List.toArray pTenant9⟩), (.int .i64 pEpoch10)], rowT 9 eStr (some ⟨g1637, 0, none⟩) (List.length ([z1595, l1604] : List (List UInt8))) ([z1595, l1604] : List (List UInt8))]), ([4, 9, 15], fun vs w => ∃ (g1641 : Nat), ∃ (c1642 : Nat), ∃ (g1650 : Nat), VL vs [(.slice (some ⟨g1641, 0, none⟩) (List.length q2) c1642), (.string ⟨List.toArray z1595⟩), (.slice (some ⟨g1650, 0, none⟩) (List.length ([z1595, l1604] : List (List UInt8))) (List.length ([z1595, l1604] : List (List UInt8))))] ∧ SP S w0 w [rowT 63 (ePair eStr (ePair (eInt .i64) (ePair eStr (ePair eStr (eInt .i64))))) A5 c6 q4, boxE g1 44 #[(.string ⟨List.toArray q2⟩), (.int .i64 (IntKind.wrap .i64 (q3 + 1))), (.slice A5 (List.length q4) c6)], boxE g931 31 #[(.int .i64 pVisitor7), (.string ⟨List.toArray pName8⟩), (.string ⟨List.toArray pTenant9⟩), (.int .i64 pEpoch10)], rdE eU8 (some ⟨g1641, 0, none⟩) c1642 q2, rowT 9 eStr (some ⟨g1650, 0, none⟩) (List.length ([z1595, l1604] : List (List UInt8))) ([z1595, l1604] : List (List UInt8))]), ([4, 9, 15, 16], fun vs w => ∃ (g1654 : Nat), ∃ (c1655 : Nat), ∃ (g1663 : Nat), VL vs [(.slice (some ⟨g1654, 0, none⟩) (List.length q2) c1655), (.string ⟨List.toArray z1595⟩), (.slice (some ⟨g1663, 0, none⟩) (List.length ([z1595, l1604] : List (List UInt8))) (List.length ([z1595, l1604] : List (List UInt8)))), (.string ⟨List.toArray z1609⟩)] ∧ SP S w0 w [rowT 63 (ePair eStr (ePair (eInt .i64) (ePair eStr (ePair eStr (eInt .i64))))) A5 c6 q4, boxE g1 44 #[(.string ⟨List.toArray q2⟩), (.int .i64 (IntKind.wrap .i64 (q3 + 1))), (.slice A5 (List.length q4) c6)], boxE g931 31 #[(.int .i64 pVisitor7), (.string ⟨List.toArray pName8⟩), (.string ⟨List.toArray pTenant9⟩), (.int .i64 pEpoch10)], rdE eU8 (some ⟨g1654, 0, none⟩) c1655 q2, rowT 9 eStr (some ⟨g1663, 0, none⟩) (List.length ([z1595, l1604] : List (List UInt8))) ([z1595, l1604] : List (List UInt8))])] (N := 18) K ⟨K, Nat.zero_lt_succ _⟩ (show VL [] [] ∧ SP S w0 w1586.drew [rowT 63 (ePair eStr (ePair (eInt .i64) (ePair eStr (ePair eStr (eInt .i64))))) A5 c6 q4, boxE g1 44 #[(.string ⟨List.toArray q2⟩), (.int .i64 (IntKind.wrap .i64 (q3 + 1))), (.slice A5 (List.length q4) c6)], boxE g931 31 #[(.int .i64 pVisitor7), (.string ⟨List.toArray pName8⟩), (.string ⟨List.toArray pTenant9⟩), (.int .i64 pEpoch10)]] from ⟨trivial, SP.drew hs1588⟩) ⟨⟨⟨⟨⟨⟨⟨⟨⟨⟨⟨⟨⟨⟨⟨⟨⟨⟨trivial, ?_⟩, ?_⟩, ?_⟩, ?_⟩, ?_⟩, ?_⟩, ?_⟩, ?_⟩, ?_⟩, ?_⟩, ?_⟩, ?_⟩, ?_⟩, ?_⟩, ?_⟩, ?_⟩, ?_⟩, ?_⟩ (last := 6) K ?_
    ·exact Owe.run K [(0, (pt g1 0))] ⟨gS K K, trivial⟩ (pt g1 0) (fun _ _ => K) rfl
    ·exact Owe.run K [(45, (pt g1 0))] ⟨gA 0 K K, trivial⟩ (pt g1 0) (fun _ _ => K) rfl
    ·exact Owe.run K [(46, (pt g1 0))] ⟨gA 1 K K, trivial⟩ (pt g1 0) (fun _ _ => K) rfl
    ·refine Owe.light K [0, 2, 4] K (all_cons ?_ (all_cons ?_ (all_cons ?_ all_nil)))
     ·rintro ρ' w' hs hah ⟨hvl1672, hs1671⟩
      have hkn : Known ρ' [(47, (pt g1 0))] := ⟨hah 2 47 K, trivial⟩
      refine Step.known _ hkn ?_
      refine Step.load (t := 9) (x := (.tmp 47)) (g := g1) (off := 0) (i := 1) (v := (.string ⟨List.toArray q2⟩)) (d := (some 48)) (k := 3) K rfl K hs1671 rfl K ?_
      exact ⟨rfl, _, updO_known hkn, rfl⟩
     ·rintro ρ' w' hs hah ⟨⟨q1674, -⟩, hs1673⟩
      have hkn : Known ρ' [(47, (pt g1 0))] := ⟨hah 2 47 K, trivial⟩
      refine Step.known _ hkn ?_
      refine Step.load (t := 9) (x := (.tmp 47)) (g := g1) (off := 0) (i := 1) (v := (.string ⟨List.toArray q2⟩)) (d := (some 48)) (k := 3) K rfl K hs1673 rfl K ?_
      exact ⟨rfl, _, updO_known hkn, rfl⟩
     ·rintro ρ' w' hs hah ⟨g1637, ⟨q1677, q1678, -⟩, hs1676⟩
      have hkn : Known ρ' [(47, (pt g1 0))] := ⟨hah 2 47 K, trivial⟩
      refine Step.known _ hkn ?_
      refine Step.load (t := 9) (x := (.tmp 47)) (g := g1) (off := 0) (i := 1) (v := (.string ⟨List.toArray q2⟩)) (d := (some 48)) (k := 3) K rfl K hs1676 rfl K ?_
      exact ⟨rfl, _, updO_known hkn, rfl⟩
    ·refine Owe.heavy K [(0, 1), (2, 3), (4, 5)] K (all_cons ⟨K, K, ?_⟩ (all_cons ⟨K, K, ?_⟩ (all_cons ⟨K, K, ?_⟩ all_nil)))
     ·rintro ρ' w' hs hah ⟨hvl1681, hs1680⟩
      have hkn : Known ρ' [(48, (.string ⟨List.toArray q2⟩))] := ⟨hah 3 48 K, trivial⟩
      refine Step.known _ hkn ?_
      refine Step.toBytes (S' := 9) (T := 50) (E := 5) (x := (.tmp 48)) (l := q2) (d := (some 49)) (k := 4) K rfl K K K K (max_of_chk48 hb1589) hs1680 ?_
      intro g1682 c1683 w1684 hs1685 _
      have hs1686 : SP S w0 w1684 [rowT 63 (ePair eStr (ePair (eInt .i64) (ePair eStr (ePair eStr (eInt .i64))))) A5 c6 q4, boxE g1 44 #[(.string ⟨List.toArray q2⟩), (.int .i64 (IntKind.wrap .i64 (q3 + 1))), (.slice A5 (List.length q4) c6)], boxE g931 31 #[(.int .i64 pVisitor7), (.string ⟨List.toArray pName8⟩), (.string ⟨List.toArray pTenant9⟩), (.int .i64 pEpoch10)], rdE eU8 (some ⟨g1682, 0, none⟩) c1683 q2] := hs1685
      clear hs1685
      refine ⟨_, updO_known hkn, trivial, ?_⟩
      exact (Exists.intro g1682 (Exists.intro c1683 (And.intro (And.intro rfl (trivial)) (hs1686))))
     ·rintro ρ' w' hs hah ⟨⟨q1688, -⟩, hs1687⟩
      have hkn : Known ρ' [(48, (.string ⟨List.toArray q2⟩))] := ⟨hah 3 48 K, trivial⟩
      refine Step.known _ hkn ?_
      refine Step.toBytes (S' := 9) (T := 50) (E := 5) (x := (.tmp 48)) (l := q2) (d := (some 49)) (k := 4) K rfl K K K K (max_of_chk48 hb1589) hs1687 ?_
      intro g1690 c1691 w1692 hs1693 _
      have hs1694 : SP S w0 w1692 [rowT 63 (ePair eStr (ePair (eInt .i64) (ePair eStr (ePair eStr (eInt .i64))))) A5 c6 q4, boxE g1 44 #[(.string ⟨List.toArray q2⟩), (.int .i64 (IntKind.wrap .i64 (q3 + 1))), (.slice A5 (List.length q4) c6)], boxE g931 31 #[(.int .i64 pVisitor7), (.string ⟨List.toArray pName8⟩), (.string ⟨List.toArray pTenant9⟩), (.int .i64 pEpoch10)], rdE eU8 (some ⟨g1690, 0, none⟩) c1691 q2] := hs1693
      clear hs1693
      refine ⟨_, updO_known hkn, trivial, ?_⟩
      exact (Exists.intro g1690 (Exists.intro c1691 (And.intro (And.intro rfl (And.intro q1688 (trivial))) (hs1694))))
     ·rintro ρ' w' hs hah ⟨g1637, ⟨q1696, q1697, -⟩, hs1695⟩
      have hkn : Known ρ' [(48, (.string ⟨List.toArray q2⟩))] := ⟨hah 3 48 K, trivial⟩
      refine Step.known _ hkn ?_
      refine Step.toBytes (S' := 9) (T := 50) (E := 5) (x := (.tmp 48)) (l := q2) (d := (some 49)) (k := 4) K rfl K K K K (max_of_chk48 hb1589) hs1695 ?_
      intro g1699 c1700 w1701 hs1702 _
      have hs1703 : SP S w0 w1701 [rowT 63 (ePair eStr (ePair (eInt .i64) (ePair eStr (ePair eStr (eInt .i64))))) A5 c6 q4, boxE g1 44 #[(.string ⟨List.toArray q2⟩), (.int .i64 (IntKind.wrap .i64 (q3 + 1))), (.slice A5 (List.length q4) c6)], boxE g931 31 #[(.int .i64 pVisitor7), (.string ⟨List.toArray pName8⟩), (.string ⟨List.toArray pTenant9⟩), (.int .i64 pEpoch10)], rowT 9 eStr (some ⟨g1637, 0, none⟩) (List.length ([z1595, l1604] : List (List UInt8))) ([z1595, l1604] : List (List UInt8)), rdE eU8 (some ⟨g1699, 0, none⟩) c1700 q2] := hs1702
      clear hs1702
      refine ⟨_, updO_known hkn, trivial, ?_⟩
      exact (Exists.intro g1699 (Exists.intro c1700 (Exists.intro g1637 (And.intro (And.intro rfl (And.intro q1696 (And.intro q1697 (trivial)))) (SP.sel hs1703 [0, 1, 2, 4, 3] rfl rfl)))))
    ·exact Owe.run K [(0, (pt g1 0))] ⟨gS K K, trivial⟩ (pt g1 0) (fun _ _ => K) rfl
    ·exact Owe.run K [(50, (pt g1 0))] ⟨gA 5 K K, trivial⟩ (pt g1 0) (fun _ _ => K) rfl
    ·exact Owe.run K [(51, (pt g1 0))] ⟨gA 6 K K, trivial⟩ (pt g1 1) (fun _ _ => K) rfl
    ·refine Owe.light K [0, 1] K (all_cons ?_ (all_cons ?_ all_nil))
     ·rintro ρ' w' hs hah ⟨hvl1705, hs1704⟩
      have hkn : Known ρ' [(52, (pt g1 1))] := ⟨hah 7 52 K, trivial⟩
      refine Step.known _ hkn ?_
      refine Step.load (t := 2) (x := (.tmp 52)) (g := g1) (off := 1) (i := 1) (v := (.int .i64 (IntKind.wrap .i64 (q3 + 1)))) (d := (some 53)) (k := 8) K rfl K hs1704 rfl K ?_
      exact ⟨rfl, _, updO_known hkn, rfl⟩
     ·rintro ρ' w' hs hah ⟨g1615, c1616, ⟨q1707, -⟩, hs1706⟩
      have hkn : Known ρ' [(52, (pt g1 1))] := ⟨hah 7 52 K, trivial⟩
      refine Step.known _ hkn ?_
      refine Step.load (t := 2) (x := (.tmp 52)) (g := g1) (off := 1) (i := 1) (v := (.int .i64 (IntKind.wrap .i64 (q3 + 1)))) (d := (some 53)) (k := 8) K rfl K hs1706 rfl K ?_
      exact ⟨rfl, _, updO_known hkn, rfl⟩
    ·refine Owe.heavy K [(0, 2), (1, 3)] K (all_cons ⟨K, K, ?_⟩ (all_cons ⟨K, K, ?_⟩ all_nil))
     ·rintro ρ' w' hs hah ⟨hvl1710, hs1709⟩
      have hkn : Known ρ' [(53, (.int .i64 (IntKind.wrap .i64 (q3 + 1))))] := ⟨hah 8 53 K, trivial⟩
      refine Step.known _ hkn ?_
      refine Step.callF (f := 29) (fo := (.func 29)) (xs := #[(.tmp 53)]) (tys := #[2]) (first := #[]) (captured := #[]) (d := (some 54)) (k := 9) K rfl K K Tryd.call29 (L_subwayref01_Decimal_walk  (IntKind.wrap .i64 (q3 + 1)) w'  z1595 hz1596) ?_
      rintro e w1711 ⟨rfl, hs1712⟩
      refine ⟨_, rfl, ?_⟩
      have hs1714 : SP S w0 w1711 [rowT 63 (ePair eStr (ePair (eInt .i64) (ePair eStr (ePair eStr (eInt .i64))))) A5 c6 q4, boxE g1 44 #[(.string ⟨List.toArray q2⟩), (.int .i64 (IntKind.wrap .i64 (q3 + 1))), (.slice A5 (List.length q4) c6)], boxE g931 31 #[(.int .i64 pVisitor7), (.string ⟨List.toArray pName8⟩), (.string ⟨List.toArray pTenant9⟩), (.int .i64 pEpoch10)]] := SP.call hs1709 hs1712
      clear hs1712
      refine ⟨_, updO_known hkn, rfl, ?_⟩
      exact (And.intro (And.intro rfl (trivial)) (hs1714))
     ·rintro ρ' w' hs hah ⟨g1615, c1616, ⟨q1716, -⟩, hs1715⟩
      have hkn : Known ρ' [(53, (.int .i64 (IntKind.wrap .i64 (q3 + 1))))] := ⟨hah 8 53 K, trivial⟩
      refine Step.known _ hkn ?_
      refine Step.callF (f := 29) (fo := (.func 29)) (xs := #[(.tmp 53)]) (tys := #[2]) (first := #[]) (captured := #[]) (d := (some 54)) (k := 9) K rfl K K Tryd.call29 (L_subwayref01_Decimal_walk  (IntKind.wrap .i64 (q3 + 1)) w'  z1595 hz1596) ?_
      rintro e w1718 ⟨rfl, hs1719⟩
      refine ⟨_, rfl, ?_⟩
      have hs1721 : SP S w0 w1718 [rowT 63 (ePair eStr (ePair (eInt .i64) (ePair eStr (ePair eStr (eInt .i64))))) A5 c6 q4, boxE g1 44 #[(.string ⟨List.toArray q2⟩), (.int .i64 (IntKind.wrap .i64 (q3 + 1))), (.slice A5 (List.length q4) c6)], boxE g931 31 #[(.int .i64 pVisitor7), (.string ⟨List.toArray pName8⟩), (.string ⟨List.toArray pTenant9⟩), (.int .i64 pEpoch10)], rdE eU8 (some ⟨g1615, 0, none⟩) c1616 q2] := SP.call hs1715 hs1719
      clear hs1719
      refine ⟨_, updO_known hkn, rfl, ?_⟩
      exact (Exists.intro g1615 (Exists.intro c1616 (And.intro (And.intro q1716 (And.intro rfl (trivial))) (hs1721))))
    ·exact Owe.run K [(2, (.string ⟨List.toArray p11⟩))] ⟨gS K K, trivial⟩ (.string ⟨List.toArray p11⟩) (fun _ _ => K) rfl
    ·exact Owe.run K [(2, (.string ⟨List.toArray p11⟩))] ⟨gS K K, trivial⟩ (.string ⟨List.toArray p11⟩) (fun _ _ => K) rfl
    ·exact Owe.run K [(56, (.string ⟨List.toArray p11⟩))] ⟨gA 11 K K, trivial⟩ (.int .i64 ((List.length p11 : Nat) : Int)) (fun _ _ => K) rfl
    ·exact Owe.run K [(57, (.int .i64 ((List.length p11 : Nat) : Int)))] ⟨gA 12 K K, trivial⟩ (.int .i64 (if 255 < ((List.length p11 : Nat) : Int) then 255 else ((List.length p11 : Nat) : Int))) (fun _ _ => K) rfl
    ·refine Owe.light K [0, 1, 2, 3] K (all_cons ?_ (all_cons ?_ (all_cons ?_ (all_cons ?_ all_nil))))
     ·rintro ρ' w' hs hah ⟨hvl1723, hs1722⟩
      have hkn : Known ρ' [(55, (.string ⟨List.toArray p11⟩)), (58, (.int .i64 (if 255 < ((List.length p11 : Nat) : Int) then 255 else ((List.length p11 : Nat) : Int))))] := ⟨hah 10 55 K, hah 13 58 K, trivial⟩
      refine Step.known _ hkn ?_
      refine Step.strSlice (a := p11) (T := 9) (x := (.tmp 55)) (lo := none) (hi := (some (.tmp 58))) (i := 0) (j := (if 255 < ((List.length p11 : Nat) : Int) then 255 else ((List.length p11 : Nat) : Int))) (d := (some 59)) (k := 14) K rfl K K rfl ⟨.i64, K⟩ hz1601 hz1602 hz1603 ?_
      rw [hyl1604]
      exact ⟨rfl, _, updO_known hkn, rfl⟩
     ·rintro ρ' w' hs hah ⟨g1615, c1616, ⟨q1725, -⟩, hs1724⟩
      have hkn : Known ρ' [(55, (.string ⟨List.toArray p11⟩)), (58, (.int .i64 (if 255 < ((List.length p11 : Nat) : Int) then 255 else ((List.length p11 : Nat) : Int))))] := ⟨hah 10 55 K, hah 13 58 K, trivial⟩
      refine Step.known _ hkn ?_
      refine Step.strSlice (a := p11) (T := 9) (x := (.tmp 55)) (lo := none) (hi := (some (.tmp 58))) (i := 0) (j := (if 255 < ((List.length p11 : Nat) : Int) then 255 else ((List.length p11 : Nat) : Int))) (d := (some 59)) (k := 14) K rfl K K rfl ⟨.i64, K⟩ hz1601 hz1602 hz1603 ?_
      rw [hyl1604]
      exact ⟨rfl, _, updO_known hkn, rfl⟩
     ·rintro ρ' w' hs hah ⟨⟨q1728, -⟩, hs1727⟩
      have hkn : Known ρ' [(55, (.string ⟨List.toArray p11⟩)), (58, (.int .i64 (if 255 < ((List.length p11 : Nat) : Int) then 255 else ((List.length p11 : Nat) : Int))))] := ⟨hah 10 55 K, hah 13 58 K, trivial⟩
      refine Step.known _ hkn ?_
      refine Step.strSlice (a := p11) (T := 9) (x := (.tmp 55)) (lo := none) (hi := (some (.tmp 58))) (i := 0) (j := (if 255 < ((List.length p11 : Nat) : Int) then 255 else ((List.length p11 : Nat) : Int))) (d := (some 59)) (k := 14) K rfl K K rfl ⟨.i64, K⟩ hz1601 hz1602 hz1603 ?_
      rw [hyl1604]
      exact ⟨rfl, _, updO_known hkn, rfl⟩
     ·rintro ρ' w' hs hah ⟨g1624, c1625, ⟨q1731, q1732, -⟩, hs1730⟩
      have hkn : Known ρ' [(55, (.string ⟨List.toArray p11⟩)), (58, (.int .i64 (if 255 < ((List.length p11 : Nat) : Int) then 255 else ((List.length p11 : Nat) : Int))))] := ⟨hah 10 55 K, hah 13 58 K, trivial⟩
      refine Step.known _ hkn ?_
      refine Step.strSlice (a := p11) (T := 9) (x := (.tmp 55)) (lo := none) (hi := (some (.tmp 58))) (i := 0) (j := (if 255 < ((List.length p11 : Nat) : Int) then 255 else ((List.length p11 : Nat) : Int))) (d := (some 59)) (k := 14) K rfl K K rfl ⟨.i64, K⟩ hz1601 hz1602 hz1603 ?_
      rw [hyl1604]
      exact ⟨rfl, _, updO_known hkn, rfl⟩
    ·refine Owe.heavy K [(2, 4), (3, 5)] K (all_cons ⟨K, K, ?_⟩ (all_cons ⟨K, K, ?_⟩ all_nil))
     ·rintro ρ' w' hs hah ⟨⟨q1735, -⟩, hs1734⟩
      have hkn : Known ρ' [(54, (.string ⟨List.toArray z1595⟩)), (59, (.string ⟨List.toArray l1604⟩))] := ⟨(valF_eq (h := 9) K).symm.trans q1735, hah 14 59 K, trivial⟩
      refine Step.known _ hkn ?_
      refine Step.newSlice (e := eStr) (T := 29) (E := 9) (len := 2) (parts := #[(0, (.tmp 54)), (1, (.tmp 59))]) (cs := #[(.string ⟨List.toArray z1595⟩), (.string ⟨List.toArray l1604⟩)]) ([z1595, l1604] : List (List UInt8)) (d := (some 60)) (k := 15) K rfl (fun _ => K) hs1734 rfl rfl rfl rfl ?_
      intro g1737 w1738 (hs1740 : SP S w0 w1738 [rowT 63 (ePair eStr (ePair (eInt .i64) (ePair eStr (ePair eStr (eInt .i64))))) A5 c6 q4, boxE g1 44 #[(.string ⟨List.toArray q2⟩), (.int .i64 (IntKind.wrap .i64 (q3 + 1))), (.slice A5 (List.length q4) c6)], boxE g931 31 #[(.int .i64 pVisitor7), (.string ⟨List.toArray pName8⟩), (.string ⟨List.toArray pTenant9⟩), (.int .i64 pEpoch10)], rowT 9 eStr (some ⟨g1737, 0, none⟩) (List.length ([z1595, l1604] : List (List UInt8))) ([z1595, l1604] : List (List UInt8))])
      refine ⟨_, updO_known hkn, trivial, ?_⟩
      exact (Exists.intro g1737 (And.intro (And.intro q1735 (And.intro rfl (trivial))) (hs1740)))
     ·rintro ρ' w' hs hah ⟨g1624, c1625, ⟨q1742, q1743, -⟩, hs1741⟩
      have hkn : Known ρ' [(54, (.string ⟨List.toArray z1595⟩)), (59, (.string ⟨List.toArray l1604⟩))] := ⟨(valF_eq (h := 9) K).symm.trans q1743, hah 14 59 K, trivial⟩
      refine Step.known _ hkn ?_
      refine Step.newSlice (e := eStr) (T := 29) (E := 9) (len := 2) (parts := #[(0, (.tmp 54)), (1, (.tmp 59))]) (cs := #[(.string ⟨List.toArray z1595⟩), (.string ⟨List.toArray l1604⟩)]) ([z1595, l1604] : List (List UInt8)) (d := (some 60)) (k := 15) K rfl (fun _ => K) hs1741 rfl rfl rfl rfl ?_
      intro g1745 w1746 (hs1748 : SP S w0 w1746 [rowT 63 (ePair eStr (ePair (eInt .i64) (ePair eStr (ePair eStr (eInt .i64))))) A5 c6 q4, boxE g1 44 #[(.string ⟨List.toArray q2⟩), (.int .i64 (IntKind.wrap .i64 (q3 + 1))), (.slice A5 (List.length q4) c6)], boxE g931 31 #[(.int .i64 pVisitor7), (.string ⟨List.toArray pName8⟩), (.string ⟨List.toArray pTenant9⟩), (.int .i64 pEpoch10)], rdE eU8 (some ⟨g1624, 0, none⟩) c1625 q2, rowT 9 eStr (some ⟨g1745, 0, none⟩) (List.length ([z1595, l1604] : List (List UInt8))) ([z1595, l1604] : List (List UInt8))])
      refine ⟨_, updO_known hkn, trivial, ?_⟩
      exact (Exists.intro g1624 (Exists.intro c1625 (Exists.intro g1745 (And.intro (And.intro q1742 (And.intro q1743 (And.intro rfl (trivial)))) (hs1748)))))
    ·refine Owe.heavy K [(5, 6)] K (all_cons ⟨K, K, ?_⟩ all_nil)
     ·rintro ρ' w' hs hah ⟨g1641, c1642, g1650, ⟨q1750, q1751, q1752, -⟩, hs1749⟩
      have hkn : Known ρ' [(49, (.slice (some ⟨g1641, 0, none⟩) (List.length q2) c1642)), (60, (.slice (some ⟨g1650, 0, none⟩) (List.length ([z1595, l1604] : List (List UInt8))) (List.length ([z1595, l1604] : List (List UInt8)))))] := ⟨(valF_eq (h := 4) K).symm.trans q1750, (valF_eq (h := 15) K).symm.trans q1752, trivial⟩
      refine Step.known _ hkn ?_
      refine Step.callF (f := 21) (fo := (.func 21)) (xs := #[(.tmp 49), (.tmp 60)]) (tys := #[50, 29]) (first := #[]) (captured := #[]) (d := (some 61)) (k := 16) K rfl K K Tryd.call21 (L_subwayref03_Proof_walk (some ⟨g1641, 0, none⟩) c1642 (some ⟨g1650, 0, none⟩) (List.length ([z1595, l1604] : List (List UInt8))) q2 ([z1595, l1604] : List (List UInt8)) w' (rdE_rd (SP.get hs1749 (i := 3) rfl)) (rowT_rd (SP.get hs1749 (i := 4) rfl)) z1609 hz1610) ?_
      rintro e w1754 ⟨rfl, hs1755⟩
      refine ⟨_, rfl, ?_⟩
      have hs1757 : SP S w0 w1754 [rowT 63 (ePair eStr (ePair (eInt .i64) (ePair eStr (ePair eStr (eInt .i64))))) A5 c6 q4, boxE g1 44 #[(.string ⟨List.toArray q2⟩), (.int .i64 (IntKind.wrap .i64 (q3 + 1))), (.slice A5 (List.length q4) c6)], boxE g931 31 #[(.int .i64 pVisitor7), (.string ⟨List.toArray pName8⟩), (.string ⟨List.toArray pTenant9⟩), (.int .i64 pEpoch10)], rdE eU8 (some ⟨g1641, 0, none⟩) c1642 q2, rowT 9 eStr (some ⟨g1650, 0, none⟩) (List.length ([z1595, l1604] : List (List UInt8))) ([z1595, l1604] : List (List UInt8))] := SP.call hs1749 hs1755
      clear hs1755
      refine ⟨_, updO_known hkn, rfl, ?_⟩
      exact (Exists.intro g1641 (Exists.intro c1642 (Exists.intro g1650 (And.intro (And.intro q1750 (And.intro q1751 (And.intro q1752 (And.intro rfl (trivial))))) (hs1757)))))
    ·exact Owe.run K [(61, (.string ⟨List.toArray z1609⟩))] ⟨gA 16 K K, trivial⟩ (.string ⟨List.toArray z1609⟩) (fun _ _ => K) rfl
    ·rintro ρ' w' hs hf ⟨g1654, c1655, g1663, ⟨q1759, q1760, q1761, q1762, -⟩, hs1758⟩
     refine postKnown [(0, (pt g1 0)), (4, (pt g931 0)), (9, (.string ⟨List.toArray z1609⟩))] ⟨(hs 0 K).trans K, (hs 4 K).trans K, hf 17 9 K, trivial⟩ ?_
     obtain ⟨w1764, hww1764⟩ : ∃ x, w' = x := ⟨_, rfl⟩
     rw [hww1764] at hs1758 ⊢
     refine At.sq K ?_
     obtain ⟨hz1765, hz1766, hz1767, H⟩ := sub_elim H
     obtain ⟨l1768, hyl1768⟩ : ∃ y, (List.drop (Int.toNat 0) (List.take (Int.toNat 32) z1609)) = y := ⟨_, rfl⟩
     rw [hyl1768] at H
     obtain ⟨hl1773, H⟩ := app_elim H
     obtain ⟨l1774, hyl1774⟩ : ∃ y, q4 ++ ([(l1768, pVisitor7, pName8, pTenant9, pEpoch10)] : List ((List UInt8) × Int × (List UInt8) × (List UInt8) × Int)) = y := ⟨_, rfl⟩
     rw [hyl1774] at H
     refine At.stages K K K K K [GEq (pt g1 0), GEq (pt g1 0), GEq (pt g1 0), GEq (pt g1 2), GEq (.slice A5 (List.length q4) c6), GEq (.string ⟨List.toArray z1609⟩), GEq (.string ⟨List.toArray l1768⟩), GEq (.agg #[(.int .i64 pVisitor7), (.string ⟨List.toArray pName8⟩), (.string ⟨List.toArray pTenant9⟩), (.int .i64 pEpoch10)]), GEq (.agg #[(.string ⟨List.toArray l1768⟩), (.int .i64 pVisitor7), (.string ⟨List.toArray pName8⟩), (.string ⟨List.toArray pTenant9⟩), (.int .i64 pEpoch10)]), GAny, GAny, GEq (pt g1 0), GEq (pt g1 2), GAny] [9, 10, 13] [([], fun vs w => VL vs [] ∧ SP S w0 w [rowT 63 (ePair eStr (ePair (eInt .i64) (ePair eStr (ePair eStr (eInt .i64))))) A5 c6 q4, boxE g1 44 #[(.string ⟨List.toArray q2⟩), (.int .i64 (IntKind.wrap .i64 (q3 + 1))), (.slice A5 (List.length q4) c6)], boxE g931 31 #[(.int .i64 pVisitor7), (.string ⟨List.toArray pName8⟩), (.string ⟨List.toArray pTenant9⟩), (.int .i64 pEpoch10)], rdE eU8 (some ⟨g1654, 0, none⟩) c1655 q2, rowT 9 eStr (some ⟨g1663, 0, none⟩) (List.length ([z1595, l1604] : List (List UInt8))) ([z1595, l1604] : List (List UInt8))]), ([9], fun vs w => ∃ (g1783 : Nat), VL vs [(.slice (some ⟨g1783, 0, none⟩) (List.length ([(l1768, pVisitor7, pName8, pTenant9, pEpoch10)] : List ((List UInt8) × Int × (List UInt8) × (List UInt8) × Int))) (List.length ([(l1768, pVisitor7, pName8, pTenant9, pEpoch10)] : List ((List UInt8) × Int × (List UInt8) × (List UInt8) × Int))))] ∧ SP S w0 w [rowT 63 (ePair eStr (ePair (eInt .i64) (ePair eStr (ePair eStr (eInt .i64))))) A5 c6 q4, boxE g1 44 #[(.string ⟨List.toArray q2⟩), (.int .i64 (IntKind.wrap .i64 (q3 + 1))), (.slice A5 (List.length q4) c6)], boxE g931 31 #[(.int .i64 pVisitor7), (.string ⟨List.toArray pName8⟩), (.string ⟨List.toArray pTenant9⟩), (.int .i64 pEpoch10)], rdE eU8 (some ⟨g1654, 0, none⟩) c1655 q2, rowT 9 eStr (some ⟨g1663, 0, none⟩) (List.length ([z1595, l1604] : List (List UInt8))) ([z1595, l1604] : List (List UInt8)), rowT 63 (ePair eStr (ePair (eInt .i64) (ePair eStr (ePair eStr (eInt .i64))))) (some ⟨g1783, 0, none⟩) (List.length ([(l1768, pVisitor7, pName8, pTenant9, pEpoch10)] : List ((List UInt8) × Int × (List UInt8) × (List UInt8) × Int))) ([(l1768, pVisitor7, pName8, pTenant9, pEpoch10)] : List ((List UInt8) × Int × (List UInt8) × (List UInt8) × Int))]), ([9, 10], fun vs w => ∃ (g1787 : Nat), ∃ (A1791 : Option Addr), ∃ (c1792 : Nat), VL vs [(.slice (some ⟨g1787, 0, none⟩) (List.length ([(l1768, pVisitor7, pName8, pTenant9, pEpoch10)] : List ((List UInt8) × Int × (List UInt8) × (List UInt8) × Int))) (List.length ([(l1768, pVisitor7, pName8, pTenant9, pEpoch10)] : List ((List UInt8) × Int × (List UInt8) × (List UInt8) × Int)))), (.slice A1791 (List.length l1774) c1792)] ∧ SP S w0 w [rowT 63 (ePair eStr (ePair (eInt .i64) (ePair eStr (ePair eStr (eInt .i64))))) A1791 c1792 l1774, boxE g1 44 #[(.string ⟨List.toArray q2⟩), (.int .i64 (IntKind.wrap .i64 (q3 + 1))), (.slice A5 (List.length q4) c6)], boxE g931 31 #[(.int .i64 pVisitor7), (.string ⟨List.toArray pName8⟩), (.string ⟨List.toArray pTenant9⟩), (.int .i64 pEpoch10)], rdE eU8 (some ⟨g1654, 0, none⟩) c1655 q2, rowT 9 eStr (some ⟨g1663, 0, none⟩) (List.length ([z1595, l1604] : List (List UInt8))) ([z1595, l1604] : List (List UInt8)), rowT 63 (ePair eStr (ePair (eInt .i64) (ePair eStr (ePair eStr (eInt .i64))))) (some ⟨g1787, 0, none⟩) (List.length ([(l1768, pVisitor7, pName8, pTenant9, pEpoch10)] : List ((List UInt8) × Int × (List UInt8) × (List UInt8) × Int))) ([(l1768, pVisitor7, pName8, pTenant9, pEpoch10)] : List ((List UInt8) × Int × (List UInt8) × (List UInt8) × Int))]), ([9, 10, 13], fun vs w => ∃ (g1796 : Nat), ∃ (A1800 : Option Addr), ∃ (c1801 : Nat), VL vs [(.slice (some ⟨g1796, 0, none⟩) (List.length ([(l1768, pVisitor7, pName8, pTenant9, pEpoch10)] : List ((List UInt8) × Int × (List UInt8) × (List UInt8) × Int))) (List.length ([(l1768, pVisitor7, pName8, pTenant9, pEpoch10)] : List ((List UInt8) × Int × (List UInt8) × (List UInt8) × Int)))), (.slice A1800 (List.length l1774) c1801), undef] ∧ SP S w0 w [rowT 63 (ePair eStr (ePair (eInt .i64) (ePair eStr (ePair eStr (eInt .i64))))) A1800 c1801 l1774, boxE g1 44 #[(.string ⟨List.toArray q2⟩), (.int .i64 (IntKind.wrap .i64 (q3 + 1))), (.slice A1800 (List.length l1774) c1801)], boxE g931 31 #[(.int .i64 pVisitor7), (.string ⟨List.toArray pName8⟩), (.string ⟨List.toArray pTenant9⟩), (.int .i64 pEpoch10)], rdE eU8 (some ⟨g1654, 0, none⟩) c1655 q2, rowT 9 eStr (some ⟨g1663, 0, none⟩) (List.length ([z1595, l1604] : List (List UInt8))) ([z1595, l1604] : List (List UInt8)), rowT 63 (ePair eStr (ePair (eInt .i64) (ePair eStr (ePair eStr (eInt .i64))))) (some ⟨g1796, 0, none⟩) (List.length ([(l1768, pVisitor7, pName8, pTenant9, pEpoch10)] : List ((List UInt8) × Int × (List UInt8) × (List UInt8) × Int))) ([(l1768, pVisitor7, pName8, pTenant9, pEpoch10)] : List ((List UInt8) × Int × (List UInt8) × (List UInt8) × Int))])] (N := 14) K ⟨K, Nat.zero_lt_succ _⟩ (show VL [] [] ∧ SP S w0 w1764.drew [rowT 63 (ePair eStr (ePair (eInt .i64) (ePair eStr (ePair eStr (eInt .i64))))) A5 c6 q4, boxE g1 44 #[(.string ⟨List.toArray q2⟩), (.int .i64 (IntKind.wrap .i64 (q3 + 1))), (.slice A5 (List.length q4) c6)], boxE g931 31 #[(.int .i64 pVisitor7), (.string ⟨List.toArray pName8⟩), (.string ⟨List.toArray pTenant9⟩), (.int .i64 pEpoch10)], rdE eU8 (some ⟨g1654, 0, none⟩) c1655 q2, rowT 9 eStr (some ⟨g1663, 0, none⟩) (List.length ([z1595, l1604] : List (List UInt8))) ([z1595, l1604] : List (List UInt8))] from ⟨trivial, SP.drew hs1758⟩) ⟨⟨⟨⟨⟨⟨⟨⟨⟨⟨⟨⟨⟨⟨trivial, ?_⟩, ?_⟩, ?_⟩, ?_⟩, ?_⟩, ?_⟩, ?_⟩, ?_⟩, ?_⟩, ?_⟩, ?_⟩, ?_⟩, ?_⟩, ?_⟩ (last := 3) K ?_
     ·exact Owe.run K [(0, (pt g1 0))] ⟨gS K K, trivial⟩ (pt g1 0) (fun _ _ => K) rfl
     ·exact Owe.run K [(0, (pt g1 0))] ⟨gS K K, trivial⟩ (pt g1 0) (fun _ _ => K) rfl
     ·exact Owe.run K [(63, (pt g1 0))] ⟨gA 1 K K, trivial⟩ (pt g1 0) (fun _ _ => K) rfl
     ·exact Owe.run K [(64, (pt g1 0))] ⟨gA 2 K K, trivial⟩ (pt g1 2) (fun _ _ => K) rfl
     ·refine Owe.light K [0, 1] K (all_cons ?_ (all_cons ?_ all_nil))
      ·rintro ρ' w' hs hah ⟨hvl1809, hs1808⟩
       have hkn : Known ρ' [(65, (pt g1 2))] := ⟨hah 3 65 K, trivial⟩
       refine Step.known _ hkn ?_
       refine Step.load (t := 42) (x := (.tmp 65)) (g := g1) (off := 2) (i := 1) (v := (.slice A5 (List.length q4) c6)) (d := (some 66)) (k := 4) K rfl K hs1808 rfl K ?_
       exact ⟨rfl, _, updO_known hkn, rfl⟩
      ·rintro ρ' w' hs hah ⟨g1783, ⟨q1811, -⟩, hs1810⟩
       have hkn : Known ρ' [(65, (pt g1 2))] := ⟨hah 3 65 K, trivial⟩
       refine Step.known _ hkn ?_
       refine Step.load (t := 42) (x := (.tmp 65)) (g := g1) (off := 2) (i := 1) (v := (.slice A5 (List.length q4) c6)) (d := (some 66)) (k := 4) K rfl K hs1810 rfl K ?_
       exact ⟨rfl, _, updO_known hkn, rfl⟩
     ·exact Owe.run K [(9, (.string ⟨List.toArray z1609⟩))] ⟨gS K K, trivial⟩ (.string ⟨List.toArray z1609⟩) (fun _ _ => K) rfl
     ·refine Owe.light K [0] K (all_cons ?_ all_nil)
      ·rintro ρ' w' hs hah ⟨hvl1814, hs1813⟩
       have hkn : Known ρ' [(67, (.string ⟨List.toArray z1609⟩))] := ⟨hah 5 67 K, trivial⟩
       refine Step.known _ hkn ?_
       refine Step.strSlice (a := z1609) (T := 9) (x := (.tmp 67)) (lo := none) (hi := (some (.const (.int .i64 (32))))) (i := 0) (j := 32) (d := (some 68)) (k := 6) K rfl K K rfl ⟨.i64, K⟩ hz1765 hz1766 hz1767 ?_
       rw [hyl1768]
       exact ⟨rfl, _, updO_known hkn, rfl⟩
     ·refine Owe.light K [0] K (all_cons ?_ all_nil)
      ·rintro ρ' w' hs hah ⟨hvl1816, hs1815⟩
       have hkn : Known ρ' [(4, (pt g931 0))] := ⟨(hs 4 K).trans K, trivial⟩
       refine Step.known _ hkn ?_
       refine Step.load (t := 31) (x := (.tmp 4)) (g := g931) (off := 0) (i := 2) (v := (.agg #[(.int .i64 pVisitor7), (.string ⟨List.toArray pName8⟩), (.string ⟨List.toArray pTenant9⟩), (.int .i64 pEpoch10)])) (d := (some 69)) (k := 7) K rfl K hs1815 rfl K ?_
       exact ⟨rfl, _, updO_known hkn, rfl⟩
     ·exact Owe.run K [(68, (.string ⟨List.toArray l1768⟩)), (69, (.agg #[(.int .i64 pVisitor7), (.string ⟨List.toArray pName8⟩), (.string ⟨List.toArray pTenant9⟩), (.int .i64 pEpoch10)]))] ⟨gA 6 K K, gA 7 K K, trivial⟩ (.agg #[(.string ⟨List.toArray l1768⟩), (.int .i64 pVisitor7), (.string ⟨List.toArray pName8⟩), (.string ⟨List.toArray pTenant9⟩), (.int .i64 pEpoch10)]) (fun _ _ => K) rfl
     ·refine Owe.heavy K [(0, 1)] K (all_cons ⟨K, K, ?_⟩ all_nil)
      ·rintro ρ' w' hs hah ⟨hvl1818, hs1817⟩
       have hkn : Known ρ' [(70, (.agg #[(.string ⟨List.toArray l1768⟩), (.int .i64 pVisitor7), (.string ⟨List.toArray pName8⟩), (.string ⟨List.toArray pTenant9⟩), (.int .i64 pEpoch10)]))] := ⟨hah 8 70 K, trivial⟩
       refine Step.known _ hkn ?_
       refine Step.newSlice (e := (ePair eStr (ePair (eInt .i64) (ePair eStr (ePair eStr (eInt .i64)))))) (T := 42) (E := 63) (len := 1) (parts := #[(0, (.tmp 70))]) (cs := #[(.string ⟨List.toArray l1768⟩), (.int .i64 pVisitor7), (.string ⟨List.toArray pName8⟩), (.string ⟨List.toArray pTenant9⟩), (.int .i64 pEpoch10)]) ([(l1768, pVisitor7, pName8, pTenant9, pEpoch10)] : List ((List UInt8) × Int × (List UInt8) × (List UInt8) × Int)) (d := (some 71)) (k := 9) K rfl (fun _ => K) hs1817 rfl rfl rfl rfl ?_
       intro g1819 w1820 (hs1822 : SP S w0 w1820 [rowT 63 (ePair eStr (ePair (eInt .i64) (ePair eStr (ePair eStr (eInt .i64))))) A5 c6 q4, boxE g1 44 #[(.string ⟨List.toArray q2⟩), (.int .i64 (IntKind.wrap .i64 (q3 + 1))), (.slice A5 (List.length q4) c6)], boxE g931 31 #[(.int .i64 pVisitor7), (.string ⟨List.toArray pName8⟩), (.string ⟨List.toArray pTenant9⟩), (.int .i64 pEpoch10)], rdE eU8 (some ⟨g1654, 0, none⟩) c1655 q2, rowT 9 eStr (some ⟨g1663, 0, none⟩) (List.length ([z1595, l1604] : List (List UInt8))) ([z1595, l1604] : List (List UInt8)), rowT 63 (ePair eStr (ePair (eInt .i64) (ePair eStr (ePair eStr (eInt .i64))))) (some ⟨g1819, 0, none⟩) (List.length ([(l1768, pVisitor7, pName8, pTenant9, pEpoch10)] : List ((List UInt8) × Int × (List UInt8) × (List UInt8) × Int))) ([(l1768, pVisitor7, pName8, pTenant9, pEpoch10)] : List ((List UInt8) × Int × (List UInt8) × (List UInt8) × Int))])
       refine ⟨_, updO_known hkn, trivial, ?_⟩
       exact (Exists.intro g1819 (And.intro (And.intro rfl (trivial)) (hs1822)))
     ·refine Owe.heavy K [(1, 2)] K (all_cons ⟨K, K, ?_⟩ all_nil)
      ·rintro ρ' w' hs hah ⟨g1783, ⟨q1824, -⟩, hs1823⟩
       have hkn : Known ρ' [(66, (.slice A5 (List.length q4) c6)), (71, (.slice (some ⟨g1783, 0, none⟩) (List.length ([(l1768, pVisitor7, pName8, pTenant9, pEpoch10)] : List ((List UInt8) × Int × (List UInt8) × (List UInt8) × Int))) (List.length ([(l1768, pVisitor7, pName8, pTenant9, pEpoch10)] : List ((List UInt8) × Int × (List UInt8) × (List UInt8) × Int)))))] := ⟨hah 4 66 K, (valF_eq (h := 9) K).symm.trans q1824, trivial⟩
       refine Step.known _ hkn ?_
       refine Step.append (e := (ePair eStr (ePair (eInt .i64) (ePair eStr (ePair eStr (eInt .i64)))))) (l := q4) (m := ([(l1768, pVisitor7, pName8, pTenant9, pEpoch10)] : List ((List UInt8) × Int × (List UInt8) × (List UInt8) × Int))) (A := A5) (c := c6) (T := 42) (TX := 42) (E := 63) (b := 64) (s := (.tmp 66)) (x := (.tmp 71)) (i := 0) (vx := (.slice (some ⟨g1783, 0, none⟩) (List.length ([(l1768, pVisitor7, pName8, pTenant9, pEpoch10)] : List ((List UInt8) × Int × (List UInt8) × (List UInt8) × Int))) (List.length ([(l1768, pVisitor7, pName8, pTenant9, pEpoch10)] : List ((List UInt8) × Int × (List UInt8) × (List UInt8) × Int))))) (d := (some 72)) (k := 10) K rfl K K K K rfl hs1823 rfl (src_rdt (E := 63) K (rowT_rd (SP.get hs1823 (i := 5) rfl))) hl1773 ?_
       rw [hyl1774]
       intro A1826 c1827 w1828 (hs1830 : SP S w0 w1828 [rowT 63 (ePair eStr (ePair (eInt .i64) (ePair eStr (ePair eStr (eInt .i64))))) A1826 c1827 l1774, boxE g1 44 #[(.string ⟨List.toArray q2⟩), (.int .i64 (IntKind.wrap .i64 (q3 + 1))), (.slice A5 (List.length q4) c6)], boxE g931 31 #[(.int .i64 pVisitor7), (.string ⟨List.toArray pName8⟩), (.string ⟨List.toArray pTenant9⟩), (.int .i64 pEpoch10)], rdE eU8 (some ⟨g1654, 0, none⟩) c1655 q2, rowT 9 eStr (some ⟨g1663, 0, none⟩) (List.length ([z1595, l1604] : List (List UInt8))) ([z1595, l1604] : List (List UInt8)), rowT 63 (ePair eStr (ePair (eInt .i64) (ePair eStr (ePair eStr (eInt .i64))))) (some ⟨g1783, 0, none⟩) (List.length ([(l1768, pVisitor7, pName8, pTenant9, pEpoch10)] : List ((List UInt8) × Int × (List UInt8) × (List UInt8) × Int))) ([(l1768, pVisitor7, pName8, pTenant9, pEpoch10)] : List ((List UInt8) × Int × (List UInt8) × (List UInt8) × Int))])
       refine ⟨_, updO_known hkn, trivial, ?_⟩
       exact (Exists.intro g1783 (Exists.intro A1826 (Exists.intro c1827 (And.intro (And.intro q1824 (And.intro rfl (trivial))) (hs1830)))))
     ·exact Owe.run K [(62, (pt g1 0))] ⟨gA 0 K K, trivial⟩ (pt g1 0) (fun _ _ => K) rfl
     ·exact Owe.run K [(73, (pt g1 0))] ⟨gA 11 K K, trivial⟩ (pt g1 2) (fun _ _ => K) rfl
     ·refine Owe.heavy K [(2, 3)] K (all_cons ⟨K, K, ?_⟩ all_nil)
      ·rintro ρ' w' hs hah ⟨g1787, A1791, c1792, ⟨q1832, q1833, -⟩, hs1831⟩
       have hkn : Known ρ' [(74, (pt g1 2)), (72, (.slice A1791 (List.length l1774) c1792))] := ⟨hah 12 74 K, (valF_eq (h := 10) K).symm.trans q1833, trivial⟩
       refine Step.known _ hkn ?_
       refine Step.store (t := 42) (x := (.tmp 74)) (y := (.tmp 72)) (g := g1) (off := 2) (i := 1) (v := (.slice A1791 (List.length l1774) c1792)) (cs' := #[(.string ⟨List.toArray q2⟩), (.int .i64 (IntKind.wrap .i64 (q3 + 1))), (.slice A1791 (List.length l1774) c1792)]) (d := none) (k := 13) K rfl K K hs1831 rfl K ?_
       intro w1835 (hs1837 : SP S w0 w1835 [rowT 63 (ePair eStr (ePair (eInt .i64) (ePair eStr (ePair eStr (eInt .i64))))) A1791 c1792 l1774, boxE g1 44 #[(.string ⟨List.toArray q2⟩), (.int .i64 (IntKind.wrap .i64 (q3 + 1))), (.slice A1791 (List.length l1774) c1792)], boxE g931 31 #[(.int .i64 pVisitor7), (.string ⟨List.toArray pName8⟩), (.string ⟨List.toArray pTenant9⟩), (.int .i64 pEpoch10)], rdE eU8 (some ⟨g1654, 0, none⟩) c1655 q2, rowT 9 eStr (some ⟨g1663, 0, none⟩) (List.length ([z1595, l1604] : List (List UInt8))) ([z1595, l1604] : List (List UInt8)), rowT 63 (ePair eStr (ePair (eInt .i64) (ePair eStr (ePair eStr (eInt .i64))))) (some ⟨g1787, 0, none⟩) (List.length ([(l1768, pVisitor7, pName8, pTenant9, pEpoch10)] : List ((List UInt8) × Int × (List UInt8) × (List UInt8) × Int))) ([(l1768, pVisitor7, pName8, pTenant9, pEpoch10)] : List ((List UInt8) × Int × (List UInt8) × (List UInt8) × Int))])
       refine ⟨_, updO_known hkn, trivial, ?_⟩
       exact (Exists.intro g1787 (Exists.intro A1791 (Exists.intro c1792 (And.intro (And.intro q1832 (And.intro q1833 (And.intro rfl (trivial)))) (hs1837)))))
     ·rintro ρ' w' hs hf ⟨g1796, A1800, c1801, ⟨q1839, q1840, q1841, -⟩, hs1838⟩
      refine postKnown [(9, (.string ⟨List.toArray z1609⟩))] ⟨(hs 9 K).trans K, trivial⟩ ?_
      obtain ⟨w1843, hww1843⟩ : ∃ x, w' = x := ⟨_, rfl⟩
      rw [hww1843] at hs1838 ⊢
      refine At.sq K ?_
      refine At.region K K ?_
      refine In.run' 1 (k' := 1) rfl [(75, (.string ⟨List.toArray z1609⟩))] K ?_
      obtain ⟨hz1844, hz1845, hz1846, H⟩ := sub_elim H
      obtain ⟨l1847, hyl1847⟩ : ∃ y, (List.drop (Int.toNat 0) (List.take (Int.toNat 32) z1609)) = y := ⟨_, rfl⟩
      rw [hyl1847] at H
      refine In.step (k' := 2) rfl K ?_
      refine Step.strSlice (a := z1609) (T := 9) (x := (.tmp 75)) (lo := none) (hi := (some (.const (.int .i64 (32))))) (i := 0) (j := 32) (d := (some 76)) (k := 1) K rfl K K rfl ⟨.i64, K⟩ hz1844 hz1845 hz1846 ?_
      rw [hyl1847]
      refine In.run' 2 (k' := 4) rfl [(6, (.string ⟨List.toArray l1847⟩)), (7, (.int .i64 0))] K ?_
      refine In.fin K ?_
      refine At.ret K ?_
      refine ⟨(.tuple #[(.string ⟨List.toArray l1847⟩), (.int .i64 0)]), K, ?_⟩
      obtain rfl := some_elim H
      exact ⟨A1800, c1801, rfl, SP.sel hs1838 [1,0] rfl rfl⟩
 ·exact ⟨0, ⟨K, K, K, K, trivial⟩, SP.sel hs934 [1, 0, 2] rfl rfl, H⟩
/-! L_subwaylaw15_head -/
def L_subwaylaw15_head_k1 (v141 : Bool) : Option (Bool) :=
  (some (v141))
def L_subwaylaw15_head  : Option (Bool) :=
  ((L_ticket_New ([107, 101, 121] : List UInt8)).bind fun z1 => ((L_ticket_Book_Issue z1.1 z1.2.1 z1.2.2 7 ([119, 101, 98] : List UInt8) ([97, 110, 110] : List UInt8) 3 ([100] : List UInt8)).bind fun z20 => ((L_ticket_Book_Issue z20.2.2.1 z20.2.2.2.1 z20.2.2.2.2 7 ([119, 101, 98] : List UInt8) ([97, 110, 110] : List UInt8) 3 ([100] : List UInt8)).bind fun z30 => ((L_ticket_Book_Redeem z30.2.2.1 z30.2.2.2.1 z30.2.2.2.2 z20.1 ([98, 111, 98] : List UInt8)).bind fun z40 => ((L_ticket_Book_Redeem z40.2.2.2.2.2.1 z40.2.2.2.2.2.2.1 z40.2.2.2.2.2.2.2 z20.1 ([97, 110, 110] : List UInt8)).bind fun z57 => ((L_ticket_Book_Redeem z57.2.2.2.2.2.1 z57.2.2.2.2.2.2.1 z57.2.2.2.2.2.2.2 z20.1 ([97, 110, 110] : List UInt8)).bind fun z74 => (cond (((List.length z20.1 : Nat) : Int) == 32) ((L_subwayref03_Proof ([(107 : UInt8), (101 : UInt8), (121 : UInt8)] : List UInt8) ([([49] : List UInt8), ([100] : List UInt8)] : List (List UInt8))).bind fun z156 => ((sub z156 0 32).bind fun l165 => (cond (z20.1 == l165) (cond (z20.2.1 == 0) (cond (z30.2.1 == 4) (cond (z40.2.2.2.2.1 == 131) (cond ((z57.1 == 7) && ((z57.2.1 == ([119, 101, 98] : List UInt8)) && ((z57.2.2.1 == ([97, 110, 110] : List UInt8)) && (z57.2.2.2.1 == 3)))) (cond (z57.2.2.2.2.1 == 0) (cond (z74.2.2.2.2.1 == 151) ((L_ticket_Book_Many z74.2.2.2.2.2.1 z74.2.2.2.2.2.2.1 z74.2.2.2.2.2.2.2).bind fun z173 => (cond (z173 == 0) ((L_ticket_Book_Void z74.2.2.2.2.2.1 z74.2.2.2.2.2.2.1 z74.2.2.2.2.2.2.2 7).bind fun z184 => (L_subwaylaw15_head_k1 (!z184.1))) (L_subwaylaw15_head_k1 false))) (L_subwaylaw15_head_k1 false)) (L_subwaylaw15_head_k1 false)) (L_subwaylaw15_head_k1 false)) (L_subwaylaw15_head_k1 false)) (L_subwaylaw15_head_k1 false)) (L_subwaylaw15_head_k1 false)) (L_subwaylaw15_head_k1 false)))) (L_subwaylaw15_head_k1 false))))))))
set_option maxRecDepth 100000 in
set_option maxHeartbeats 4000000 in
theorem L_subwaylaw15_head_walk   (w0 : World) (hL : LaidW w0)  (r : (Bool)) (H : L_subwaylaw15_head  = some r) :
  Calls Tryd.prog 9 #[] w0 (fun e w' => e = .returned (.bool r) ∧ SP [] w0 w' []) := by
 unfold L_subwaylaw15_head at H
 refine calls_go (n := 94) Tryd.func9 K K K ?_
 have hs0 := SP.start [] w0
 refine At.sq K ?_
 refine At.region K K ?_
 refine In.run' 1 (k' := 1) rfl [(0, (.bool false))] K ?_
 refine In.fin K ?_
 refine At.sq K ?_
 refine At.region K K ?_
 obtain ⟨z1, hz2, H⟩ := bind_elim H
 refine In.step (k' := 1) rfl K ?_
 refine Step.callF (f := 10) (fo := (.func 10)) (xs := #[(.const (.string ⟨List.toArray ([107, 101, 121] : List UInt8)⟩))]) (tys := #[9]) (first := #[]) (captured := #[]) (d := (some 13)) (k := 0) K rfl K K Tryd.call10 (L_ticket_New_walk  ([107, 101, 121] : List UInt8) w0  z1 hz2) ?_
 rintro e w3 ⟨g5, A6, c7, A8, c9, rfl, hs4⟩
 refine ⟨_, rfl, ?_⟩
 have hs11 : SP [] w0 w3 [boxE g5 56 #[(.slice A6 (List.length z1.1) c7), (.int .i64 z1.2.1), (.slice A8 (List.length z1.2.2) c9)], rdE eU8 A6 c7 z1.1, rowT 59 (ePair (eInt .i64) (ePair eStr (ePair eStr (ePair (eInt .i64) eStr)))) A8 c9 z1.2.2] := SP.call hs0 hs4
 clear hs4
 refine In.run' 1 (k' := 2) rfl [(1, (pt g5 0))] K ?_
 refine In.fin K ?_
 refine At.sq K ?_
 refine At.sq K ?_
 refine At.region K K ?_
 refine In.run' 2 (k' := 2) rfl [(14, (pt g5 0)), (15, (.bool false))] K ?_
 refine In.fin K ?_
 refine At.cd K (o := (.tmp 15)) K (b := false) K (fun hb12 => ?_) (fun hb12 => ?_)
 ·cases hb12
 refine At.skip K ?_
 refine At.sq K ?_
 refine At.region K K ?_
 refine In.run' 1 (k' := 1) rfl [(16, (.agg #[(.int .i64 7), (.string ⟨List.toArray ([119, 101, 98] : List UInt8)⟩), (.string ⟨List.toArray ([97, 110, 110] : List UInt8)⟩), (.int .i64 3)]))] K ?_
 refine In.step (k' := 2) rfl K ?_
 refine Step.alloc (t := 31) (z := (.agg #[(.int .i64 0), (.string ⟨List.toArray ([] : List UInt8)⟩), (.string ⟨List.toArray ([] : List UInt8)⟩), (.int .i64 0)])) (d := (some 2)) (k := 1) K rfl K hs11 ?_
 intro g13 w14 (hs16 : SP [] w0 w14 [boxE g5 56 #[(.slice A6 (List.length z1.1) c7), (.int .i64 z1.2.1), (.slice A8 (List.length z1.2.2) c9)], rdE eU8 A6 c7 z1.1, rowT 59 (ePair (eInt .i64) (ePair eStr (ePair eStr (ePair (eInt .i64) eStr)))) A8 c9 z1.2.2, boxE g13 31 #[(.int .i64 0), (.string ⟨List.toArray ([] : List UInt8)⟩), (.string ⟨List.toArray ([] : List UInt8)⟩), (.int .i64 0)]])
 refine In.step (k' := 3) rfl K ?_
 refine Step.store (t := 31) (x := (.tmp 2)) (y := (.tmp 16)) (g := g13) (off := 0) (i := 3) (v := (.agg #[(.int .i64 7), (.string ⟨List.toArray ([119, 101, 98] : List UInt8)⟩), (.string ⟨List.toArray ([97, 110, 110] : List UInt8)⟩), (.int .i64 3)])) (cs' := #[(.int .i64 7), (.string ⟨List.toArray ([119, 101, 98] : List UInt8)⟩), (.string ⟨List.toArray ([97, 110, 110] : List UInt8)⟩), (.int .i64 3)]) (d := none) (k := 2) K rfl K K hs16 rfl K ?_
 intro w17 (hs19 : SP [] w0 w17 [boxE g5 56 #[(.slice A6 (List.length z1.1) c7), (.int .i64 z1.2.1), (.slice A8 (List.length z1.2.2) c9)], rdE eU8 A6 c7 z1.1, rowT 59 (ePair (eInt .i64) (ePair eStr (ePair eStr (ePair (eInt .i64) eStr)))) A8 c9 z1.2.2, boxE g13 31 #[(.int .i64 7), (.string ⟨List.toArray ([119, 101, 98] : List UInt8)⟩), (.string ⟨List.toArray ([97, 110, 110] : List UInt8)⟩), (.int .i64 3)]])
 refine In.fin K ?_
 refine At.sq K ?_
 refine At.region K K ?_
 refine In.run' 1 (k' := 1) rfl [(18, (pt g5 0))] K ?_
 refine In.step (k' := 2) rfl K ?_
 refine Step.load (t := 31) (x := (.tmp 2)) (g := g13) (off := 0) (i := 3) (v := (.agg #[(.int .i64 7), (.string ⟨List.toArray ([119, 101, 98] : List UInt8)⟩), (.string ⟨List.toArray ([97, 110, 110] : List UInt8)⟩), (.int .i64 3)])) (d := (some 19)) (k := 1) K rfl K hs19 rfl K ?_
 obtain ⟨z20, hz21, H⟩ := bind_elim H
 refine In.step (k' := 3) rfl K ?_
 refine Step.callF (f := 18) (fo := (.func 18)) (xs := #[(.tmp 18), (.tmp 19), (.const (.string ⟨List.toArray ([100] : List UInt8)⟩))]) (tys := #[24, 31, 9]) (first := #[]) (captured := #[]) (d := (some 20)) (k := 2) K rfl K K Tryd.call18 (L_ticket_Book_Issue_walk g5 A6 c7 A8 c9 z1.1 z1.2.1 z1.2.2 7 ([119, 101, 98] : List UInt8) ([97, 110, 110] : List UInt8) 3 ([100] : List UInt8) w17 (fun w hm => laid_below hL (SP.below_of hs19 (l := [0, 1, 2]) rfl hm)) (SP.sub hs19 [0, 1, 2] rfl rfl) z20 hz21) ?_
 rintro e w22 ⟨A24, c25, A26, c27, rfl, hs23⟩
 refine ⟨_, rfl, ?_⟩
 have hs29 : SP [] w0 w22 [boxE g13 31 #[(.int .i64 7), (.string ⟨List.toArray ([119, 101, 98] : List UInt8)⟩), (.string ⟨List.toArray ([97, 110, 110] : List UInt8)⟩), (.int .i64 3)], boxE g5 56 #[(.slice A24 (List.length z20.2.2.1) c25), (.int .i64 z20.2.2.2.1), (.slice A26 (List.length z20.2.2.2.2) c27)], rdE eU8 A24 c25 z20.2.2.1, rowT 59 (ePair (eInt .i64) (ePair eStr (ePair eStr (ePair (eInt .i64) eStr)))) A26 c27 z20.2.2.2.2] := SP.callS hs19 [0, 1, 2] [3] rfl rfl hs23 rfl
 clear hs23
 refine In.run' 5 (k' := 8) rfl [(17, (.tuple #[(.string ⟨List.toArray z20.1⟩), (.int .i64 z20.2.1)])), (21, (.string ⟨List.toArray z20.1⟩)), (22, (.int .i64 z20.2.1)), (3, (.string ⟨List.toArray z20.1⟩)), (4, (.int .i64 z20.2.1))] K ?_
 refine In.fin K ?_
 refine At.sq K ?_
 refine At.region K K ?_
 refine In.run' 1 (k' := 1) rfl [(24, (pt g5 0))] K ?_
 refine In.step (k' := 2) rfl K ?_
 refine Step.load (t := 31) (x := (.tmp 2)) (g := g13) (off := 0) (i := 0) (v := (.agg #[(.int .i64 7), (.string ⟨List.toArray ([119, 101, 98] : List UInt8)⟩), (.string ⟨List.toArray ([97, 110, 110] : List UInt8)⟩), (.int .i64 3)])) (d := (some 25)) (k := 1) K rfl K hs29 rfl K ?_
 obtain ⟨z30, hz31, H⟩ := bind_elim H
 refine In.step (k' := 3) rfl K ?_
 refine Step.callF (f := 18) (fo := (.func 18)) (xs := #[(.tmp 24), (.tmp 25), (.const (.string ⟨List.toArray ([100] : List UInt8)⟩))]) (tys := #[24, 31, 9]) (first := #[]) (captured := #[]) (d := (some 26)) (k := 2) K rfl K K Tryd.call18 (L_ticket_Book_Issue_walk g5 A24 c25 A26 c27 z20.2.2.1 z20.2.2.2.1 z20.2.2.2.2 7 ([119, 101, 98] : List UInt8) ([97, 110, 110] : List UInt8) 3 ([100] : List UInt8) w22 (fun w hm => laid_below hL (SP.below_of hs29 (l := [1, 2, 3]) rfl hm)) (SP.sub hs29 [1, 2, 3] rfl rfl) z30 hz31) ?_
 rintro e w32 ⟨A34, c35, A36, c37, rfl, hs33⟩
 refine ⟨_, rfl, ?_⟩
 have hs39 : SP [] w0 w32 [boxE g13 31 #[(.int .i64 7), (.string ⟨List.toArray ([119, 101, 98] : List UInt8)⟩), (.string ⟨List.toArray ([97, 110, 110] : List UInt8)⟩), (.int .i64 3)], boxE g5 56 #[(.slice A34 (List.length z30.2.2.1) c35), (.int .i64 z30.2.2.2.1), (.slice A36 (List.length z30.2.2.2.2) c37)], rdE eU8 A34 c35 z30.2.2.1, rowT 59 (ePair (eInt .i64) (ePair eStr (ePair eStr (ePair (eInt .i64) eStr)))) A36 c37 z30.2.2.2.2] := SP.callS hs29 [1, 2, 3] [0] rfl rfl hs33 rfl
 clear hs33
 refine In.run' 5 (k' := 8) rfl [(23, (.tuple #[(.string ⟨List.toArray z30.1⟩), (.int .i64 z30.2.1)])), (27, (.string ⟨List.toArray z30.1⟩)), (28, (.int .i64 z30.2.1)), (5, (.string ⟨List.toArray z30.1⟩)), (6, (.int .i64 z30.2.1))] K ?_
 refine In.fin K ?_
 refine At.sq K ?_
 refine At.region K K ?_
 refine In.run' 2 (k' := 2) rfl [(30, (pt g5 0)), (31, (.string ⟨List.toArray z20.1⟩))] K ?_
 obtain ⟨z40, hz41, H⟩ := bind_elim H
 refine In.step (k' := 3) rfl K ?_
 refine Step.callF (f := 13) (fo := (.func 13)) (xs := #[(.tmp 30), (.tmp 31), (.const (.string ⟨List.toArray ([98, 111, 98] : List UInt8)⟩))]) (tys := #[24, 9, 9]) (first := #[]) (captured := #[]) (d := (some 32)) (k := 2) K rfl K K Tryd.call13 (L_ticket_Book_Redeem_walk g5 A34 c35 A36 c37 z30.2.2.1 z30.2.2.2.1 z30.2.2.2.2 z20.1 ([98, 111, 98] : List UInt8) w32 (SP.sub hs39 [1, 2, 3] rfl rfl) z40 hz41) ?_
 rintro e w42 ⟨A44, c45, A46, c47, rfl, hs43⟩
 refine ⟨_, rfl, ?_⟩
 have hs49 : SP [] w0 w42 [boxE g13 31 #[(.int .i64 7), (.string ⟨List.toArray ([119, 101, 98] : List UInt8)⟩), (.string ⟨List.toArray ([97, 110, 110] : List UInt8)⟩), (.int .i64 3)], boxE g5 56 #[(.slice A44 (List.length z40.2.2.2.2.2.1) c45), (.int .i64 z40.2.2.2.2.2.2.1), (.slice A46 (List.length z40.2.2.2.2.2.2.2) c47)], rdE eU8 A44 c45 z40.2.2.2.2.2.1, rowT 59 (ePair (eInt .i64) (ePair eStr (ePair eStr (ePair (eInt .i64) eStr)))) A46 c47 z40.2.2.2.2.2.2.2] := SP.callS hs39 [1, 2, 3] [0] rfl rfl hs43 rfl
 clear hs43
 refine In.run' 3 (k' := 6) rfl [(29, (.tuple #[(.agg #[(.int .i64 z40.1), (.string ⟨List.toArray z40.2.1⟩), (.string ⟨List.toArray z40.2.2.1⟩), (.int .i64 z40.2.2.2.1)]), (.int .i64 z40.2.2.2.2.1)])), (33, (.agg #[(.int .i64 z40.1), (.string ⟨List.toArray z40.2.1⟩), (.string ⟨List.toArray z40.2.2.1⟩), (.int .i64 z40.2.2.2.1)])), (34, (.int .i64 z40.2.2.2.2.1))] K ?_
 refine In.step (k' := 7) rfl K ?_
 refine Step.alloc (t := 31) (z := (.agg #[(.int .i64 0), (.string ⟨List.toArray ([] : List UInt8)⟩), (.string ⟨List.toArray ([] : List UInt8)⟩), (.int .i64 0)])) (d := (some 7)) (k := 6) K rfl K hs49 ?_
 intro g50 w51 (hs53 : SP [] w0 w51 [boxE g13 31 #[(.int .i64 7), (.string ⟨List.toArray ([119, 101, 98] : List UInt8)⟩), (.string ⟨List.toArray ([97, 110, 110] : List UInt8)⟩), (.int .i64 3)], boxE g5 56 #[(.slice A44 (List.length z40.2.2.2.2.2.1) c45), (.int .i64 z40.2.2.2.2.2.2.1), (.slice A46 (List.length z40.2.2.2.2.2.2.2) c47)], rdE eU8 A44 c45 z40.2.2.2.2.2.1, rowT 59 (ePair (eInt .i64) (ePair eStr (ePair eStr (ePair (eInt .i64) eStr)))) A46 c47 z40.2.2.2.2.2.2.2, boxE g50 31 #[(.int .i64 0), (.string ⟨List.toArray ([] : List UInt8)⟩), (.string ⟨List.toArray ([] : List UInt8)⟩), (.int .i64 0)]])
 refine In.step (k' := 8) rfl K ?_
 refine Step.store (t := 31) (x := (.tmp 7)) (y := (.tmp 33)) (g := g50) (off := 0) (i := 4) (v := (.agg #[(.int .i64 z40.1), (.string ⟨List.toArray z40.2.1⟩), (.string ⟨List.toArray z40.2.2.1⟩), (.int .i64 z40.2.2.2.1)])) (cs' := #[(.int .i64 z40.1), (.string ⟨List.toArray z40.2.1⟩), (.string ⟨List.toArray z40.2.2.1⟩), (.int .i64 z40.2.2.2.1)]) (d := none) (k := 7) K rfl K K hs53 rfl K ?_
 intro w54 (hs56 : SP [] w0 w54 [boxE g13 31 #[(.int .i64 7), (.string ⟨List.toArray ([119, 101, 98] : List UInt8)⟩), (.string ⟨List.toArray ([97, 110, 110] : List UInt8)⟩), (.int .i64 3)], boxE g5 56 #[(.slice A44 (List.length z40.2.2.2.2.2.1) c45), (.int .i64 z40.2.2.2.2.2.2.1), (.slice A46 (List.length z40.2.2.2.2.2.2.2) c47)], rdE eU8 A44 c45 z40.2.2.2.2.2.1, rowT 59 (ePair (eInt .i64) (ePair eStr (ePair eStr (ePair (eInt .i64) eStr)))) A46 c47 z40.2.2.2.2.2.2.2, boxE g50 31 #[(.int .i64 z40.1), (.string ⟨List.toArray z40.2.1⟩), (.string ⟨List.toArray z40.2.2.1⟩), (.int .i64 z40.2.2.2.1)]])
 refine In.run' 1 (k' := 9) rfl [(8, (.int .i64 z40.2.2.2.2.1))] K ?_
 refine In.fin K ?_
 refine At.sq K ?_
 refine At.region K K ?_
 refine In.run' 2 (k' := 2) rfl [(36, (pt g5 0)), (37, (.string ⟨List.toArray z20.1⟩))] K ?_
 obtain ⟨z57, hz58, H⟩ := bind_elim H
 refine In.step (k' := 3) rfl K ?_
 refine Step.callF (f := 13) (fo := (.func 13)) (xs := #[(.tmp 36), (.tmp 37), (.const (.string ⟨List.toArray ([97, 110, 110] : List UInt8)⟩))]) (tys := #[24, 9, 9]) (first := #[]) (captured := #[]) (d := (some 38)) (k := 2) K rfl K K Tryd.call13 (L_ticket_Book_Redeem_walk g5 A44 c45 A46 c47 z40.2.2.2.2.2.1 z40.2.2.2.2.2.2.1 z40.2.2.2.2.2.2.2 z20.1 ([97, 110, 110] : List UInt8) w54 (SP.sub hs56 [1, 2, 3] rfl rfl) z57 hz58) ?_
 rintro e w59 ⟨A61, c62, A63, c64, rfl, hs60⟩
 refine ⟨_, rfl, ?_⟩
 have hs66 : SP [] w0 w59 [boxE g13 31 #[(.int .i64 7), (.string ⟨List.toArray ([119, 101, 98] : List UInt8)⟩), (.string ⟨List.toArray ([97, 110, 110] : List UInt8)⟩), (.int .i64 3)], boxE g50 31 #[(.int .i64 z40.1), (.string ⟨List.toArray z40.2.1⟩), (.string ⟨List.toArray z40.2.2.1⟩), (.int .i64 z40.2.2.2.1)], boxE g5 56 #[(.slice A61 (List.length z57.2.2.2.2.2.1) c62), (.int .i64 z57.2.2.2.2.2.2.1), (.slice A63 (List.length z57.2.2.2.2.2.2.2) c64)], rdE eU8 A61 c62 z57.2.2.2.2.2.1, rowT 59 (ePair (eInt .i64) (ePair eStr (ePair eStr (ePair (eInt .i64) eStr)))) A63 c64 z57.2.2.2.2.2.2.2] := SP.callS hs56 [1, 2, 3] [0, 4] rfl rfl hs60 rfl
 clear hs60
 refine In.run' 3 (k' := 6) rfl [(35, (.tuple #[(.agg #[(.int .i64 z57.1), (.string ⟨List.toArray z57.2.1⟩), (.string ⟨List.toArray z57.2.2.1⟩), (.int .i64 z57.2.2.2.1)]), (.int .i64 z57.2.2.2.2.1)])), (39, (.agg #[(.int .i64 z57.1), (.string ⟨List.toArray z57.2.1⟩), (.string ⟨List.toArray z57.2.2.1⟩), (.int .i64 z57.2.2.2.1)])), (40, (.int .i64 z57.2.2.2.2.1))] K ?_
 refine In.step (k' := 7) rfl K ?_
 refine Step.alloc (t := 31) (z := (.agg #[(.int .i64 0), (.string ⟨List.toArray ([] : List UInt8)⟩), (.string ⟨List.toArray ([] : List UInt8)⟩), (.int .i64 0)])) (d := (some 9)) (k := 6) K rfl K hs66 ?_
 intro g67 w68 (hs70 : SP [] w0 w68 [boxE g13 31 #[(.int .i64 7), (.string ⟨List.toArray ([119, 101, 98] : List UInt8)⟩), (.string ⟨List.toArray ([97, 110, 110] : List UInt8)⟩), (.int .i64 3)], boxE g50 31 #[(.int .i64 z40.1), (.string ⟨List.toArray z40.2.1⟩), (.string ⟨List.toArray z40.2.2.1⟩), (.int .i64 z40.2.2.2.1)], boxE g5 56 #[(.slice A61 (List.length z57.2.2.2.2.2.1) c62), (.int .i64 z57.2.2.2.2.2.2.1), (.slice A63 (List.length z57.2.2.2.2.2.2.2) c64)], rdE eU8 A61 c62 z57.2.2.2.2.2.1, rowT 59 (ePair (eInt .i64) (ePair eStr (ePair eStr (ePair (eInt .i64) eStr)))) A63 c64 z57.2.2.2.2.2.2.2, boxE g67 31 #[(.int .i64 0), (.string ⟨List.toArray ([] : List UInt8)⟩), (.string ⟨List.toArray ([] : List UInt8)⟩), (.int .i64 0)]])
 refine In.step (k' := 8) rfl K ?_
 refine Step.store (t := 31) (x := (.tmp 9)) (y := (.tmp 39)) (g := g67) (off := 0) (i := 5) (v := (.agg #[(.int .i64 z57.1), (.string ⟨List.toArray z57.2.1⟩), (.string ⟨List.toArray z57.2.2.1⟩), (.int .i64 z57.2.2.2.1)])) (cs' := #[(.int .i64 z57.1), (.string ⟨List.toArray z57.2.1⟩), (.string ⟨List.toArray z57.2.2.1⟩), (.int .i64 z57.2.2.2.1)]) (d := none) (k := 7) K rfl K K hs70 rfl K ?_
 intro w71 (hs73 : SP [] w0 w71 [boxE g13 31 #[(.int .i64 7), (.string ⟨List.toArray ([119, 101, 98] : List UInt8)⟩), (.string ⟨List.toArray ([97, 110, 110] : List UInt8)⟩), (.int .i64 3)], boxE g50 31 #[(.int .i64 z40.1), (.string ⟨List.toArray z40.2.1⟩), (.string ⟨List.toArray z40.2.2.1⟩), (.int .i64 z40.2.2.2.1)], boxE g5 56 #[(.slice A61 (List.length z57.2.2.2.2.2.1) c62), (.int .i64 z57.2.2.2.2.2.2.1), (.slice A63 (List.length z57.2.2.2.2.2.2.2) c64)], rdE eU8 A61 c62 z57.2.2.2.2.2.1, rowT 59 (ePair (eInt .i64) (ePair eStr (ePair eStr (ePair (eInt .i64) eStr)))) A63 c64 z57.2.2.2.2.2.2.2, boxE g67 31 #[(.int .i64 z57.1), (.string ⟨List.toArray z57.2.1⟩), (.string ⟨List.toArray z57.2.2.1⟩), (.int .i64 z57.2.2.2.1)]])
 refine In.run' 1 (k' := 9) rfl [(10, (.int .i64 z57.2.2.2.2.1))] K ?_
 refine In.fin K ?_
 refine At.sq K ?_
 refine At.region K K ?_
 refine In.run' 2 (k' := 2) rfl [(42, (pt g5 0)), (43, (.string ⟨List.toArray z20.1⟩))] K ?_
 obtain ⟨z74, hz75, H⟩ := bind_elim H
 refine In.step (k' := 3) rfl K ?_
 refine Step.callF (f := 13) (fo := (.func 13)) (xs := #[(.tmp 42), (.tmp 43), (.const (.string ⟨List.toArray ([97, 110, 110] : List UInt8)⟩))]) (tys := #[24, 9, 9]) (first := #[]) (captured := #[]) (d := (some 44)) (k := 2) K rfl K K Tryd.call13 (L_ticket_Book_Redeem_walk g5 A61 c62 A63 c64 z57.2.2.2.2.2.1 z57.2.2.2.2.2.2.1 z57.2.2.2.2.2.2.2 z20.1 ([97, 110, 110] : List UInt8) w71 (SP.sub hs73 [2, 3, 4] rfl rfl) z74 hz75) ?_
 rintro e w76 ⟨A78, c79, A80, c81, rfl, hs77⟩
 refine ⟨_, rfl, ?_⟩
 have hs83 : SP [] w0 w76 [boxE g13 31 #[(.int .i64 7), (.string ⟨List.toArray ([119, 101, 98] : List UInt8)⟩), (.string ⟨List.toArray ([97, 110, 110] : List UInt8)⟩), (.int .i64 3)], boxE g50 31 #[(.int .i64 z40.1), (.string ⟨List.toArray z40.2.1⟩), (.string ⟨List.toArray z40.2.2.1⟩), (.int .i64 z40.2.2.2.1)], boxE g67 31 #[(.int .i64 z57.1), (.string ⟨List.toArray z57.2.1⟩), (.string ⟨List.toArray z57.2.2.1⟩), (.int .i64 z57.2.2.2.1)], boxE g5 56 #[(.slice A78 (List.length z74.2.2.2.2.2.1) c79), (.int .i64 z74.2.2.2.2.2.2.1), (.slice A80 (List.length z74.2.2.2.2.2.2.2) c81)], rdE eU8 A78 c79 z74.2.2.2.2.2.1, rowT 59 (ePair (eInt .i64) (ePair eStr (ePair eStr (ePair (eInt .i64) eStr)))) A80 c81 z74.2.2.2.2.2.2.2] := SP.callS hs73 [2, 3, 4] [0, 1, 5] rfl rfl hs77 rfl
 clear hs77
 refine In.run' 3 (k' := 6) rfl [(41, (.tuple #[(.agg #[(.int .i64 z74.1), (.string ⟨List.toArray z74.2.1⟩), (.string ⟨List.toArray z74.2.2.1⟩), (.int .i64 z74.2.2.2.1)]), (.int .i64 z74.2.2.2.2.1)])), (45, (.agg #[(.int .i64 z74.1), (.string ⟨List.toArray z74.2.1⟩), (.string ⟨List.toArray z74.2.2.1⟩), (.int .i64 z74.2.2.2.1)])), (46, (.int .i64 z74.2.2.2.2.1))] K ?_
 refine In.step (k' := 7) rfl K ?_
 refine Step.alloc (t := 31) (z := (.agg #[(.int .i64 0), (.string ⟨List.toArray ([] : List UInt8)⟩), (.string ⟨List.toArray ([] : List UInt8)⟩), (.int .i64 0)])) (d := (some 11)) (k := 6) K rfl K hs83 ?_
 intro g84 w85 (hs87 : SP [] w0 w85 [boxE g13 31 #[(.int .i64 7), (.string ⟨List.toArray ([119, 101, 98] : List UInt8)⟩), (.string ⟨List.toArray ([97, 110, 110] : List UInt8)⟩), (.int .i64 3)], boxE g50 31 #[(.int .i64 z40.1), (.string ⟨List.toArray z40.2.1⟩), (.string ⟨List.toArray z40.2.2.1⟩), (.int .i64 z40.2.2.2.1)], boxE g67 31 #[(.int .i64 z57.1), (.string ⟨List.toArray z57.2.1⟩), (.string ⟨List.toArray z57.2.2.1⟩), (.int .i64 z57.2.2.2.1)], boxE g5 56 #[(.slice A78 (List.length z74.2.2.2.2.2.1) c79), (.int .i64 z74.2.2.2.2.2.2.1), (.slice A80 (List.length z74.2.2.2.2.2.2.2) c81)], rdE eU8 A78 c79 z74.2.2.2.2.2.1, rowT 59 (ePair (eInt .i64) (ePair eStr (ePair eStr (ePair (eInt .i64) eStr)))) A80 c81 z74.2.2.2.2.2.2.2, boxE g84 31 #[(.int .i64 0), (.string ⟨List.toArray ([] : List UInt8)⟩), (.string ⟨List.toArray ([] : List UInt8)⟩), (.int .i64 0)]])
 refine In.step (k' := 8) rfl K ?_
 refine Step.store (t := 31) (x := (.tmp 11)) (y := (.tmp 45)) (g := g84) (off := 0) (i := 6) (v := (.agg #[(.int .i64 z74.1), (.string ⟨List.toArray z74.2.1⟩), (.string ⟨List.toArray z74.2.2.1⟩), (.int .i64 z74.2.2.2.1)])) (cs' := #[(.int .i64 z74.1), (.string ⟨List.toArray z74.2.1⟩), (.string ⟨List.toArray z74.2.2.1⟩), (.int .i64 z74.2.2.2.1)]) (d := none) (k := 7) K rfl K K hs87 rfl K ?_
 intro w88 (hs90 : SP [] w0 w88 [boxE g13 31 #[(.int .i64 7), (.string ⟨List.toArray ([119, 101, 98] : List UInt8)⟩), (.string ⟨List.toArray ([97, 110, 110] : List UInt8)⟩), (.int .i64 3)], boxE g50 31 #[(.int .i64 z40.1), (.string ⟨List.toArray z40.2.1⟩), (.string ⟨List.toArray z40.2.2.1⟩), (.int .i64 z40.2.2.2.1)], boxE g67 31 #[(.int .i64 z57.1), (.string ⟨List.toArray z57.2.1⟩), (.string ⟨List.toArray z57.2.2.1⟩), (.int .i64 z57.2.2.2.1)], boxE g5 56 #[(.slice A78 (List.length z74.2.2.2.2.2.1) c79), (.int .i64 z74.2.2.2.2.2.2.1), (.slice A80 (List.length z74.2.2.2.2.2.2.2) c81)], rdE eU8 A78 c79 z74.2.2.2.2.2.1, rowT 59 (ePair (eInt .i64) (ePair eStr (ePair eStr (ePair (eInt .i64) eStr)))) A80 c81 z74.2.2.2.2.2.2.2, boxE g84 31 #[(.int .i64 z74.1), (.string ⟨List.toArray z74.2.1⟩), (.string ⟨List.toArray z74.2.2.1⟩), (.int .i64 z74.2.2.2.1)]])
 refine In.run' 1 (k' := 9) rfl [(12, (.int .i64 z74.2.2.2.2.1))] K ?_
 refine In.fin K ?_
 refine At.sq K ?_
 refine At.join (fun ρ w => ∃ (v141 : Bool), Known ρ [(0, (.bool v141))] ∧ SP [] w0 w [] ∧ L_subwaylaw15_head_k1 v141 = some r) ?_ ?_
 ·refine At.region K K ?_
  refine In.run' 4 (k' := 4) rfl [(47, (.string ⟨List.toArray z20.1⟩)), (48, (.int .i64 ((List.length z20.1 : Nat) : Int))), (49, (.bool (((List.length z20.1 : Nat) : Int) == 32))), (50, (.bool (((List.length z20.1 : Nat) : Int) == 32)))] K ?_
  refine In.guard (t := 50) (b := (((List.length z20.1 : Nat) : Int) == 32)) K (fun hb144 => ?_) (fun hb144 => ?_)
  ·have H := ct H hb144
   refine In.run' 1 (k' := 5) rfl [(51, (.string ⟨List.toArray z20.1⟩))] K ?_
   refine In.step (k' := 6) rfl K ?_
   refine Step.newSlice (e := eU8) (T := 50) (E := 5) (len := 3) (parts := #[(0, (.const (.int .u8 (107)))), (1, (.const (.int .u8 (101)))), (2, (.const (.int .u8 (121))))]) (cs := #[(.int .u8 107), (.int .u8 101), (.int .u8 121)]) ([(107 : UInt8), (101 : UInt8), (121 : UInt8)] : List UInt8) (d := (some 52)) (k := 5) K rfl (fun _ => K) hs90 (cells_cons8 (Or.inl rfl) (cells_cons8 (Or.inl rfl) (cells_cons8 (Or.inl rfl) rfl))) rfl rfl rfl ?_
   intro g145 w146 (hs148 : SP [] w0 w146 [boxE g13 31 #[(.int .i64 7), (.string ⟨List.toArray ([119, 101, 98] : List UInt8)⟩), (.string ⟨List.toArray ([97, 110, 110] : List UInt8)⟩), (.int .i64 3)], boxE g50 31 #[(.int .i64 z40.1), (.string ⟨List.toArray z40.2.1⟩), (.string ⟨List.toArray z40.2.2.1⟩), (.int .i64 z40.2.2.2.1)], boxE g67 31 #[(.int .i64 z57.1), (.string ⟨List.toArray z57.2.1⟩), (.string ⟨List.toArray z57.2.2.1⟩), (.int .i64 z57.2.2.2.1)], boxE g5 56 #[(.slice A78 (List.length z74.2.2.2.2.2.1) c79), (.int .i64 z74.2.2.2.2.2.2.1), (.slice A80 (List.length z74.2.2.2.2.2.2.2) c81)], rdE eU8 A78 c79 z74.2.2.2.2.2.1, rowT 59 (ePair (eInt .i64) (ePair eStr (ePair eStr (ePair (eInt .i64) eStr)))) A80 c81 z74.2.2.2.2.2.2.2, boxE g84 31 #[(.int .i64 z74.1), (.string ⟨List.toArray z74.2.1⟩), (.string ⟨List.toArray z74.2.2.1⟩), (.int .i64 z74.2.2.2.1)], rowT 5 eU8 (some ⟨g145, 0, none⟩) (List.length ([(107 : UInt8), (101 : UInt8), (121 : UInt8)] : List UInt8)) ([(107 : UInt8), (101 : UInt8), (121 : UInt8)] : List UInt8)])
   refine In.step (k' := 7) rfl K ?_
   refine Step.mark (T := 50) (E := 5) (x := (.tmp 52)) (g := g145) (c := (List.length ([(107 : UInt8), (101 : UInt8), (121 : UInt8)] : List UInt8))) (i := 7) (l := ([(107 : UInt8), (101 : UInt8), (121 : UInt8)] : List UInt8)) (d := (some 53)) (k := 6) K rfl K K K hs148 rfl ?_
   intro w149 (hs151 : SP [] w0 w149 [boxE g13 31 #[(.int .i64 7), (.string ⟨List.toArray ([119, 101, 98] : List UInt8)⟩), (.string ⟨List.toArray ([97, 110, 110] : List UInt8)⟩), (.int .i64 3)], boxE g50 31 #[(.int .i64 z40.1), (.string ⟨List.toArray z40.2.1⟩), (.string ⟨List.toArray z40.2.2.1⟩), (.int .i64 z40.2.2.2.1)], boxE g67 31 #[(.int .i64 z57.1), (.string ⟨List.toArray z57.2.1⟩), (.string ⟨List.toArray z57.2.2.1⟩), (.int .i64 z57.2.2.2.1)], boxE g5 56 #[(.slice A78 (List.length z74.2.2.2.2.2.1) c79), (.int .i64 z74.2.2.2.2.2.2.1), (.slice A80 (List.length z74.2.2.2.2.2.2.2) c81)], rdE eU8 A78 c79 z74.2.2.2.2.2.1, rowT 59 (ePair (eInt .i64) (ePair eStr (ePair eStr (ePair (eInt .i64) eStr)))) A80 c81 z74.2.2.2.2.2.2.2, boxE g84 31 #[(.int .i64 z74.1), (.string ⟨List.toArray z74.2.1⟩), (.string ⟨List.toArray z74.2.2.1⟩), (.int .i64 z74.2.2.2.1)], rdE eU8 (some ⟨g145, 0, none⟩) (List.length ([(107 : UInt8), (101 : UInt8), (121 : UInt8)] : List UInt8)) ([(107 : UInt8), (101 : UInt8), (121 : UInt8)] : List UInt8)])
   refine In.step (k' := 8) rfl K ?_
   refine Step.newSlice (e := eStr) (T := 29) (E := 9) (len := 2) (parts := #[(0, (.const (.string ⟨List.toArray ([49] : List UInt8)⟩))), (1, (.const (.string ⟨List.toArray ([100] : List UInt8)⟩)))]) (cs := #[(.string ⟨List.toArray ([49] : List UInt8)⟩), (.string ⟨List.toArray ([100] : List UInt8)⟩)]) ([([49] : List UInt8), ([100] : List UInt8)] : List (List UInt8)) (d := (some 54)) (k := 7) K rfl (fun _ => K) hs151 rfl rfl rfl rfl ?_
   intro g152 w153 (hs155 : SP [] w0 w153 [boxE g13 31 #[(.int .i64 7), (.string ⟨List.toArray ([119, 101, 98] : List UInt8)⟩), (.string ⟨List.toArray ([97, 110, 110] : List UInt8)⟩), (.int .i64 3)], boxE g50 31 #[(.int .i64 z40.1), (.string ⟨List.toArray z40.2.1⟩), (.string ⟨List.toArray z40.2.2.1⟩), (.int .i64 z40.2.2.2.1)], boxE g67 31 #[(.int .i64 z57.1), (.string ⟨List.toArray z57.2.1⟩), (.string ⟨List.toArray z57.2.2.1⟩), (.int .i64 z57.2.2.2.1)], boxE g5 56 #[(.slice A78 (List.length z74.2.2.2.2.2.1) c79), (.int .i64 z74.2.2.2.2.2.2.1), (.slice A80 (List.length z74.2.2.2.2.2.2.2) c81)], rdE eU8 A78 c79 z74.2.2.2.2.2.1, rowT 59 (ePair (eInt .i64) (ePair eStr (ePair eStr (ePair (eInt .i64) eStr)))) A80 c81 z74.2.2.2.2.2.2.2, boxE g84 31 #[(.int .i64 z74.1), (.string ⟨List.toArray z74.2.1⟩), (.string ⟨List.toArray z74.2.2.1⟩), (.int .i64 z74.2.2.2.1)], rdE eU8 (some ⟨g145, 0, none⟩) (List.length ([(107 : UInt8), (101 : UInt8), (121 : UInt8)] : List UInt8)) ([(107 : UInt8), (101 : UInt8), (121 : UInt8)] : List UInt8), rowT 9 eStr (some ⟨g152, 0, none⟩) (List.length ([([49] : List UInt8), ([100] : List UInt8)] : List (List UInt8))) ([([49] : List UInt8), ([100] : List UInt8)] : List (List UInt8))])
   obtain ⟨z156, hz157, H⟩ := bind_elim H
   refine In.step (k' := 9) rfl K ?_
   refine Step.callF (f := 21) (fo := (.func 21)) (xs := #[(.tmp 53), (.tmp 54)]) (tys := #[50, 29]) (first := #[]) (captured := #[]) (d := (some 55)) (k := 8) K rfl K K Tryd.call21 (L_subwayref03_Proof_walk (some ⟨g145, 0, none⟩) (List.length ([(107 : UInt8), (101 : UInt8), (121 : UInt8)] : List UInt8)) (some ⟨g152, 0, none⟩) (List.length ([([49] : List UInt8), ([100] : List UInt8)] : List (List UInt8))) ([(107 : UInt8), (101 : UInt8), (121 : UInt8)] : List UInt8) ([([49] : List UInt8), ([100] : List UInt8)] : List (List UInt8)) w153 (rdE_rd (SP.get hs155 (i := 7) rfl)) (rowT_rd (SP.get hs155 (i := 8) rfl)) z156 hz157) ?_
   rintro e w158 ⟨rfl, hs159⟩
   refine ⟨_, rfl, ?_⟩
   have hs161 : SP [] w0 w158 [boxE g13 31 #[(.int .i64 7), (.string ⟨List.toArray ([119, 101, 98] : List UInt8)⟩), (.string ⟨List.toArray ([97, 110, 110] : List UInt8)⟩), (.int .i64 3)], boxE g50 31 #[(.int .i64 z40.1), (.string ⟨List.toArray z40.2.1⟩), (.string ⟨List.toArray z40.2.2.1⟩), (.int .i64 z40.2.2.2.1)], boxE g67 31 #[(.int .i64 z57.1), (.string ⟨List.toArray z57.2.1⟩), (.string ⟨List.toArray z57.2.2.1⟩), (.int .i64 z57.2.2.2.1)], boxE g5 56 #[(.slice A78 (List.length z74.2.2.2.2.2.1) c79), (.int .i64 z74.2.2.2.2.2.2.1), (.slice A80 (List.length z74.2.2.2.2.2.2.2) c81)], rdE eU8 A78 c79 z74.2.2.2.2.2.1, rowT 59 (ePair (eInt .i64) (ePair eStr (ePair eStr (ePair (eInt .i64) eStr)))) A80 c81 z74.2.2.2.2.2.2.2, boxE g84 31 #[(.int .i64 z74.1), (.string ⟨List.toArray z74.2.1⟩), (.string ⟨List.toArray z74.2.2.1⟩), (.int .i64 z74.2.2.2.1)], rdE eU8 (some ⟨g145, 0, none⟩) (List.length ([(107 : UInt8), (101 : UInt8), (121 : UInt8)] : List UInt8)) ([(107 : UInt8), (101 : UInt8), (121 : UInt8)] : List UInt8), rowT 9 eStr (some ⟨g152, 0, none⟩) (List.length ([([49] : List UInt8), ([100] : List UInt8)] : List (List UInt8))) ([([49] : List UInt8), ([100] : List UInt8)] : List (List UInt8))] := SP.call hs155 hs159
   clear hs159
   obtain ⟨hz162, hz163, hz164, H⟩ := sub_elim H
   obtain ⟨l165, hyl165⟩ : ∃ y, (List.drop (Int.toNat 0) (List.take (Int.toNat 32) z156)) = y := ⟨_, rfl⟩
   rw [hyl165] at H
   refine In.step (k' := 10) rfl K ?_
   refine Step.strSlice (a := z156) (T := 9) (x := (.tmp 55)) (lo := none) (hi := (some (.const (.int .i64 (32))))) (i := 0) (j := 32) (d := (some 56)) (k := 9) K rfl K K rfl ⟨.i64, K⟩ hz162 hz163 hz164 ?_
   rw [hyl165]
   refine In.step (k' := 11) rfl K ?_
   refine Step.strOp (op := .eql) (T := 9) (T' := 9) (x := (.tmp 51)) (y := (.tmp 56)) (a := z20.1) (b := l165) (r := (.bool (z20.1 == l165))) (d := (some 57)) (k := 10) K rfl K K rfl ?_
   refine In.run' 2 (k' := 13) rfl [(58, (.bool (z20.1 == l165))), (59, (.bool (z20.1 == l165)))] K ?_
   refine In.guard (t := 59) (b := (z20.1 == l165)) K (fun hb166 => ?_) (fun hb166 => ?_)
   ·have H := ct H hb166
    refine In.run' 4 (k' := 17) rfl [(60, (.int .i64 z20.2.1)), (61, (.bool (z20.2.1 == 0))), (62, (.bool (z20.2.1 == 0))), (63, (.bool (z20.2.1 == 0)))] K ?_
    refine In.guard (t := 63) (b := (z20.2.1 == 0)) K (fun hb167 => ?_) (fun hb167 => ?_)
    ·have H := ct H hb167
     refine In.run' 4 (k' := 21) rfl [(64, (.int .i64 z30.2.1)), (65, (.bool (z30.2.1 == 4))), (66, (.bool (z30.2.1 == 4))), (67, (.bool (z30.2.1 == 4)))] K ?_
     refine In.guard (t := 67) (b := (z30.2.1 == 4)) K (fun hb168 => ?_) (fun hb168 => ?_)
     ·have H := ct H hb168
      refine In.run' 4 (k' := 25) rfl [(68, (.int .i64 z40.2.2.2.2.1)), (69, (.bool (z40.2.2.2.2.1 == 131))), (70, (.bool (z40.2.2.2.2.1 == 131))), (71, (.bool (z40.2.2.2.2.1 == 131)))] K ?_
      refine In.guard (t := 71) (b := (z40.2.2.2.2.1 == 131)) K (fun hb169 => ?_) (fun hb169 => ?_)
      ·have H := ct H hb169
       refine In.step (k' := 26) rfl K ?_
       refine Step.load (t := 31) (x := (.tmp 9)) (g := g67) (off := 0) (i := 2) (v := (.agg #[(.int .i64 z57.1), (.string ⟨List.toArray z57.2.1⟩), (.string ⟨List.toArray z57.2.2.1⟩), (.int .i64 z57.2.2.2.1)])) (d := (some 72)) (k := 25) K rfl K hs161 rfl K ?_
       refine In.step (k' := 27) rfl K ?_
       refine Step.load (t := 31) (x := (.tmp 2)) (g := g13) (off := 0) (i := 0) (v := (.agg #[(.int .i64 7), (.string ⟨List.toArray ([119, 101, 98] : List UInt8)⟩), (.string ⟨List.toArray ([97, 110, 110] : List UInt8)⟩), (.int .i64 3)])) (d := (some 73)) (k := 26) K rfl K hs161 rfl K ?_
       refine In.step (k' := 28) rfl K ?_
       refine Step.bin (op := .eql) (T := 31) (T' := 31) (x := (.tmp 72)) (y := (.tmp 73)) (vx := (.agg #[(.int .i64 z57.1), (.string ⟨List.toArray z57.2.1⟩), (.string ⟨List.toArray z57.2.2.1⟩), (.int .i64 z57.2.2.2.1)])) (vy := (.agg #[(.int .i64 7), (.string ⟨List.toArray ([119, 101, 98] : List UInt8)⟩), (.string ⟨List.toArray ([97, 110, 110] : List UInt8)⟩), (.int .i64 3)])) (v := (.bool ((z57.1 == 7) && ((z57.2.1 == ([119, 101, 98] : List UInt8)) && ((z57.2.2.1 == ([97, 110, 110] : List UInt8)) && (z57.2.2.2.1 == 3)))))) (d := (some 74)) (k := 27) K rfl K K (by clear H; intro w; simp only [beq_dec]; go_simp; simp only [struct_ifn, struct_ifn0, struct_if, beq_dec, Bool.and_true] <;> simp only [Bool.not_and]) ?_
       refine In.run' 2 (k' := 30) rfl [(75, (.bool ((z57.1 == 7) && ((z57.2.1 == ([119, 101, 98] : List UInt8)) && ((z57.2.2.1 == ([97, 110, 110] : List UInt8)) && (z57.2.2.2.1 == 3)))))), (76, (.bool ((z57.1 == 7) && ((z57.2.1 == ([119, 101, 98] : List UInt8)) && ((z57.2.2.1 == ([97, 110, 110] : List UInt8)) && (z57.2.2.2.1 == 3))))))] K ?_
       refine In.guard (t := 76) (b := ((z57.1 == 7) && ((z57.2.1 == ([119, 101, 98] : List UInt8)) && ((z57.2.2.1 == ([97, 110, 110] : List UInt8)) && (z57.2.2.2.1 == 3))))) K (fun hb170 => ?_) (fun hb170 => ?_)
       ·have H := ct H hb170
        refine In.run' 4 (k' := 34) rfl [(77, (.int .i64 z57.2.2.2.2.1)), (78, (.bool (z57.2.2.2.2.1 == 0))), (79, (.bool (z57.2.2.2.2.1 == 0))), (80, (.bool (z57.2.2.2.2.1 == 0)))] K ?_
        refine In.guard (t := 80) (b := (z57.2.2.2.2.1 == 0)) K (fun hb171 => ?_) (fun hb171 => ?_)
        ·have H := ct H hb171
         refine In.run' 4 (k' := 38) rfl [(81, (.int .i64 z74.2.2.2.2.1)), (82, (.bool (z74.2.2.2.2.1 == 151))), (83, (.bool (z74.2.2.2.2.1 == 151))), (84, (.bool (z74.2.2.2.2.1 == 151)))] K ?_
         refine In.guard (t := 84) (b := (z74.2.2.2.2.1 == 151)) K (fun hb172 => ?_) (fun hb172 => ?_)
         ·have H := ct H hb172
          refine In.run' 1 (k' := 39) rfl [(85, (pt g5 0))] K ?_
          obtain ⟨z173, hz174, H⟩ := bind_elim H
          refine In.step (k' := 40) rfl K ?_
          refine Step.callF (f := 20) (fo := (.func 20)) (xs := #[(.tmp 85)]) (tys := #[24]) (first := #[]) (captured := #[]) (d := (some 86)) (k := 39) K rfl K K Tryd.call20 (L_ticket_Book_Many_walk g5 A78 c79 A80 c81 z74.2.2.2.2.2.1 z74.2.2.2.2.2.2.1 z74.2.2.2.2.2.2.2 w158 (SP.sub hs161 [3, 4, 5] rfl rfl) z173 hz174) ?_
          rintro e w175 ⟨A177, c178, A179, c180, rfl, hs176⟩
          refine ⟨_, rfl, ?_⟩
          have hs182 : SP [] w0 w175 [boxE g13 31 #[(.int .i64 7), (.string ⟨List.toArray ([119, 101, 98] : List UInt8)⟩), (.string ⟨List.toArray ([97, 110, 110] : List UInt8)⟩), (.int .i64 3)], boxE g50 31 #[(.int .i64 z40.1), (.string ⟨List.toArray z40.2.1⟩), (.string ⟨List.toArray z40.2.2.1⟩), (.int .i64 z40.2.2.2.1)], boxE g67 31 #[(.int .i64 z57.1), (.string ⟨List.toArray z57.2.1⟩), (.string ⟨List.toArray z57.2.2.1⟩), (.int .i64 z57.2.2.2.1)], boxE g84 31 #[(.int .i64 z74.1), (.string ⟨List.toArray z74.2.1⟩), (.string ⟨List.toArray z74.2.2.1⟩), (.int .i64 z74.2.2.2.1)], rdE eU8 (some ⟨g145, 0, none⟩) (List.length ([(107 : UInt8), (101 : UInt8), (121 : UInt8)] : List UInt8)) ([(107 : UInt8), (101 : UInt8), (121 : UInt8)] : List UInt8), rowT 9 eStr (some ⟨g152, 0, none⟩) (List.length ([([49] : List UInt8), ([100] : List UInt8)] : List (List UInt8))) ([([49] : List UInt8), ([100] : List UInt8)] : List (List UInt8)), boxE g5 56 #[(.slice A177 (List.length z74.2.2.2.2.2.1) c178), (.int .i64 z74.2.2.2.2.2.2.1), (.slice A179 (List.length z74.2.2.2.2.2.2.2) c180)], rdE eU8 A177 c178 z74.2.2.2.2.2.1, rowT 59 (ePair (eInt .i64) (ePair eStr (ePair eStr (ePair (eInt .i64) eStr)))) A179 c180 z74.2.2.2.2.2.2.2] := SP.callS hs161 [3, 4, 5] [0, 1, 2, 6, 7, 8] rfl rfl hs176 rfl
          clear hs176
          refine In.run' 3 (k' := 43) rfl [(87, (.bool (z173 == 0))), (88, (.bool (z173 == 0))), (89, (.bool (z173 == 0)))] K ?_
          refine In.guard (t := 89) (b := (z173 == 0)) K (fun hb183 => ?_) (fun hb183 => ?_)
          ·have H := ct H hb183
           refine In.run' 1 (k' := 44) rfl [(90, (pt g5 0))] K ?_
           obtain ⟨z184, hz185, H⟩ := bind_elim H
           refine In.step (k' := 45) rfl K ?_
           refine Step.callF (f := 16) (fo := (.func 16)) (xs := #[(.tmp 90), (.const (.int .i64 (7)))]) (tys := #[24, 3]) (first := #[]) (captured := #[]) (d := (some 91)) (k := 44) K rfl K K Tryd.call16 (L_ticket_Book_Void_walk g5 A177 c178 A179 c180 z74.2.2.2.2.2.1 z74.2.2.2.2.2.2.1 z74.2.2.2.2.2.2.2 7 w175 (SP.sub hs182 [6, 7, 8] rfl rfl) z184 hz185) ?_
           rintro e w186 ⟨A188, c189, A190, c191, rfl, hs187⟩
           refine ⟨_, rfl, ?_⟩
           have hs193 : SP [] w0 w186 [boxE g13 31 #[(.int .i64 7), (.string ⟨List.toArray ([119, 101, 98] : List UInt8)⟩), (.string ⟨List.toArray ([97, 110, 110] : List UInt8)⟩), (.int .i64 3)], boxE g50 31 #[(.int .i64 z40.1), (.string ⟨List.toArray z40.2.1⟩), (.string ⟨List.toArray z40.2.2.1⟩), (.int .i64 z40.2.2.2.1)], boxE g67 31 #[(.int .i64 z57.1), (.string ⟨List.toArray z57.2.1⟩), (.string ⟨List.toArray z57.2.2.1⟩), (.int .i64 z57.2.2.2.1)], boxE g84 31 #[(.int .i64 z74.1), (.string ⟨List.toArray z74.2.1⟩), (.string ⟨List.toArray z74.2.2.1⟩), (.int .i64 z74.2.2.2.1)], rdE eU8 (some ⟨g145, 0, none⟩) (List.length ([(107 : UInt8), (101 : UInt8), (121 : UInt8)] : List UInt8)) ([(107 : UInt8), (101 : UInt8), (121 : UInt8)] : List UInt8), rowT 9 eStr (some ⟨g152, 0, none⟩) (List.length ([([49] : List UInt8), ([100] : List UInt8)] : List (List UInt8))) ([([49] : List UInt8), ([100] : List UInt8)] : List (List UInt8)), boxE g5 56 #[(.slice A188 (List.length z184.2.1) c189), (.int .i64 z184.2.2.1), (.slice A190 (List.length z184.2.2.2) c191)], rdE eU8 A188 c189 z184.2.1, rowT 59 (ePair (eInt .i64) (ePair eStr (ePair eStr (ePair (eInt .i64) eStr)))) A190 c191 z184.2.2.2] := SP.callS hs182 [6, 7, 8] [0, 1, 2, 3, 4, 5] rfl rfl hs187 rfl
           clear hs187
           refine In.run' 3 (k' := 48) rfl [(92, (.bool (!z184.1))), (93, (.bool (!z184.1))), (0, (.bool (!z184.1)))] K ?_
           refine In.fin K ?_
           exact ⟨(!z184.1), ⟨K, trivial⟩, SP.sel hs193 [] rfl rfl, H⟩
          ·have H := cf H hb183
           refine In.run' 5 (k' := 48) rfl [(90, undef), (91, undef), (92, undef), (93, (.bool false)), (0, (.bool false))] K ?_
           refine In.fin K ?_
           exact ⟨false, ⟨K, trivial⟩, SP.sel hs182 [] rfl rfl, H⟩
         ·have H := cf H hb172
          refine In.run' 10 (k' := 48) rfl [(85, undef), (86, undef), (87, undef), (88, (.bool false)), (89, (.bool false)), (90, undef), (91, undef), (92, undef), (93, (.bool false)), (0, (.bool false))] K ?_
          refine In.fin K ?_
          exact ⟨false, ⟨K, trivial⟩, SP.sel hs161 [] rfl rfl, H⟩
        ·have H := cf H hb171
         refine In.run' 14 (k' := 48) rfl [(81, undef), (82, undef), (83, (.bool false)), (84, (.bool false)), (85, undef), (86, undef), (87, undef), (88, (.bool false)), (89, (.bool false)), (90, undef), (91, undef), (92, undef), (93, (.bool false)), (0, (.bool false))] K ?_
         refine In.fin K ?_
         exact ⟨false, ⟨K, trivial⟩, SP.sel hs161 [] rfl rfl, H⟩
       ·have H := cf H hb170
        refine In.run' 18 (k' := 48) rfl [(77, undef), (78, undef), (79, (.bool false)), (80, (.bool false)), (81, undef), (82, undef), (83, (.bool false)), (84, (.bool false)), (85, undef), (86, undef), (87, undef), (88, (.bool false)), (89, (.bool false)), (90, undef), (91, undef), (92, undef), (93, (.bool false)), (0, (.bool false))] K ?_
        refine In.fin K ?_
        exact ⟨false, ⟨K, trivial⟩, SP.sel hs161 [] rfl rfl, H⟩
      ·have H := cf H hb169
       refine In.run' 23 (k' := 48) rfl [(72, undef), (73, undef), (74, undef), (75, (.bool false)), (76, (.bool false)), (77, undef), (78, undef), (79, (.bool false)), (80, (.bool false)), (81, undef), (82, undef), (83, (.bool false)), (84, (.bool false)), (85, undef), (86, undef), (87, undef), (88, (.bool false)), (89, (.bool false)), (90, undef), (91, undef), (92, undef), (93, (.bool false)), (0, (.bool false))] K ?_
       refine In.fin K ?_
       exact ⟨false, ⟨K, trivial⟩, SP.sel hs161 [] rfl rfl, H⟩
     ·have H := cf H hb168
      refine In.run' 27 (k' := 48) rfl [(68, undef), (69, undef), (70, (.bool false)), (71, (.bool false)), (72, undef), (73, undef), (74, undef), (75, (.bool false)), (76, (.bool false)), (77, undef), (78, undef), (79, (.bool false)), (80, (.bool false)), (81, undef), (82, undef), (83, (.bool false)), (84, (.bool false)), (85, undef), (86, undef), (87, undef), (88, (.bool false)), (89, (.bool false)), (90, undef), (91, undef), (92, undef), (93, (.bool false)), (0, (.bool false))] K ?_
      refine In.fin K ?_
      exact ⟨false, ⟨K, trivial⟩, SP.sel hs161 [] rfl rfl, H⟩
    ·have H := cf H hb167
     refine In.run' 31 (k' := 48) rfl [(64, undef), (65, undef), (66, (.bool false)), (67, (.bool false)), (68, undef), (69, undef), (70, (.bool false)), (71, (.bool false)), (72, undef), (73, undef), (74, undef), (75, (.bool false)), (76, (.bool false)), (77, undef), (78, undef), (79, (.bool false)), (80, (.bool false)), (81, undef), (82, undef), (83, (.bool false)), (84, (.bool false)), (85, undef), (86, undef), (87, undef), (88, (.bool false)), (89, (.bool false)), (90, undef), (91, undef), (92, undef), (93, (.bool false)), (0, (.bool false))] K ?_
     refine In.fin K ?_
     exact ⟨false, ⟨K, trivial⟩, SP.sel hs161 [] rfl rfl, H⟩
   ·have H := cf H hb166
    refine In.run' 35 (k' := 48) rfl [(60, undef), (61, undef), (62, (.bool false)), (63, (.bool false)), (64, undef), (65, undef), (66, (.bool false)), (67, (.bool false)), (68, undef), (69, undef), (70, (.bool false)), (71, (.bool false)), (72, undef), (73, undef), (74, undef), (75, (.bool false)), (76, (.bool false)), (77, undef), (78, undef), (79, (.bool false)), (80, (.bool false)), (81, undef), (82, undef), (83, (.bool false)), (84, (.bool false)), (85, undef), (86, undef), (87, undef), (88, (.bool false)), (89, (.bool false)), (90, undef), (91, undef), (92, undef), (93, (.bool false)), (0, (.bool false))] K ?_
    refine In.fin K ?_
    exact ⟨false, ⟨K, trivial⟩, SP.sel hs161 [] rfl rfl, H⟩
  ·have H := cf H hb144
   refine In.run' 44 (k' := 48) rfl [(51, undef), (52, undef), (53, undef), (54, undef), (55, undef), (56, undef), (57, undef), (58, (.bool false)), (59, (.bool false)), (60, undef), (61, undef), (62, (.bool false)), (63, (.bool false)), (64, undef), (65, undef), (66, (.bool false)), (67, (.bool false)), (68, undef), (69, undef), (70, (.bool false)), (71, (.bool false)), (72, undef), (73, undef), (74, undef), (75, (.bool false)), (76, (.bool false)), (77, undef), (78, undef), (79, (.bool false)), (80, (.bool false)), (81, undef), (82, undef), (83, (.bool false)), (84, (.bool false)), (85, undef), (86, undef), (87, undef), (88, (.bool false)), (89, (.bool false)), (90, undef), (91, undef), (92, undef), (93, (.bool false)), (0, (.bool false))] K ?_
   refine In.fin K ?_
   exact ⟨false, ⟨K, trivial⟩, SP.sel hs90 [] rfl rfl, H⟩
 ·rintro ρ w142 ⟨v141, hk, hs143, H⟩
  unfold L_subwaylaw15_head_k1 at H
  first | refine At.known [(0, (.bool v141))] hk ?_ | rw [← known_updL (l := [(0, (.bool v141))]) hk]
  refine At.ret K ?_
  refine ⟨(.bool v141), K, ?_⟩
  obtain rfl := some_elim H
  exact ⟨rfl, SP.sel hs143 [] rfl rfl⟩
end Go.Proofs.YtjllaeceghmjgaaDoor
