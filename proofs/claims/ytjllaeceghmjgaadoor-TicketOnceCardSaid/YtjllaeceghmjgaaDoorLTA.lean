/- LIFTED BY PROGRAM (tools/lift.py): what functions compute, and that they do. -/
import Derived.Test.YtjllaeceghmjgaaDoorObj
namespace Go.Proofs.YtjllaeceghmjgaaDoor
set_option linter.unusedSimpArgs false
set_option linter.unusedVariables false
open Go.RowKit

/-! L_ticket_New -/
def L_ticket_New (p1 : (List UInt8)) : Option ((List UInt8) × Int × (List (Int × (List UInt8) × (List UInt8) × Int × (List UInt8)))) :=
  ((chk (Nat.ble (List.length p1) 281474976710656)).bind fun _ => (some (p1, 0, ([] : List (Int × (List UInt8) × (List UInt8) × Int × (List UInt8))))))
set_option maxRecDepth 100000 in
set_option maxHeartbeats 4000000 in
theorem L_ticket_New_walk  (p1 : (List UInt8)) (w0 : World)  (r : ((List UInt8) × Int × (List (Int × (List UInt8) × (List UInt8) × Int × (List UInt8))))) (H : L_ticket_New p1 = some r) :
  Calls Tryd.prog 10 #[(.string ⟨List.toArray p1⟩)] w0 (fun e w' => ∃ (g12 : Nat) (A13 : Option Addr) (c14 : Nat) (A15 : Option Addr) (c16 : Nat), e = .returned (pt g12 0) ∧ SP [] w0 w' [boxE g12 56 #[(.slice A13 (List.length r.1) c14), (.int .i64 r.2.1), (.slice A15 (List.length r.2.2) c16)], rdE eU8 A13 c14 r.1, rowT 59 (ePair (eInt .i64) (ePair eStr (ePair eStr (ePair (eInt .i64) eStr)))) A15 c16 r.2.2]) := by
 unfold L_ticket_New at H
 refine calls_go (n := 7) Tryd.func10 K K K ?_
 have hs0 := SP.start [] w0
 refine At.sq K ?_
 refine At.region K K ?_
 refine In.run' 1 (k' := 1) rfl [(2, (.pointer none))] K ?_
 refine In.fin K ?_
 refine At.sq K ?_
 refine At.region K K ?_
 refine In.run' 1 (k' := 1) rfl [(3, (.string ⟨List.toArray p1⟩))] K ?_
 obtain ⟨hb17, H⟩ := chk_elim H
 refine In.step (k' := 2) rfl K ?_
 refine Step.toBytes (S' := 9) (T := 50) (E := 5) (x := (.tmp 3)) (l := p1) (d := (some 4)) (k := 1) K rfl K K K K (max_of_chk48 hb17) hs0 ?_
 intro g18 c19 w20 hs21 _
 have hs22 : SP [] w0 w20 [rdE eU8 (some ⟨g18, 0, none⟩) c19 p1] := hs21
 clear hs21
 refine In.run' 1 (k' := 3) rfl [(5, (.agg #[(.slice (some ⟨g18, 0, none⟩) (List.length p1) c19), (.int .i64 0), (.slice none (List.length ([] : List (Int × (List UInt8) × (List UInt8) × Int × (List UInt8)))) 0)]))] K ?_
 refine In.step (k' := 4) rfl K ?_
 refine Step.box (t := 56) (x := (.tmp 5)) (v := (.agg #[(.slice (some ⟨g18, 0, none⟩) (List.length p1) c19), (.int .i64 0), (.slice none (List.length ([] : List (Int × (List UInt8) × (List UInt8) × Int × (List UInt8)))) 0)])) (d := (some 6)) (k := 3) K rfl K hs22 ?_
 intro g23 w24 (hs26 : SP [] w0 w24 [rdE eU8 (some ⟨g18, 0, none⟩) c19 p1, boxE g23 56 #[(.slice (some ⟨g18, 0, none⟩) (List.length p1) c19), (.int .i64 0), (.slice none (List.length ([] : List (Int × (List UInt8) × (List UInt8) × Int × (List UInt8)))) 0)]])
 refine In.run' 1 (k' := 5) rfl [(2, (pt g23 0))] K ?_
 refine In.fin K ?_
 refine At.ret K ?_
 have hs28 : SP [] w0 w24 [rdE eU8 (some ⟨g18, 0, none⟩) c19 p1, boxE g23 56 #[(.slice (some ⟨g18, 0, none⟩) (List.length p1) c19), (.int .i64 0), (.slice none (List.length ([] : List (Int × (List UInt8) × (List UInt8) × Int × (List UInt8)))) 0)], rowT 59 (ePair (eInt .i64) (ePair eStr (ePair eStr (ePair (eInt .i64) eStr)))) none 0 ([] : List (Int × (List UInt8) × (List UInt8) × Int × (List UInt8)))] := SP.nilrow hs26 59 (ePair (eInt .i64) (ePair eStr (ePair eStr (ePair (eInt .i64) eStr))))
 refine ⟨(pt g23 0), K, ?_⟩
 obtain rfl := some_elim H
 exact ⟨g23, (some ⟨g18, 0, none⟩), c19, none, 0, rfl, SP.sel hs28 [1,0,2] rfl rfl⟩
/-! L_slices_IndexFunc_ticket_ticket_ticket_ticket -/
def L_slices_IndexFunc_ticket_ticket_ticket_ticket_b1 (rec1 : Int → Option (Int)) (p1 : (List (Int × (List UInt8) × (List UInt8) × Int × (List UInt8)))) (p5 : (Int → (List UInt8) → (List UInt8) → Int → (List UInt8) → Option (Bool))) (v30 : Int) : Option (Int) :=
  (cond (decide (v30 < ((List.length p1 : Nat) : Int))) ((idx p1 v30).bind fun x49 => ((p5 x49.1 x49.2.1 x49.2.2.1 x49.2.2.2.1 x49.2.2.2.2).bind fun z58 => (cond z58 (some (v30)) (rec1 (IntKind.wrap .i64 (v30 + 1)))))) (some ((-1))))
def L_slices_IndexFunc_ticket_ticket_ticket_ticket_l1 (p1 : (List (Int × (List UInt8) × (List UInt8) × Int × (List UInt8)))) (p5 : (Int → (List UInt8) → (List UInt8) → Int → (List UInt8) → Option (Bool))) : Nat → Int → Option (Int)
  | 0, _ => none
  | f + 1, v30 => L_slices_IndexFunc_ticket_ticket_ticket_ticket_b1  (L_slices_IndexFunc_ticket_ticket_ticket_ticket_l1 p1 p5 f) p1 p5 v30
def L_slices_IndexFunc_ticket_ticket_ticket_ticket (p1 : (List (Int × (List UInt8) × (List UInt8) × Int × (List UInt8)))) (p5 : (Int → (List UInt8) → (List UInt8) → Int → (List UInt8) → Option (Bool))) : Option (Int) :=
  (L_slices_IndexFunc_ticket_ticket_ticket_ticket_l1 p1 p5 fuel 0)
set_option maxRecDepth 100000 in
set_option maxHeartbeats 4000000 in
theorem L_slices_IndexFunc_ticket_ticket_ticket_ticket_walk (A2 : Option Addr) (c3 : Nat) (ff6 : FuncId) (caps7 : Array Value) (p1 : (List (Int × (List UInt8) × (List UInt8) × Int × (List UInt8)))) (p5 : (Int → (List UInt8) → (List UInt8) → Int → (List UInt8) → Option (Bool))) (w0 : World) (hr4 : RdT (ePair (eInt .i64) (ePair eStr (ePair eStr (ePair (eInt .i64) eStr)))) w0 A2 c3 p1) (hcf8 : ∀ (args : Array Value) (w : World), (callFunc ff6 args).run Tryd.prog w = .ok (.enter ff6 args) w) (hf9 : ∀ (y0 : Int) (y1 : (List UInt8)) (y2 : (List UInt8)) (y3 : Int) (y4 : (List UInt8)) (z : (Bool)) (w : World), Below w0.heap.size w0 w → p5 y0 y1 y2 y3 y4 = some z → Calls Tryd.prog ff6 (([(.agg #[(.int .i64 y0), (.string ⟨List.toArray y1⟩), (.string ⟨List.toArray y2⟩), (.int .i64 y3), (.string ⟨List.toArray y4⟩)])] : List Value) ++ (caps7).toList).toArray w (fun e w' => e = .returned (.bool z) ∧ SP [] w w' [])) (r : (Int)) (H : L_slices_IndexFunc_ticket_ticket_ticket_ticket p1 p5 = some r) :
  Calls Tryd.prog 22 #[(.slice A2 (List.length p1) c3), (.func (.func ff6) #[] caps7)] w0 (fun e w' => e = .returned (.int .i64 r) ∧ SP [] w0 w' []) := by
 unfold L_slices_IndexFunc_ticket_ticket_ticket_ticket at H
 refine calls_go (n := 19) Tryd.func22 K K K ?_
 have hs0 := SP.start [] w0
 refine At.sq K ?_
 refine At.region K K ?_
 refine In.run' 1 (k' := 1) rfl [(4, (.int .i64 0))] K ?_
 refine In.fin K ?_
 refine At.sq K ?_
 refine At.sq K ?_
 refine At.region K K ?_
 refine In.run' 3 (k' := 3) rfl [(6, (.slice A2 (List.length p1) c3)), (7, (.int .i64 ((List.length p1 : Nat) : Int))), (8, (.int .i64 0))] K ?_
 refine In.fin K ?_
 refine At.bk K (id := 0) K ?_
 refine At.lp K (fun f1 ρ w => ∃ (v30 : Int), Known ρ [(0, (.slice A2 (List.length p1) c3)), (1, (.func (.func ff6) #[] caps7)), (7, (.int .i64 ((List.length p1 : Nat) : Int))), (8, (.int .i64 v30))] ∧ SP [] w0 w [] ∧ L_slices_IndexFunc_ticket_ticket_ticket_ticket_l1 p1 p5 f1 v30 = some r) (by rintro ρ w ⟨v30, hk, hs, H⟩; cases H) ?_ fuel ?_
 ·rintro f1 ρ w28 ⟨v30, hk, hs29, H⟩
  refine At.known [(0, (.slice A2 (List.length p1) c3)), (1, (.func (.func ff6) #[] caps7)), (7, (.int .i64 ((List.length p1 : Nat) : Int))), (8, (.int .i64 v30))] hk ?_
  replace H := (show L_slices_IndexFunc_ticket_ticket_ticket_ticket_b1 (L_slices_IndexFunc_ticket_ticket_ticket_ticket_l1 p1 p5 f1) p1 p5 v30 = some r from H)
  unfold L_slices_IndexFunc_ticket_ticket_ticket_ticket_b1 at H
  refine At.sq K ?_
  refine At.region K K ?_
  refine In.run' 1 (k' := 1) rfl [(9, (.bool (decide (v30 < ((List.length p1 : Nat) : Int)))))] K ?_
  refine In.fin K ?_
  refine At.sq K ?_
  refine At.cd K (o := (.tmp 9)) K (b := (decide (v30 < ((List.length p1 : Nat) : Int)))) K (fun hb48 => ?_) (fun hb48 => ?_)
  ·have H := ct H hb48
   refine At.skip K ?_
   refine At.sq K ?_
   refine At.bk K (id := 1) K ?_
   refine At.sq K ?_
   refine At.region K K ?_
   refine In.run' 2 (k' := 2) rfl [(10, (.int .i64 v30)), (5, (.int .i64 v30))] K ?_
   refine In.fin K ?_
   refine At.sq K ?_
   refine At.region K K ?_
   refine In.run' 3 (k' := 3) rfl [(11, (.func (.func ff6) #[] caps7)), (12, (.slice A2 (List.length p1) c3)), (13, (.int .i64 v30))] K ?_
   obtain ⟨x49, hp50, hq51, hx52, H⟩ := idx_elim H
   refine In.step (k' := 4) rfl K ?_
   refine Step.elem (e := (ePair (eInt .i64) (ePair eStr (ePair eStr (ePair (eInt .i64) eStr))))) (l := p1) (A := A2) (c := c3) (T := 54) (E := 59) (x := (.tmp 12)) (ix := (.tmp 13)) (ki := .i64) (iz := v30) (d := (some 14)) (k := 3) K rfl K K K K (RdT.sp hr4 hs29) hp50 hq51 ?_
   intro b53 o54 hA56 hb57 hc55
   refine In.step (k' := 5) rfl K ?_
   refine Step.cells (t := 59) (x := (.tmp 14)) (b := b53) (off := (o54 + Int.toNat v30 * (ePair (eInt .i64) (ePair eStr (ePair eStr (ePair (eInt .i64) eStr)))).sz)) (xs := [(.int .i64 x49.1), (.string ⟨List.toArray x49.2.1⟩), (.string ⟨List.toArray x49.2.2.1⟩), (.int .i64 x49.2.2.2.1), (.string ⟨List.toArray x49.2.2.2.2⟩)]) (d := (some 15)) (k := 4) K rfl K K K (elem_cells0 (e := (ePair (eInt .i64) (ePair eStr (ePair eStr (ePair (eInt .i64) eStr))))) (rdt_cells (RdT.sp hr4 hs29) hA56 hp50 hq51) hx52 rfl) ?_
   obtain ⟨z58, hz59, H⟩ := bind_elim H
   refine In.step (k' := 6) rfl K ?_
   refine Step.callF (f := ff6) (fo := (.tmp 11)) (xs := #[(.tmp 15)]) (tys := #[59]) (first := #[]) (captured := caps7) (args := (([(.agg #[(.int .i64 x49.1), (.string ⟨List.toArray x49.2.1⟩), (.string ⟨List.toArray x49.2.2.1⟩), (.int .i64 x49.2.2.2.1), (.string ⟨List.toArray x49.2.2.2.2⟩)])] : List Value) ++ (caps7).toList)) (d := (some 16)) (k := 5) K rfl K K hcf8 (hf9 x49.1 x49.2.1 x49.2.2.1 x49.2.2.2.1 x49.2.2.2.2 z58 w28 (SP.keeps hs29) hz59) ?_
   rintro e w60 ⟨rfl, hs61⟩
   refine ⟨_, rfl, ?_⟩
   have hs63 : SP [] w0 w60 [] := SP.call hs29 hs61
   clear hs61
   refine In.fin K ?_
   refine At.cd K (o := (.tmp 16)) K (b := z58) K (fun hb64 => ?_) (fun hb64 => ?_)
   ·have H := ct H hb64
    refine At.sq K ?_
    refine At.region K K ?_
    refine In.run' 2 (k' := 2) rfl [(17, (.int .i64 v30)), (4, (.int .i64 v30))] K ?_
    refine In.fin K ?_
    refine At.ret K ?_
    refine ⟨(.int .i64 v30), K, ?_⟩
    obtain rfl := some_elim H
    exact ⟨rfl, SP.sel hs63 [] rfl rfl⟩
   ·have H := cf H hb64
    refine At.skip K ?_
    refine At.region K K ?_
    refine In.run' 2 (k' := 2) rfl [(18, (.int .i64 (IntKind.wrap .i64 (v30 + 1)))), (8, (.int .i64 (IntKind.wrap .i64 (v30 + 1))))] K ?_
    refine In.fin K ?_
    exact ⟨(IntKind.wrap .i64 (v30 + 1)), ⟨K, K, K, K, trivial⟩, SP.sel hs63 [] rfl rfl, H⟩
  ·have H := cf H hb48
   refine At.exit K (id := 0) K ?_
   refine At.sq K ?_
   refine At.region K K ?_
   refine In.run' 1 (k' := 1) rfl [(4, (.int .i64 (-1)))] K ?_
   refine In.fin K ?_
   refine At.ret K ?_
   refine ⟨(.int .i64 (-1)), K, ?_⟩
   obtain rfl := some_elim H
   exact ⟨rfl, SP.sel hs29 [] rfl rfl⟩
 ·exact ⟨0, ⟨K, K, K, K, trivial⟩, SP.sel hs0 [] rfl rfl, H⟩
/-! L_ticket_Book_Redeem_1 -/
def L_ticket_Book_Redeem_1 (pPassVisitor1 : Int) (pPassName2 : (List UInt8)) (pPassTenant3 : (List UInt8)) (pPassEpoch4 : Int) (ptext5 : (List UInt8)) (c8 : (List UInt8)) : Option (Bool) :=
  (some ((ptext5 == c8)))
set_option maxRecDepth 100000 in
set_option maxHeartbeats 4000000 in
theorem L_ticket_Book_Redeem_1_walk (g6 : Nat) (pPassVisitor1 : Int) (pPassName2 : (List UInt8)) (pPassTenant3 : (List UInt8)) (pPassEpoch4 : Int) (ptext5 : (List UInt8)) (c8 : (List UInt8)) (w0 : World) (hg7 : w0.heap[g6]? = some (.cells #[(.string ⟨List.toArray c8⟩)] 9 (0, 0))) (r : (Bool)) (H : L_ticket_Book_Redeem_1 pPassVisitor1 pPassName2 pPassTenant3 pPassEpoch4 ptext5 c8 = some r) :
  Calls Tryd.prog 23 #[(.agg #[(.int .i64 pPassVisitor1), (.string ⟨List.toArray pPassName2⟩), (.string ⟨List.toArray pPassTenant3⟩), (.int .i64 pPassEpoch4), (.string ⟨List.toArray ptext5⟩)]), (pt g6 0)] w0 (fun e w' => e = .returned (.bool r) ∧ SP [] w0 w' []) := by
 unfold L_ticket_Book_Redeem_1 at H
 refine calls_go (n := 8) Tryd.func23 K K K ?_
 have hs0 := SP.start [] w0
 refine At.sq K ?_
 refine At.region K K ?_
 refine In.step (k' := 1) rfl K ?_
 refine Step.box (t := 59) (x := (.tmp 0)) (v := (.agg #[(.int .i64 pPassVisitor1), (.string ⟨List.toArray pPassName2⟩), (.string ⟨List.toArray pPassTenant3⟩), (.int .i64 pPassEpoch4), (.string ⟨List.toArray ptext5⟩)])) (d := (some 2)) (k := 0) K rfl K hs0 ?_
 intro g9 w10 (hs12 : SP [] w0 w10 [boxE g9 59 #[(.int .i64 pPassVisitor1), (.string ⟨List.toArray pPassName2⟩), (.string ⟨List.toArray pPassTenant3⟩), (.int .i64 pPassEpoch4), (.string ⟨List.toArray ptext5⟩)]])
 refine In.run' 1 (k' := 2) rfl [(3, (.bool false))] K ?_
 refine In.fin K ?_
 refine At.sq K ?_
 refine At.region K K ?_
 refine In.run' 1 (k' := 1) rfl [(4, (pt g9 4))] K ?_
 refine In.step (k' := 2) rfl K ?_
 refine Step.load (t := 9) (x := (.tmp 4)) (g := g9) (off := 4) (i := 0) (v := (.string ⟨List.toArray ptext5⟩)) (d := (some 5)) (k := 1) K rfl K hs12 rfl K ?_
 refine In.step (k' := 3) rfl K ?_
 refine Step.loadB (t := 9) (t' := 9) (x := (.tmp 1)) (g := g6) (off := 0) (cs := #[(.string ⟨List.toArray c8⟩)]) (v := (.string ⟨List.toArray c8⟩)) (d := (some 6)) (k := 2) K rfl K (blk_below hg7 (SP.keeps hs12)) K ?_
 refine In.step (k' := 4) rfl K ?_
 refine Step.strOp (op := .eql) (T := 9) (T' := 9) (x := (.tmp 5)) (y := (.tmp 6)) (a := ptext5) (b := c8) (r := (.bool (ptext5 == c8))) (d := (some 7)) (k := 3) K rfl K K rfl ?_
 refine In.run' 1 (k' := 5) rfl [(3, (.bool (ptext5 == c8)))] K ?_
 refine In.fin K ?_
 refine At.ret K ?_
 refine ⟨(.bool (ptext5 == c8)), K, ?_⟩
 obtain rfl := some_elim H
 exact ⟨rfl, SP.sel hs12 [] rfl rfl⟩
/-! L_ticket_Book_of_1 -/
def L_ticket_Book_of_1 (pPassVisitor1 : Int) (pPassName2 : (List UInt8)) (pPassTenant3 : (List UInt8)) (pPassEpoch4 : Int) (ptext5 : (List UInt8)) (c8 : Int) : Option (Bool) :=
  (some ((pPassVisitor1 == c8)))
set_option maxRecDepth 100000 in
set_option maxHeartbeats 4000000 in
theorem L_ticket_Book_of_1_walk (g6 : Nat) (pPassVisitor1 : Int) (pPassName2 : (List UInt8)) (pPassTenant3 : (List UInt8)) (pPassEpoch4 : Int) (ptext5 : (List UInt8)) (c8 : Int) (w0 : World) (hg7 : w0.heap[g6]? = some (.cells #[(.int .i64 c8)] 3 (0, 0))) (r : (Bool)) (H : L_ticket_Book_of_1 pPassVisitor1 pPassName2 pPassTenant3 pPassEpoch4 ptext5 c8 = some r) :
  Calls Tryd.prog 33 #[(.agg #[(.int .i64 pPassVisitor1), (.string ⟨List.toArray pPassName2⟩), (.string ⟨List.toArray pPassTenant3⟩), (.int .i64 pPassEpoch4), (.string ⟨List.toArray ptext5⟩)]), (pt g6 0)] w0 (fun e w' => e = .returned (.bool r) ∧ SP [] w0 w' []) := by
 unfold L_ticket_Book_of_1 at H
 refine calls_go (n := 9) Tryd.func33 K K K ?_
 have hs0 := SP.start [] w0
 refine At.sq K ?_
 refine At.region K K ?_
 refine In.step (k' := 1) rfl K ?_
 refine Step.box (t := 59) (x := (.tmp 0)) (v := (.agg #[(.int .i64 pPassVisitor1), (.string ⟨List.toArray pPassName2⟩), (.string ⟨List.toArray pPassTenant3⟩), (.int .i64 pPassEpoch4), (.string ⟨List.toArray ptext5⟩)])) (d := (some 2)) (k := 0) K rfl K hs0 ?_
 intro g9 w10 (hs12 : SP [] w0 w10 [boxE g9 59 #[(.int .i64 pPassVisitor1), (.string ⟨List.toArray pPassName2⟩), (.string ⟨List.toArray pPassTenant3⟩), (.int .i64 pPassEpoch4), (.string ⟨List.toArray ptext5⟩)]])
 refine In.run' 1 (k' := 2) rfl [(3, (.bool false))] K ?_
 refine In.fin K ?_
 refine At.sq K ?_
 refine At.region K K ?_
 refine In.run' 2 (k' := 2) rfl [(4, (pt g9 0)), (5, (pt g9 0))] K ?_
 refine In.step (k' := 3) rfl K ?_
 refine Step.load (t := 3) (x := (.tmp 5)) (g := g9) (off := 0) (i := 0) (v := (.int .i64 pPassVisitor1)) (d := (some 6)) (k := 2) K rfl K hs12 rfl K ?_
 refine In.step (k' := 4) rfl K ?_
 refine Step.loadB (t := 3) (t' := 3) (x := (.tmp 1)) (g := g6) (off := 0) (cs := #[(.int .i64 c8)]) (v := (.int .i64 c8)) (d := (some 7)) (k := 3) K rfl K (blk_below hg7 (SP.keeps hs12)) K ?_
 refine In.run' 2 (k' := 6) rfl [(8, (.bool (pPassVisitor1 == c8))), (3, (.bool (pPassVisitor1 == c8)))] K ?_
 refine In.fin K ?_
 refine At.ret K ?_
 refine ⟨(.bool (pPassVisitor1 == c8)), K, ?_⟩
 obtain rfl := some_elim H
 exact ⟨rfl, SP.sel hs12 [] rfl rfl⟩
/-! L_ticket_Book_of -/
def L_ticket_Book_of (q2 : (List UInt8)) (q5 : Int) (q6 : (List (Int × (List UInt8) × (List UInt8) × Int × (List UInt8)))) (p9 : Int) : Option (Int) :=
  ((L_slices_IndexFunc_ticket_ticket_ticket_ticket q6 (fun y0 y1 y2 y3 y4 => L_ticket_Book_of_1 y0 y1 y2 y3 y4 p9)).bind fun z28 => (some (z28)))
set_option maxRecDepth 100000 in
set_option maxHeartbeats 4000000 in
theorem L_ticket_Book_of_walk {S : List Nat} (g1 : Nat) (A3 : Option Addr) (c4 : Nat) (A7 : Option Addr) (c8 : Nat) (q2 : (List UInt8)) (q5 : Int) (q6 : (List (Int × (List UInt8) × (List UInt8) × Int × (List UInt8)))) (p9 : Int) (w0 : World) (hO : SP S w0 w0 [boxE g1 56 #[(.slice A3 (List.length q2) c4), (.int .i64 q5), (.slice A7 (List.length q6) c8)], rdE eU8 A3 c4 q2, rowT 59 (ePair (eInt .i64) (ePair eStr (ePair eStr (ePair (eInt .i64) eStr)))) A7 c8 q6])  (r : (Int)) (H : L_ticket_Book_of q2 q5 q6 p9 = some r) :
  Calls Tryd.prog 26 #[(pt g1 0), (.int .i64 p9)] w0 (fun e w' => ∃ (A20 : Option Addr) (c21 : Nat) (A22 : Option Addr) (c23 : Nat), e = .returned (.int .i64 r) ∧ SP S w0 w' [boxE g1 56 #[(.slice A20 (List.length q2) c21), (.int .i64 q5), (.slice A22 (List.length q6) c23)], rdE eU8 A20 c21 q2, rowT 59 (ePair (eInt .i64) (ePair eStr (ePair eStr (ePair (eInt .i64) eStr)))) A22 c23 q6]) := by
 unfold L_ticket_Book_of at H
 refine calls_go (n := 11) Tryd.func26 K K K ?_
 have hs0 := hO
 refine At.sq K ?_
 refine At.region K K ?_
 refine In.step (k' := 1) rfl K ?_
 refine Step.box (t := 3) (x := (.tmp 1)) (v := (.int .i64 p9)) (d := (some 3)) (k := 0) K rfl K hs0 ?_
 intro g24 w25 (hs27 : SP S w0 w25 [boxE g1 56 #[(.slice A3 (List.length q2) c4), (.int .i64 q5), (.slice A7 (List.length q6) c8)], rdE eU8 A3 c4 q2, rowT 59 (ePair (eInt .i64) (ePair eStr (ePair eStr (ePair (eInt .i64) eStr)))) A7 c8 q6, boxE g24 3 #[(.int .i64 p9)]])
 refine In.run' 1 (k' := 2) rfl [(4, (.int .i64 0))] K ?_
 refine In.fin K ?_
 refine At.sq K ?_
 refine At.region K K ?_
 refine In.run' 3 (k' := 3) rfl [(5, (pt g1 0)), (6, (pt g1 0)), (7, (pt g1 2))] K ?_
 refine In.step (k' := 4) rfl K ?_
 refine Step.load (t := 54) (x := (.tmp 7)) (g := g1) (off := 2) (i := 0) (v := (.slice A7 (List.length q6) c8)) (d := (some 8)) (k := 3) K rfl K hs27 rfl K ?_
 refine In.run' 1 (k' := 5) rfl [(9, (.func (.func 33) #[] #[(pt g24 0)]))] K ?_
 obtain ⟨z28, hz29, H⟩ := bind_elim H
 refine In.step (k' := 6) rfl K ?_
 refine Step.callF (f := 22) (fo := (.func 22)) (xs := #[(.tmp 8), (.tmp 9)]) (tys := #[54, 60]) (first := #[]) (captured := #[]) (d := (some 10)) (k := 5) K rfl K K Tryd.call22 (L_slices_IndexFunc_ticket_ticket_ticket_ticket_walk A7 c8 33 #[(pt g24 0)] q6 (fun y0 y1 y2 y3 y4 => L_ticket_Book_of_1 y0 y1 y2 y3 y4 p9) w25 (rowT_rd (SP.get hs27 (i := 2) rfl)) Tryd.call33 (fun y0 y1 y2 y3 y4 z w hw hz => L_ticket_Book_of_1_walk g24 y0 y1 y2 y3 y4 p9 w (blk_below (show w25.heap[g24]? = some (.cells #[(.int .i64 p9)] 3 (0, 0)) from SP.get hs27 (i := 3) rfl) hw) z hz) z28 hz29) ?_
 rintro e w30 ⟨rfl, hs31⟩
 refine ⟨_, rfl, ?_⟩
 have hs33 : SP S w0 w30 [boxE g1 56 #[(.slice A3 (List.length q2) c4), (.int .i64 q5), (.slice A7 (List.length q6) c8)], rdE eU8 A3 c4 q2, rowT 59 (ePair (eInt .i64) (ePair eStr (ePair eStr (ePair (eInt .i64) eStr)))) A7 c8 q6, boxE g24 3 #[(.int .i64 p9)]] := SP.call hs27 hs31
 clear hs31
 refine In.run' 1 (k' := 7) rfl [(4, (.int .i64 z28))] K ?_
 refine In.fin K ?_
 refine At.ret K ?_
 refine ⟨(.int .i64 z28), K, ?_⟩
 obtain rfl := some_elim H
 exact ⟨A3, c4, A7, c8, rfl, SP.sel hs33 [0,1,2] rfl rfl⟩
/-! L_ticket_Book_Many -/
def L_ticket_Book_Many (q2 : (List UInt8)) (q5 : Int) (q6 : (List (Int × (List UInt8) × (List UInt8) × Int × (List UInt8)))) : Option (Int) :=
  (some (((List.length q6 : Nat) : Int)))
set_option maxRecDepth 100000 in
set_option maxHeartbeats 4000000 in
theorem L_ticket_Book_Many_walk {S : List Nat} (g1 : Nat) (A3 : Option Addr) (c4 : Nat) (A7 : Option Addr) (c8 : Nat) (q2 : (List UInt8)) (q5 : Int) (q6 : (List (Int × (List UInt8) × (List UInt8) × Int × (List UInt8)))) (w0 : World) (hO : SP S w0 w0 [boxE g1 56 #[(.slice A3 (List.length q2) c4), (.int .i64 q5), (.slice A7 (List.length q6) c8)], rdE eU8 A3 c4 q2, rowT 59 (ePair (eInt .i64) (ePair eStr (ePair eStr (ePair (eInt .i64) eStr)))) A7 c8 q6])  (r : (Int)) (H : L_ticket_Book_Many q2 q5 q6 = some r) :
  Calls Tryd.prog 20 #[(pt g1 0)] w0 (fun e w' => ∃ (A9 : Option Addr) (c10 : Nat) (A11 : Option Addr) (c12 : Nat), e = .returned (.int .i64 r) ∧ SP S w0 w' [boxE g1 56 #[(.slice A9 (List.length q2) c10), (.int .i64 q5), (.slice A11 (List.length q6) c12)], rdE eU8 A9 c10 q2, rowT 59 (ePair (eInt .i64) (ePair eStr (ePair eStr (ePair (eInt .i64) eStr)))) A11 c12 q6]) := by
 unfold L_ticket_Book_Many at H
 refine calls_go (n := 8) Tryd.func20 K K K ?_
 have hs0 := hO
 refine At.sq K ?_
 refine At.region K K ?_
 refine In.run' 1 (k' := 1) rfl [(2, (.int .i64 0))] K ?_
 refine In.fin K ?_
 refine At.sq K ?_
 refine At.region K K ?_
 refine In.run' 3 (k' := 3) rfl [(3, (pt g1 0)), (4, (pt g1 0)), (5, (pt g1 2))] K ?_
 refine In.step (k' := 4) rfl K ?_
 refine Step.load (t := 54) (x := (.tmp 5)) (g := g1) (off := 2) (i := 0) (v := (.slice A7 (List.length q6) c8)) (d := (some 6)) (k := 3) K rfl K hs0 rfl K ?_
 refine In.run' 2 (k' := 6) rfl [(7, (.int .i64 ((List.length q6 : Nat) : Int))), (2, (.int .i64 ((List.length q6 : Nat) : Int)))] K ?_
 refine In.fin K ?_
 refine At.ret K ?_
 refine ⟨(.int .i64 ((List.length q6 : Nat) : Int)), K, ?_⟩
 obtain rfl := some_elim H
 exact ⟨A3, c4, A7, c8, rfl, SP.sel hs0 [0,1,2] rfl rfl⟩
/-! L_subwayref15_New -/
def L_subwayref15_New (p1 : (List UInt8)) : Option ((List UInt8) × Int × (List ((List UInt8) × Int × (List UInt8) × (List UInt8) × Int))) :=
  (some (p1, 0, ([] : List ((List UInt8) × Int × (List UInt8) × (List UInt8) × Int))))
set_option maxRecDepth 100000 in
set_option maxHeartbeats 4000000 in
theorem L_subwayref15_New_walk  (p1 : (List UInt8)) (w0 : World)  (r : ((List UInt8) × Int × (List ((List UInt8) × Int × (List UInt8) × (List UInt8) × Int)))) (H : L_subwayref15_New p1 = some r) :
  Calls Tryd.prog 11 #[(.string ⟨List.toArray p1⟩)] w0 (fun e w' => ∃ (g6 : Nat) (A7 : Option Addr) (c8 : Nat), e = .returned (pt g6 0) ∧ SP [] w0 w' [boxE g6 44 #[(.string ⟨List.toArray r.1⟩), (.int .i64 r.2.1), (.slice A7 (List.length r.2.2) c8)], rowT 63 (ePair eStr (ePair (eInt .i64) (ePair eStr (ePair eStr (eInt .i64))))) A7 c8 r.2.2]) := by
 unfold L_subwayref15_New at H
 refine calls_go (n := 6) Tryd.func11 K K K ?_
 have hs0 := SP.start [] w0
 refine At.sq K ?_
 refine At.region K K ?_
 refine In.run' 1 (k' := 1) rfl [(2, (.pointer none))] K ?_
 refine In.fin K ?_
 refine At.sq K ?_
 refine At.region K K ?_
 refine In.run' 2 (k' := 2) rfl [(3, (.string ⟨List.toArray p1⟩)), (4, (.agg #[(.string ⟨List.toArray p1⟩), (.int .i64 0), (.slice none (List.length ([] : List ((List UInt8) × Int × (List UInt8) × (List UInt8) × Int))) 0)]))] K ?_
 refine In.step (k' := 3) rfl K ?_
 refine Step.box (t := 44) (x := (.tmp 4)) (v := (.agg #[(.string ⟨List.toArray p1⟩), (.int .i64 0), (.slice none (List.length ([] : List ((List UInt8) × Int × (List UInt8) × (List UInt8) × Int))) 0)])) (d := (some 5)) (k := 2) K rfl K hs0 ?_
 intro g9 w10 (hs12 : SP [] w0 w10 [boxE g9 44 #[(.string ⟨List.toArray p1⟩), (.int .i64 0), (.slice none (List.length ([] : List ((List UInt8) × Int × (List UInt8) × (List UInt8) × Int))) 0)]])
 refine In.run' 1 (k' := 4) rfl [(2, (pt g9 0))] K ?_
 refine In.fin K ?_
 refine At.ret K ?_
 have hs14 : SP [] w0 w10 [boxE g9 44 #[(.string ⟨List.toArray p1⟩), (.int .i64 0), (.slice none (List.length ([] : List ((List UInt8) × Int × (List UInt8) × (List UInt8) × Int))) 0)], rowT 63 (ePair eStr (ePair (eInt .i64) (ePair eStr (ePair eStr (eInt .i64))))) none 0 ([] : List ((List UInt8) × Int × (List UInt8) × (List UInt8) × Int))] := SP.nilrow hs12 63 (ePair eStr (ePair (eInt .i64) (ePair eStr (ePair eStr (eInt .i64)))))
 refine ⟨(pt g9 0), K, ?_⟩
 obtain rfl := some_elim H
 exact ⟨g9, none, 0, rfl, SP.sel hs14 [0,1] rfl rfl⟩
/-! L_subwayref15_Book_drop -/
def L_subwayref15_Book_drop (q2 : (List UInt8)) (q3 : Int) (q4 : (List ((List UInt8) × Int × (List UInt8) × (List UInt8) × Int))) (p7 : Int) : Option ((List UInt8) × Int × (List ((List UInt8) × Int × (List UInt8) × (List UInt8) × Int))) :=
  ((sub q4 0 p7).bind fun l156 => ((app ([] : List ((List UInt8) × Int × (List UInt8) × (List UInt8) × Int)) l156).bind fun l158 => ((sub q4 (IntKind.wrap .i64 (p7 + 1)) ((List.length q4 : Nat) : Int)).bind fun l167 => ((app l158 l167).bind fun l169 => (some (q2, q3, l169))))))
set_option maxRecDepth 100000 in
set_option maxHeartbeats 4000000 in
theorem L_subwayref15_Book_drop_walk {S : List Nat} (g1 : Nat) (A5 : Option Addr) (c6 : Nat) (q2 : (List UInt8)) (q3 : Int) (q4 : (List ((List UInt8) × Int × (List UInt8) × (List UInt8) × Int))) (p7 : Int) (w0 : World) (hO : SP S w0 w0 [boxE g1 44 #[(.string ⟨List.toArray q2⟩), (.int .i64 q3), (.slice A5 (List.length q4) c6)], rowT 63 (ePair eStr (ePair (eInt .i64) (ePair eStr (ePair eStr (eInt .i64))))) A5 c6 q4])  (r : ((List UInt8) × Int × (List ((List UInt8) × Int × (List UInt8) × (List UInt8) × Int)))) (H : L_subwayref15_Book_drop q2 q3 q4 p7 = some r) :
  Calls Tryd.prog 25 #[(pt g1 0), (.int .i64 p7)] w0 (fun e w' => ∃ (A147 : Option Addr) (c148 : Nat), e = .returned (.tuple #[]) ∧ SP S w0 w' [boxE g1 44 #[(.string ⟨List.toArray r.1⟩), (.int .i64 r.2.1), (.slice A147 (List.length r.2.2) c148)], rowT 63 (ePair eStr (ePair (eInt .i64) (ePair eStr (ePair eStr (eInt .i64))))) A147 c148 r.2.2]) := by
 unfold L_subwayref15_Book_drop at H
 refine calls_go (n := 23) Tryd.func25 K K K ?_
 have hs0 := hO
 obtain ⟨hz153, hz154, hz155, H⟩ := sub_elim H
 obtain ⟨l156, hyl156⟩ : ∃ y, (List.drop (Int.toNat 0) (List.take (Int.toNat p7) q4)) = y := ⟨_, rfl⟩
 rw [hyl156] at H
 obtain ⟨hl157, H⟩ := app_elim H
 obtain ⟨l158, hyl158⟩ : ∃ y, ([] : List ((List UInt8) × Int × (List UInt8) × (List UInt8) × Int)) ++ l156 = y := ⟨_, rfl⟩
 rw [hyl158] at H
 obtain ⟨hz164, hz165, hz166, H⟩ := sub_elim H
 obtain ⟨l167, hyl167⟩ : ∃ y, (List.drop (Int.toNat (IntKind.wrap .i64 (p7 + 1))) (List.take (Int.toNat ((List.length q4 : Nat) : Int)) q4)) = y := ⟨_, rfl⟩
 rw [hyl167] at H
 obtain ⟨hl168, H⟩ := app_elim H
 obtain ⟨l169, hyl169⟩ : ∃ y, l158 ++ l167 = y := ⟨_, rfl⟩
 rw [hyl169] at H
 refine At.stages K K K K K [GEq (pt g1 0), GAny, GEq (pt g1 0), GEq (pt g1 0), GEq (pt g1 2), GEq (.slice A5 (List.length q4) c6), GEq (.int .i64 p7), GEq (.slice (cutA (ePair eStr (ePair (eInt .i64) (ePair eStr (ePair eStr (eInt .i64))))).sz c6 (Int.toNat 0) A5) (List.length l156) (c6 - Int.toNat 0)), GAny, GEq (pt g1 0), GEq (pt g1 0), GEq (pt g1 2), GEq (.slice A5 (List.length q4) c6), GEq (.int .i64 p7), GEq (.int .i64 (IntKind.wrap .i64 (p7 + 1))), GEq (.slice (cutA (ePair eStr (ePair (eInt .i64) (ePair eStr (ePair eStr (eInt .i64))))).sz c6 (Int.toNat (IntKind.wrap .i64 (p7 + 1))) A5) (List.length l167) (c6 - Int.toNat (IntKind.wrap .i64 (p7 + 1)))), GAny, GEq (pt g1 0), GEq (pt g1 2), GAny] [1, 8, 16, 19] [([], fun vs w => VL vs [] ∧ SP S w0 w [boxE g1 44 #[(.string ⟨List.toArray q2⟩), (.int .i64 q3), (.slice A5 (List.length q4) c6)], rowT 63 (ePair eStr (ePair (eInt .i64) (ePair eStr (ePair eStr (eInt .i64))))) A5 c6 q4]), ([1], fun vs w => ∃ (g178 : Nat), VL vs [(.slice (some ⟨g178, 0, none⟩) (List.length ([] : List ((List UInt8) × Int × (List UInt8) × (List UInt8) × Int))) (List.length ([] : List ((List UInt8) × Int × (List UInt8) × (List UInt8) × Int))))] ∧ SP S w0 w [boxE g1 44 #[(.string ⟨List.toArray q2⟩), (.int .i64 q3), (.slice A5 (List.length q4) c6)], rowT 63 (ePair eStr (ePair (eInt .i64) (ePair eStr (ePair eStr (eInt .i64))))) A5 c6 q4, rowT 63 (ePair eStr (ePair (eInt .i64) (ePair eStr (ePair eStr (eInt .i64))))) (some ⟨g178, 0, none⟩) (List.length ([] : List ((List UInt8) × Int × (List UInt8) × (List UInt8) × Int))) ([] : List ((List UInt8) × Int × (List UInt8) × (List UInt8) × Int))]), ([1, 8], fun vs w => ∃ (g182 : Nat), ∃ (A186 : Option Addr), ∃ (c187 : Nat), VL vs [(.slice (some ⟨g182, 0, none⟩) (List.length ([] : List ((List UInt8) × Int × (List UInt8) × (List UInt8) × Int))) (List.length ([] : List ((List UInt8) × Int × (List UInt8) × (List UInt8) × Int)))), (.slice A186 (List.length l158) c187)] ∧ SP S w0 w [boxE g1 44 #[(.string ⟨List.toArray q2⟩), (.int .i64 q3), (.slice A5 (List.length q4) c6)], rowT 63 (ePair eStr (ePair (eInt .i64) (ePair eStr (ePair eStr (eInt .i64))))) A5 c6 q4, rowT 63 (ePair eStr (ePair (eInt .i64) (ePair eStr (ePair eStr (eInt .i64))))) A186 c187 l158]), ([1, 8, 16], fun vs w => ∃ (g191 : Nat), ∃ (A195 : Option Addr), ∃ (c196 : Nat), ∃ (A200 : Option Addr), ∃ (c201 : Nat), VL vs [(.slice (some ⟨g191, 0, none⟩) (List.length ([] : List ((List UInt8) × Int × (List UInt8) × (List UInt8) × Int))) (List.length ([] : List ((List UInt8) × Int × (List UInt8) × (List UInt8) × Int)))), (.slice A195 (List.length l158) c196), (.slice A200 (List.length l169) c201)] ∧ SP S w0 w [boxE g1 44 #[(.string ⟨List.toArray q2⟩), (.int .i64 q3), (.slice A5 (List.length q4) c6)], rowT 63 (ePair eStr (ePair (eInt .i64) (ePair eStr (ePair eStr (eInt .i64))))) A5 c6 q4, rowT 63 (ePair eStr (ePair (eInt .i64) (ePair eStr (ePair eStr (eInt .i64))))) A200 c201 l169]), ([1, 8, 16, 19], fun vs w => ∃ (g205 : Nat), ∃ (A209 : Option Addr), ∃ (c210 : Nat), ∃ (A214 : Option Addr), ∃ (c215 : Nat), VL vs [(.slice (some ⟨g205, 0, none⟩) (List.length ([] : List ((List UInt8) × Int × (List UInt8) × (List UInt8) × Int))) (List.length ([] : List ((List UInt8) × Int × (List UInt8) × (List UInt8) × Int)))), (.slice A209 (List.length l158) c210), (.slice A214 (List.length l169) c215), undef] ∧ SP S w0 w [boxE g1 44 #[(.string ⟨List.toArray q2⟩), (.int .i64 q3), (.slice A214 (List.length l169) c215)], rowT 63 (ePair eStr (ePair (eInt .i64) (ePair eStr (ePair eStr (eInt .i64))))) A5 c6 q4, rowT 63 (ePair eStr (ePair (eInt .i64) (ePair eStr (ePair eStr (eInt .i64))))) A214 c215 l169])] (N := 20) K ⟨K, Nat.zero_lt_succ _⟩ (show VL [] [] ∧ SP S w0 w0.drew [boxE g1 44 #[(.string ⟨List.toArray q2⟩), (.int .i64 q3), (.slice A5 (List.length q4) c6)], rowT 63 (ePair eStr (ePair (eInt .i64) (ePair eStr (ePair eStr (eInt .i64))))) A5 c6 q4] from ⟨trivial, SP.drew hs0⟩) ⟨⟨⟨⟨⟨⟨⟨⟨⟨⟨⟨⟨⟨⟨⟨⟨⟨⟨⟨⟨trivial, ?_⟩, ?_⟩, ?_⟩, ?_⟩, ?_⟩, ?_⟩, ?_⟩, ?_⟩, ?_⟩, ?_⟩, ?_⟩, ?_⟩, ?_⟩, ?_⟩, ?_⟩, ?_⟩, ?_⟩, ?_⟩, ?_⟩, ?_⟩ (last := 4) K ?_
 ·exact Owe.run K [(0, (pt g1 0))] ⟨gS K K, trivial⟩ (pt g1 0) (fun _ _ => K) rfl
 ·refine Owe.heavy K [(0, 1)] K (all_cons ⟨K, K, ?_⟩ all_nil)
  ·rintro ρ' w' hs hah ⟨hvl223, hs222⟩
   have hkn : Known ρ' [] := trivial
   refine Step.known _ hkn ?_
   refine Step.newSlice (e := (ePair eStr (ePair (eInt .i64) (ePair eStr (ePair eStr (eInt .i64)))))) (T := 42) (E := 63) (len := 0) (parts := #[]) (cs := #[]) ([] : List ((List UInt8) × Int × (List UInt8) × (List UInt8) × Int)) (d := (some 5)) (k := 1) K rfl (fun _ => K) hs222 rfl rfl rfl rfl ?_
   intro g224 w225 (hs227 : SP S w0 w225 [boxE g1 44 #[(.string ⟨List.toArray q2⟩), (.int .i64 q3), (.slice A5 (List.length q4) c6)], rowT 63 (ePair eStr (ePair (eInt .i64) (ePair eStr (ePair eStr (eInt .i64))))) A5 c6 q4, rowT 63 (ePair eStr (ePair (eInt .i64) (ePair eStr (ePair eStr (eInt .i64))))) (some ⟨g224, 0, none⟩) (List.length ([] : List ((List UInt8) × Int × (List UInt8) × (List UInt8) × Int))) ([] : List ((List UInt8) × Int × (List UInt8) × (List UInt8) × Int))])
   refine ⟨_, updO_known hkn, trivial, ?_⟩
   exact (Exists.intro g224 (And.intro (And.intro rfl (trivial)) (hs227)))
 ·exact Owe.run K [(0, (pt g1 0))] ⟨gS K K, trivial⟩ (pt g1 0) (fun _ _ => K) rfl
 ·exact Owe.run K [(6, (pt g1 0))] ⟨gA 2 K K, trivial⟩ (pt g1 0) (fun _ _ => K) rfl
 ·exact Owe.run K [(7, (pt g1 0))] ⟨gA 3 K K, trivial⟩ (pt g1 2) (fun _ _ => K) rfl
 ·refine Owe.light K [0, 1] K (all_cons ?_ (all_cons ?_ all_nil))
  ·rintro ρ' w' hs hah ⟨hvl229, hs228⟩
   have hkn : Known ρ' [(8, (pt g1 2))] := ⟨hah 4 8 K, trivial⟩
   refine Step.known _ hkn ?_
   refine Step.load (t := 42) (x := (.tmp 8)) (g := g1) (off := 2) (i := 0) (v := (.slice A5 (List.length q4) c6)) (d := (some 9)) (k := 5) K rfl K hs228 rfl K ?_
   exact ⟨rfl, _, updO_known hkn, rfl⟩
  ·rintro ρ' w' hs hah ⟨g178, ⟨q231, -⟩, hs230⟩
   have hkn : Known ρ' [(8, (pt g1 2))] := ⟨hah 4 8 K, trivial⟩
   refine Step.known _ hkn ?_
   refine Step.load (t := 42) (x := (.tmp 8)) (g := g1) (off := 2) (i := 0) (v := (.slice A5 (List.length q4) c6)) (d := (some 9)) (k := 5) K rfl K hs230 rfl K ?_
   exact ⟨rfl, _, updO_known hkn, rfl⟩
 ·exact Owe.run K [(1, (.int .i64 p7))] ⟨gS K K, trivial⟩ (.int .i64 p7) (fun _ _ => K) rfl
 ·refine Owe.light K [0, 1] K (all_cons ?_ (all_cons ?_ all_nil))
  ·rintro ρ' w' hs hah ⟨hvl234, hs233⟩
   have hkn : Known ρ' [(9, (.slice A5 (List.length q4) c6)), (10, (.int .i64 p7))] := ⟨hah 5 9 K, hah 6 10 K, trivial⟩
   refine Step.known _ hkn ?_
   refine Step.slice2 (e := (ePair eStr (ePair (eInt .i64) (ePair eStr (ePair eStr (eInt .i64)))))) (l := q4) (m := l156) (A := A5) (c := c6) (T := 42) (E := 63) (x := (.tmp 9)) (lo := none) (hi := (some (.tmp 10))) (i := 0) (j := p7) (d := (some 11)) (k := 7) K rfl K K K rfl ⟨.i64, K⟩ (RdX.le (rowT_rd (SP.get hs233 (i := 1) rfl))) hz153 hz154 hz155 hyl156 ?_
   exact ⟨rfl, _, updO_known hkn, rfl⟩
  ·rintro ρ' w' hs hah ⟨g178, ⟨q236, -⟩, hs235⟩
   have hkn : Known ρ' [(9, (.slice A5 (List.length q4) c6)), (10, (.int .i64 p7))] := ⟨hah 5 9 K, hah 6 10 K, trivial⟩
   refine Step.known _ hkn ?_
   refine Step.slice2 (e := (ePair eStr (ePair (eInt .i64) (ePair eStr (ePair eStr (eInt .i64)))))) (l := q4) (m := l156) (A := A5) (c := c6) (T := 42) (E := 63) (x := (.tmp 9)) (lo := none) (hi := (some (.tmp 10))) (i := 0) (j := p7) (d := (some 11)) (k := 7) K rfl K K K rfl ⟨.i64, K⟩ (RdX.le (rowT_rd (SP.get hs235 (i := 1) rfl))) hz153 hz154 hz155 hyl156 ?_
   exact ⟨rfl, _, updO_known hkn, rfl⟩
 ·refine Owe.heavy K [(1, 2)] K (all_cons ⟨K, K, ?_⟩ all_nil)
  ·rintro ρ' w' hs hah ⟨g178, ⟨q239, -⟩, hs238⟩
   have hkn : Known ρ' [(5, (.slice (some ⟨g178, 0, none⟩) (List.length ([] : List ((List UInt8) × Int × (List UInt8) × (List UInt8) × Int))) (List.length ([] : List ((List UInt8) × Int × (List UInt8) × (List UInt8) × Int))))), (11, (.slice (cutA (ePair eStr (ePair (eInt .i64) (ePair eStr (ePair eStr (eInt .i64))))).sz c6 (Int.toNat 0) A5) (List.length l156) (c6 - Int.toNat 0)))] := ⟨(valF_eq (h := 1) K).symm.trans q239, hah 7 11 K, trivial⟩
   refine Step.known _ hkn ?_
   refine Step.append (e := (ePair eStr (ePair (eInt .i64) (ePair eStr (ePair eStr (eInt .i64)))))) (l := ([] : List ((List UInt8) × Int × (List UInt8) × (List UInt8) × Int))) (m := l156) (A := (some ⟨g178, 0, none⟩)) (c := (List.length ([] : List ((List UInt8) × Int × (List UInt8) × (List UInt8) × Int)))) (T := 42) (TX := 42) (E := 63) (b := 64) (s := (.tmp 5)) (x := (.tmp 11)) (i := 2) (vx := (.slice (cutA (ePair eStr (ePair (eInt .i64) (ePair eStr (ePair eStr (eInt .i64))))).sz c6 (Int.toNat 0) A5) (List.length l156) (c6 - Int.toNat 0))) (d := (some 12)) (k := 8) K rfl K K K K rfl hs238 rfl (src_rdt (E := 63) K ((cut_rd hz153 hz154 hz155 hyl156) w' (rowT_rd (SP.get hs238 (i := 1) rfl)))) hl157 ?_
   rw [hyl158]
   intro A241 c242 w243 (hs245 : SP S w0 w243 [boxE g1 44 #[(.string ⟨List.toArray q2⟩), (.int .i64 q3), (.slice A5 (List.length q4) c6)], rowT 63 (ePair eStr (ePair (eInt .i64) (ePair eStr (ePair eStr (eInt .i64))))) A5 c6 q4, rowT 63 (ePair eStr (ePair (eInt .i64) (ePair eStr (ePair eStr (eInt .i64))))) A241 c242 l158])
   refine ⟨_, updO_known hkn, trivial, ?_⟩
   exact (Exists.intro g178 (Exists.intro A241 (Exists.intro c242 (And.intro (And.intro q239 (And.intro rfl (trivial))) (hs245)))))
 ·exact Owe.run K [(0, (pt g1 0))] ⟨gS K K, trivial⟩ (pt g1 0) (fun _ _ => K) rfl
 ·exact Owe.run K [(13, (pt g1 0))] ⟨gA 9 K K, trivial⟩ (pt g1 0) (fun _ _ => K) rfl
 ·exact Owe.run K [(14, (pt g1 0))] ⟨gA 10 K K, trivial⟩ (pt g1 2) (fun _ _ => K) rfl
 ·refine Owe.light K [0, 1, 2] K (all_cons ?_ (all_cons ?_ (all_cons ?_ all_nil)))
  ·rintro ρ' w' hs hah ⟨hvl247, hs246⟩
   have hkn : Known ρ' [(15, (pt g1 2))] := ⟨hah 11 15 K, trivial⟩
   refine Step.known _ hkn ?_
   refine Step.load (t := 42) (x := (.tmp 15)) (g := g1) (off := 2) (i := 0) (v := (.slice A5 (List.length q4) c6)) (d := (some 16)) (k := 12) K rfl K hs246 rfl K ?_
   exact ⟨rfl, _, updO_known hkn, rfl⟩
  ·rintro ρ' w' hs hah ⟨g178, ⟨q249, -⟩, hs248⟩
   have hkn : Known ρ' [(15, (pt g1 2))] := ⟨hah 11 15 K, trivial⟩
   refine Step.known _ hkn ?_
   refine Step.load (t := 42) (x := (.tmp 15)) (g := g1) (off := 2) (i := 0) (v := (.slice A5 (List.length q4) c6)) (d := (some 16)) (k := 12) K rfl K hs248 rfl K ?_
   exact ⟨rfl, _, updO_known hkn, rfl⟩
  ·rintro ρ' w' hs hah ⟨g182, A186, c187, ⟨q252, q253, -⟩, hs251⟩
   have hkn : Known ρ' [(15, (pt g1 2))] := ⟨hah 11 15 K, trivial⟩
   refine Step.known _ hkn ?_
   refine Step.load (t := 42) (x := (.tmp 15)) (g := g1) (off := 2) (i := 0) (v := (.slice A5 (List.length q4) c6)) (d := (some 16)) (k := 12) K rfl K hs251 rfl K ?_
   exact ⟨rfl, _, updO_known hkn, rfl⟩
 ·exact Owe.run K [(1, (.int .i64 p7))] ⟨gS K K, trivial⟩ (.int .i64 p7) (fun _ _ => K) rfl
 ·exact Owe.run K [(17, (.int .i64 p7))] ⟨gA 13 K K, trivial⟩ (.int .i64 (IntKind.wrap .i64 (p7 + 1))) (fun _ _ => K) rfl
 ·refine Owe.light K [0, 1, 2] K (all_cons ?_ (all_cons ?_ (all_cons ?_ all_nil)))
  ·rintro ρ' w' hs hah ⟨hvl256, hs255⟩
   have hkn : Known ρ' [(16, (.slice A5 (List.length q4) c6)), (18, (.int .i64 (IntKind.wrap .i64 (p7 + 1))))] := ⟨hah 12 16 K, hah 14 18 K, trivial⟩
   refine Step.known _ hkn ?_
   refine Step.slice2 (e := (ePair eStr (ePair (eInt .i64) (ePair eStr (ePair eStr (eInt .i64)))))) (l := q4) (m := l167) (A := A5) (c := c6) (T := 42) (E := 63) (x := (.tmp 16)) (lo := (some (.tmp 18))) (hi := none) (i := (IntKind.wrap .i64 (p7 + 1))) (j := ((List.length q4 : Nat) : Int)) (d := (some 19)) (k := 15) K rfl K K K ⟨.i64, K⟩ rfl (RdX.le (rowT_rd (SP.get hs255 (i := 1) rfl))) hz164 hz165 hz166 hyl167 ?_
   exact ⟨rfl, _, updO_known hkn, rfl⟩
  ·rintro ρ' w' hs hah ⟨g178, ⟨q258, -⟩, hs257⟩
   have hkn : Known ρ' [(16, (.slice A5 (List.length q4) c6)), (18, (.int .i64 (IntKind.wrap .i64 (p7 + 1))))] := ⟨hah 12 16 K, hah 14 18 K, trivial⟩
   refine Step.known _ hkn ?_
   refine Step.slice2 (e := (ePair eStr (ePair (eInt .i64) (ePair eStr (ePair eStr (eInt .i64)))))) (l := q4) (m := l167) (A := A5) (c := c6) (T := 42) (E := 63) (x := (.tmp 16)) (lo := (some (.tmp 18))) (hi := none) (i := (IntKind.wrap .i64 (p7 + 1))) (j := ((List.length q4 : Nat) : Int)) (d := (some 19)) (k := 15) K rfl K K K ⟨.i64, K⟩ rfl (RdX.le (rowT_rd (SP.get hs257 (i := 1) rfl))) hz164 hz165 hz166 hyl167 ?_
   exact ⟨rfl, _, updO_known hkn, rfl⟩
  ·rintro ρ' w' hs hah ⟨g182, A186, c187, ⟨q261, q262, -⟩, hs260⟩
   have hkn : Known ρ' [(16, (.slice A5 (List.length q4) c6)), (18, (.int .i64 (IntKind.wrap .i64 (p7 + 1))))] := ⟨hah 12 16 K, hah 14 18 K, trivial⟩
   refine Step.known _ hkn ?_
   refine Step.slice2 (e := (ePair eStr (ePair (eInt .i64) (ePair eStr (ePair eStr (eInt .i64)))))) (l := q4) (m := l167) (A := A5) (c := c6) (T := 42) (E := 63) (x := (.tmp 16)) (lo := (some (.tmp 18))) (hi := none) (i := (IntKind.wrap .i64 (p7 + 1))) (j := ((List.length q4 : Nat) : Int)) (d := (some 19)) (k := 15) K rfl K K K ⟨.i64, K⟩ rfl (RdX.le (rowT_rd (SP.get hs260 (i := 1) rfl))) hz164 hz165 hz166 hyl167 ?_
   exact ⟨rfl, _, updO_known hkn, rfl⟩
 ·refine Owe.heavy K [(2, 3)] K (all_cons ⟨K, K, ?_⟩ all_nil)
  ·rintro ρ' w' hs hah ⟨g182, A186, c187, ⟨q265, q266, -⟩, hs264⟩
   have hkn : Known ρ' [(12, (.slice A186 (List.length l158) c187)), (19, (.slice (cutA (ePair eStr (ePair (eInt .i64) (ePair eStr (ePair eStr (eInt .i64))))).sz c6 (Int.toNat (IntKind.wrap .i64 (p7 + 1))) A5) (List.length l167) (c6 - Int.toNat (IntKind.wrap .i64 (p7 + 1)))))] := ⟨(valF_eq (h := 8) K).symm.trans q266, hah 15 19 K, trivial⟩
   refine Step.known _ hkn ?_
   refine Step.append (e := (ePair eStr (ePair (eInt .i64) (ePair eStr (ePair eStr (eInt .i64)))))) (l := l158) (m := l167) (A := A186) (c := c187) (T := 42) (TX := 42) (E := 63) (b := 64) (s := (.tmp 12)) (x := (.tmp 19)) (i := 2) (vx := (.slice (cutA (ePair eStr (ePair (eInt .i64) (ePair eStr (ePair eStr (eInt .i64))))).sz c6 (Int.toNat (IntKind.wrap .i64 (p7 + 1))) A5) (List.length l167) (c6 - Int.toNat (IntKind.wrap .i64 (p7 + 1))))) (d := (some 20)) (k := 16) K rfl K K K K rfl hs264 rfl (src_rdt (E := 63) K ((cut_rd hz164 hz165 hz166 hyl167) w' (rowT_rd (SP.get hs264 (i := 1) rfl)))) hl168 ?_
   rw [hyl169]
   intro A268 c269 w270 (hs272 : SP S w0 w270 [boxE g1 44 #[(.string ⟨List.toArray q2⟩), (.int .i64 q3), (.slice A5 (List.length q4) c6)], rowT 63 (ePair eStr (ePair (eInt .i64) (ePair eStr (ePair eStr (eInt .i64))))) A5 c6 q4, rowT 63 (ePair eStr (ePair (eInt .i64) (ePair eStr (ePair eStr (eInt .i64))))) A268 c269 l169])
   refine ⟨_, updO_known hkn, trivial, ?_⟩
   exact (Exists.intro g182 (Exists.intro A186 (Exists.intro c187 (Exists.intro A268 (Exists.intro c269 (And.intro (And.intro q265 (And.intro q266 (And.intro rfl (trivial)))) (hs272)))))))
 ·exact Owe.run K [(4, (pt g1 0))] ⟨gA 0 K K, trivial⟩ (pt g1 0) (fun _ _ => K) rfl
 ·exact Owe.run K [(21, (pt g1 0))] ⟨gA 17 K K, trivial⟩ (pt g1 2) (fun _ _ => K) rfl
 ·refine Owe.heavy K [(3, 4)] K (all_cons ⟨K, K, ?_⟩ all_nil)
  ·rintro ρ' w' hs hah ⟨g191, A195, c196, A200, c201, ⟨q274, q275, q276, -⟩, hs273⟩
   have hkn : Known ρ' [(22, (pt g1 2)), (20, (.slice A200 (List.length l169) c201))] := ⟨hah 18 22 K, (valF_eq (h := 16) K).symm.trans q276, trivial⟩
   refine Step.known _ hkn ?_
   refine Step.store (t := 42) (x := (.tmp 22)) (y := (.tmp 20)) (g := g1) (off := 2) (i := 0) (v := (.slice A200 (List.length l169) c201)) (cs' := #[(.string ⟨List.toArray q2⟩), (.int .i64 q3), (.slice A200 (List.length l169) c201)]) (d := none) (k := 19) K rfl K K hs273 rfl K ?_
   intro w278 (hs280 : SP S w0 w278 [boxE g1 44 #[(.string ⟨List.toArray q2⟩), (.int .i64 q3), (.slice A200 (List.length l169) c201)], rowT 63 (ePair eStr (ePair (eInt .i64) (ePair eStr (ePair eStr (eInt .i64))))) A5 c6 q4, rowT 63 (ePair eStr (ePair (eInt .i64) (ePair eStr (ePair eStr (eInt .i64))))) A200 c201 l169])
   refine ⟨_, updO_known hkn, trivial, ?_⟩
   exact (Exists.intro g191 (Exists.intro A195 (Exists.intro c196 (Exists.intro A200 (Exists.intro c201 (And.intro (And.intro q274 (And.intro q275 (And.intro q276 (And.intro rfl (trivial))))) (hs280)))))))
 ·rintro ρ' w' hs hf ⟨g205, A209, c210, A214, c215, ⟨q282, q283, q284, q285, -⟩, hs281⟩
  refine postKnown [] trivial ?_
  obtain ⟨w287, hww287⟩ : ∃ x, w' = x := ⟨_, rfl⟩
  rw [hww287] at hs281 ⊢
  refine ⟨(.tuple #[]), K, ?_⟩
  obtain rfl := some_elim H
  exact ⟨A214, c215, rfl, SP.sel hs281 [0,2] rfl rfl⟩
/-! L_subwayref15_Book_Redeem -/
def L_subwayref15_Book_Redeem_b1 (rec1 : Int → Option (Int × (List UInt8) × (List UInt8) × Int × Int × (List UInt8) × Int × (List ((List UInt8) × Int × (List UInt8) × (List UInt8) × Int)))) (q2 : (List UInt8)) (q3 : Int) (q4 : (List ((List UInt8) × Int × (List UInt8) × (List UInt8) × Int))) (p7 : (List UInt8)) (p8 : (List UInt8)) (v206 : Int) : Option (Int × (List UInt8) × (List UInt8) × Int × Int × (List UInt8) × Int × (List ((List UInt8) × Int × (List UInt8) × (List UInt8) × Int))) :=
  (cond (decide (v206 < ((List.length q4 : Nat) : Int))) ((idx q4 v206).bind fun x253 => (cond (!(x253.1 == p7)) (rec1 (IntKind.wrap .i64 (v206 + 1))) ((idx q4 v206).bind fun x263 => (cond (!(x263.2.2.2.1 == p8)) (some (0, ([] : List UInt8), ([] : List UInt8), 0, 131, q2, q3, q4)) ((L_subwayref15_Book_drop q2 q3 q4 v206).bind fun z283 => (some (x263.2.1, x263.2.2.1, x263.2.2.2.1, x263.2.2.2.2, 0, z283.1, z283.2.1, z283.2.2))))))) (some (0, ([] : List UInt8), ([] : List UInt8), 0, 151, q2, q3, q4)))
def L_subwayref15_Book_Redeem_l1 (q2 : (List UInt8)) (q3 : Int) (q4 : (List ((List UInt8) × Int × (List UInt8) × (List UInt8) × Int))) (p7 : (List UInt8)) (p8 : (List UInt8)) : Nat → Int → Option (Int × (List UInt8) × (List UInt8) × Int × Int × (List UInt8) × Int × (List ((List UInt8) × Int × (List UInt8) × (List UInt8) × Int)))
  | 0, _ => none
  | f + 1, v206 => L_subwayref15_Book_Redeem_b1  (L_subwayref15_Book_Redeem_l1 q2 q3 q4 p7 p8 f) q2 q3 q4 p7 p8 v206
def L_subwayref15_Book_Redeem (q2 : (List UInt8)) (q3 : Int) (q4 : (List ((List UInt8) × Int × (List UInt8) × (List UInt8) × Int))) (p7 : (List UInt8)) (p8 : (List UInt8)) : Option (Int × (List UInt8) × (List UInt8) × Int × Int × (List UInt8) × Int × (List ((List UInt8) × Int × (List UInt8) × (List UInt8) × Int))) :=
  (L_subwayref15_Book_Redeem_l1 q2 q3 q4 p7 p8 fuel 0)
set_option maxRecDepth 100000 in
set_option maxHeartbeats 4000000 in
theorem L_subwayref15_Book_Redeem_walk {S : List Nat} (g1 : Nat) (A5 : Option Addr) (c6 : Nat) (q2 : (List UInt8)) (q3 : Int) (q4 : (List ((List UInt8) × Int × (List UInt8) × (List UInt8) × Int))) (p7 : (List UInt8)) (p8 : (List UInt8)) (w0 : World) (hO : SP S w0 w0 [boxE g1 44 #[(.string ⟨List.toArray q2⟩), (.int .i64 q3), (.slice A5 (List.length q4) c6)], rowT 63 (ePair eStr (ePair (eInt .i64) (ePair eStr (ePair eStr (eInt .i64))))) A5 c6 q4])  (r : (Int × (List UInt8) × (List UInt8) × Int × Int × (List UInt8) × Int × (List ((List UInt8) × Int × (List UInt8) × (List UInt8) × Int)))) (H : L_subwayref15_Book_Redeem q2 q3 q4 p7 p8 = some r) :
  Calls Tryd.prog 15 #[(pt g1 0), (.string ⟨List.toArray p7⟩), (.string ⟨List.toArray p8⟩)] w0 (fun e w' => ∃ (A152 : Option Addr) (c153 : Nat), e = .returned (.tuple #[(.agg #[(.int .i64 r.1), (.string ⟨List.toArray r.2.1⟩), (.string ⟨List.toArray r.2.2.1⟩), (.int .i64 r.2.2.2.1)]), (.int .i64 r.2.2.2.2.1)]) ∧ SP S w0 w' [boxE g1 44 #[(.string ⟨List.toArray r.2.2.2.2.2.1⟩), (.int .i64 r.2.2.2.2.2.2.1), (.slice A152 (List.length r.2.2.2.2.2.2.2) c153)], rowT 63 (ePair eStr (ePair (eInt .i64) (ePair eStr (ePair eStr (eInt .i64))))) A152 c153 r.2.2.2.2.2.2.2]) := by
 unfold L_subwayref15_Book_Redeem at H
 refine calls_go (n := 47) Tryd.func15 K K K ?_
 have hs0 := hO
 refine At.sq K ?_
 refine At.region K K ?_
 refine In.step (k' := 1) rfl K ?_
 refine Step.alloc (t := 31) (z := (.agg #[(.int .i64 0), (.string ⟨List.toArray ([] : List UInt8)⟩), (.string ⟨List.toArray ([] : List UInt8)⟩), (.int .i64 0)])) (d := (some 6)) (k := 0) K rfl K hs0 ?_
 intro g154 w155 (hs157 : SP S w0 w155 [boxE g1 44 #[(.string ⟨List.toArray q2⟩), (.int .i64 q3), (.slice A5 (List.length q4) c6)], rowT 63 (ePair eStr (ePair (eInt .i64) (ePair eStr (ePair eStr (eInt .i64))))) A5 c6 q4, boxE g154 31 #[(.int .i64 0), (.string ⟨List.toArray ([] : List UInt8)⟩), (.string ⟨List.toArray ([] : List UInt8)⟩), (.int .i64 0)]])
 refine In.run' 1 (k' := 2) rfl [(7, (.int .i64 0))] K ?_
 refine In.fin K ?_
 refine At.sq K ?_
 refine At.sq K ?_
 refine At.region K K ?_
 refine In.run' 1 (k' := 1) rfl [(8, (.int .i64 0))] K ?_
 refine In.fin K ?_
 refine At.bk K (id := 0) K ?_
 refine At.lp K (fun f1 ρ w => ∃ (v206 : Int), Known ρ [(0, (pt g1 0)), (1, (.string ⟨List.toArray p7⟩)), (2, (.string ⟨List.toArray p8⟩)), (6, (pt g154 0)), (8, (.int .i64 v206))] ∧ SP S w0 w [rowT 63 (ePair eStr (ePair (eInt .i64) (ePair eStr (ePair eStr (eInt .i64))))) A5 c6 q4, boxE g1 44 #[(.string ⟨List.toArray q2⟩), (.int .i64 q3), (.slice A5 (List.length q4) c6)], boxE g154 31 #[(.int .i64 0), (.string ⟨List.toArray ([] : List UInt8)⟩), (.string ⟨List.toArray ([] : List UInt8)⟩), (.int .i64 0)]] ∧ L_subwayref15_Book_Redeem_l1 q2 q3 q4 p7 p8 f1 v206 = some r) (by rintro ρ w ⟨v206, hk, hs, H⟩; cases H) ?_ fuel ?_
 ·rintro f1 ρ w204 ⟨v206, hk, hs205, H⟩
  refine At.known [(0, (pt g1 0)), (1, (.string ⟨List.toArray p7⟩)), (2, (.string ⟨List.toArray p8⟩)), (6, (pt g154 0)), (8, (.int .i64 v206))] hk ?_
  replace H := (show L_subwayref15_Book_Redeem_b1 (L_subwayref15_Book_Redeem_l1 q2 q3 q4 p7 p8 f1) q2 q3 q4 p7 p8 v206 = some r from H)
  unfold L_subwayref15_Book_Redeem_b1 at H
  refine At.sq K ?_
  refine At.sq K ?_
  refine At.region K K ?_
  refine In.run' 4 (k' := 4) rfl [(10, (.int .i64 v206)), (11, (pt g1 0)), (12, (pt g1 0)), (13, (pt g1 2))] K ?_
  refine In.step (k' := 5) rfl K ?_
  refine Step.load (t := 42) (x := (.tmp 13)) (g := g1) (off := 2) (i := 1) (v := (.slice A5 (List.length q4) c6)) (d := (some 14)) (k := 4) K rfl K hs205 rfl K ?_
  refine In.run' 2 (k' := 7) rfl [(15, (.int .i64 ((List.length q4 : Nat) : Int))), (16, (.bool (decide (v206 < ((List.length q4 : Nat) : Int)))))] K ?_
  refine In.fin K ?_
  refine At.cd K (o := (.tmp 16)) K (b := (decide (v206 < ((List.length q4 : Nat) : Int)))) K (fun hb252 => ?_) (fun hb252 => ?_)
  ·have H := ct H hb252
   refine At.skip K ?_
   refine At.sq K ?_
   refine At.bk K (id := 1) K ?_
   refine At.sq K ?_
   refine At.sq K ?_
   refine At.region K K ?_
   refine In.run' 3 (k' := 3) rfl [(19, (pt g1 0)), (20, (pt g1 0)), (21, (pt g1 2))] K ?_
   refine In.step (k' := 4) rfl K ?_
   refine Step.load (t := 42) (x := (.tmp 21)) (g := g1) (off := 2) (i := 1) (v := (.slice A5 (List.length q4) c6)) (d := (some 22)) (k := 3) K rfl K hs205 rfl K ?_
   refine In.run' 1 (k' := 5) rfl [(23, (.int .i64 v206))] K ?_
   obtain ⟨x253, hp254, hq255, hx256, H⟩ := idx_elim H
   refine In.step (k' := 6) rfl K ?_
   refine Step.elem (e := (ePair eStr (ePair (eInt .i64) (ePair eStr (ePair eStr (eInt .i64)))))) (l := q4) (A := A5) (c := c6) (T := 42) (E := 63) (x := (.tmp 22)) (ix := (.tmp 23)) (ki := .i64) (iz := v206) (d := (some 24)) (k := 5) K rfl K K K K (rowT_rd (SP.get hs205 (i := 0) rfl)) hp254 hq255 ?_
   intro b257 o258 hA260 hb261 hc259
   refine In.run' 1 (k' := 7) rfl [(25, (.pointer (some ⟨b257, (o258 + Int.toNat v206 * (ePair eStr (ePair (eInt .i64) (ePair eStr (ePair eStr (eInt .i64))))).sz), none⟩)))] K ?_
   refine In.step (k' := 8) rfl K ?_
   refine Step.cell (t := 9) (x := (.tmp 25)) (b := b257) (off := (o258 + Int.toNat v206 * (ePair eStr (ePair (eInt .i64) (ePair eStr (ePair eStr (eInt .i64))))).sz)) (v := (.string ⟨List.toArray x253.1⟩)) (d := (some 26)) (k := 7) K rfl K K (elem_cell (e := (ePair eStr (ePair (eInt .i64) (ePair eStr (ePair eStr (eInt .i64)))))) (rdt_cells (rowT_rd (SP.get hs205 (i := 0) rfl)) hA260 hp254 hq255) hx256 (j := 0) rfl) ?_
   refine In.run' 1 (k' := 9) rfl [(27, (.string ⟨List.toArray p7⟩))] K ?_
   refine In.step (k' := 10) rfl K ?_
   refine Step.strOp (op := .neq) (T := 9) (T' := 9) (x := (.tmp 26)) (y := (.tmp 27)) (a := x253.1) (b := p7) (r := (.bool (!(x253.1 == p7)))) (d := (some 28)) (k := 9) K rfl K K rfl ?_
   refine In.fin K ?_
   refine At.cd K (o := (.tmp 28)) K (b := (!(x253.1 == p7))) K (fun hb262 => ?_) (fun hb262 => ?_)
   ·have H := ct H hb262
    refine At.exit K (id := 1) K ?_
    refine At.region K K ?_
    refine In.run' 3 (k' := 3) rfl [(17, (.int .i64 v206)), (18, (.int .i64 (IntKind.wrap .i64 (v206 + 1)))), (8, (.int .i64 (IntKind.wrap .i64 (v206 + 1))))] K ?_
    refine In.fin K ?_
    exact ⟨(IntKind.wrap .i64 (v206 + 1)), ⟨K, K, K, K, K, trivial⟩, SP.sel hs205 [0, 1, 2] rfl rfl, H⟩
   ·have H := cf H hb262
    refine At.skip K ?_
    refine At.sq K ?_
    refine At.region K K ?_
    refine In.run' 3 (k' := 3) rfl [(29, (pt g1 0)), (30, (pt g1 0)), (31, (pt g1 2))] K ?_
    refine In.step (k' := 4) rfl K ?_
    refine Step.load (t := 42) (x := (.tmp 31)) (g := g1) (off := 2) (i := 1) (v := (.slice A5 (List.length q4) c6)) (d := (some 32)) (k := 3) K rfl K hs205 rfl K ?_
    refine In.run' 1 (k' := 5) rfl [(33, (.int .i64 v206))] K ?_
    obtain ⟨x263, hp264, hq265, hx266, H⟩ := idx_elim H
    refine In.step (k' := 6) rfl K ?_
    refine Step.elem (e := (ePair eStr (ePair (eInt .i64) (ePair eStr (ePair eStr (eInt .i64)))))) (l := q4) (A := A5) (c := c6) (T := 42) (E := 63) (x := (.tmp 32)) (ix := (.tmp 33)) (ki := .i64) (iz := v206) (d := (some 34)) (k := 5) K rfl K K K K (rowT_rd (SP.get hs205 (i := 0) rfl)) hp264 hq265 ?_
    intro b267 o268 hA270 hb271 hc269
    refine In.run' 1 (k' := 7) rfl [(35, (.pointer (some ⟨b267, (o268 + Int.toNat v206 * (ePair eStr (ePair (eInt .i64) (ePair eStr (ePair eStr (eInt .i64))))).sz + 1), none⟩)))] K ?_
    refine In.step (k' := 8) rfl K ?_
    refine Step.cells (t := 31) (x := (.tmp 35)) (b := b267) (off := (o268 + Int.toNat v206 * (ePair eStr (ePair (eInt .i64) (ePair eStr (ePair eStr (eInt .i64))))).sz + 1)) (xs := [(.int .i64 x263.2.1), (.string ⟨List.toArray x263.2.2.1⟩), (.string ⟨List.toArray x263.2.2.2.1⟩), (.int .i64 x263.2.2.2.2)]) (d := (some 36)) (k := 7) K rfl K K K (elem_cellsJ (e := (ePair eStr (ePair (eInt .i64) (ePair eStr (ePair eStr (eInt .i64)))))) (rdt_cells (rowT_rd (SP.get hs205 (i := 0) rfl)) hA270 hp264 hq265) hx266 (j := 1) rfl) ?_
    refine In.step (k' := 9) rfl K ?_
    refine Step.alloc (t := 31) (z := (.agg #[(.int .i64 0), (.string ⟨List.toArray ([] : List UInt8)⟩), (.string ⟨List.toArray ([] : List UInt8)⟩), (.int .i64 0)])) (d := (some 9)) (k := 8) K rfl K hs205 ?_
    intro g272 w273 (hs275 : SP S w0 w273 [rowT 63 (ePair eStr (ePair (eInt .i64) (ePair eStr (ePair eStr (eInt .i64))))) A5 c6 q4, boxE g1 44 #[(.string ⟨List.toArray q2⟩), (.int .i64 q3), (.slice A5 (List.length q4) c6)], boxE g154 31 #[(.int .i64 0), (.string ⟨List.toArray ([] : List UInt8)⟩), (.string ⟨List.toArray ([] : List UInt8)⟩), (.int .i64 0)], boxE g272 31 #[(.int .i64 0), (.string ⟨List.toArray ([] : List UInt8)⟩), (.string ⟨List.toArray ([] : List UInt8)⟩), (.int .i64 0)]])
    refine In.step (k' := 10) rfl K ?_
    refine Step.store (t := 31) (x := (.tmp 9)) (y := (.tmp 36)) (g := g272) (off := 0) (i := 3) (v := (.agg #[(.int .i64 x263.2.1), (.string ⟨List.toArray x263.2.2.1⟩), (.string ⟨List.toArray x263.2.2.2.1⟩), (.int .i64 x263.2.2.2.2)])) (cs' := #[(.int .i64 x263.2.1), (.string ⟨List.toArray x263.2.2.1⟩), (.string ⟨List.toArray x263.2.2.2.1⟩), (.int .i64 x263.2.2.2.2)]) (d := none) (k := 9) K rfl K K hs275 rfl K ?_
    intro w276 (hs278 : SP S w0 w276 [rowT 63 (ePair eStr (ePair (eInt .i64) (ePair eStr (ePair eStr (eInt .i64))))) A5 c6 q4, boxE g1 44 #[(.string ⟨List.toArray q2⟩), (.int .i64 q3), (.slice A5 (List.length q4) c6)], boxE g154 31 #[(.int .i64 0), (.string ⟨List.toArray ([] : List UInt8)⟩), (.string ⟨List.toArray ([] : List UInt8)⟩), (.int .i64 0)], boxE g272 31 #[(.int .i64 x263.2.1), (.string ⟨List.toArray x263.2.2.1⟩), (.string ⟨List.toArray x263.2.2.2.1⟩), (.int .i64 x263.2.2.2.2)]])
    refine In.fin K ?_
    refine At.sq K ?_
    refine At.sq K ?_
    refine At.region K K ?_
    refine In.run' 1 (k' := 1) rfl [(37, (pt g272 2))] K ?_
    refine In.step (k' := 2) rfl K ?_
    refine Step.load (t := 9) (x := (.tmp 37)) (g := g272) (off := 2) (i := 3) (v := (.string ⟨List.toArray x263.2.2.2.1⟩)) (d := (some 38)) (k := 1) K rfl K hs278 rfl K ?_
    refine In.run' 1 (k' := 3) rfl [(39, (.string ⟨List.toArray p8⟩))] K ?_
    refine In.step (k' := 4) rfl K ?_
    refine Step.strOp (op := .neq) (T := 9) (T' := 9) (x := (.tmp 38)) (y := (.tmp 39)) (a := x263.2.2.2.1) (b := p8) (r := (.bool (!(x263.2.2.2.1 == p8)))) (d := (some 40)) (k := 3) K rfl K K rfl ?_
    refine In.fin K ?_
    refine At.cd K (o := (.tmp 40)) K (b := (!(x263.2.2.2.1 == p8))) K (fun hb279 => ?_) (fun hb279 => ?_)
    ·have H := ct H hb279
     refine At.sq K ?_
     refine At.region K K ?_
     refine In.run' 1 (k' := 1) rfl [(41, (.agg #[(.int .i64 0), (.string ⟨List.toArray ([] : List UInt8)⟩), (.string ⟨List.toArray ([] : List UInt8)⟩), (.int .i64 0)]))] K ?_
     refine In.step (k' := 2) rfl K ?_
     refine Step.store (t := 31) (x := (.tmp 6)) (y := (.tmp 41)) (g := g154) (off := 0) (i := 2) (v := (.agg #[(.int .i64 0), (.string ⟨List.toArray ([] : List UInt8)⟩), (.string ⟨List.toArray ([] : List UInt8)⟩), (.int .i64 0)])) (cs' := #[(.int .i64 0), (.string ⟨List.toArray ([] : List UInt8)⟩), (.string ⟨List.toArray ([] : List UInt8)⟩), (.int .i64 0)]) (d := none) (k := 1) K rfl K K hs278 rfl K ?_
     intro w280 (hs282 : SP S w0 w280 [rowT 63 (ePair eStr (ePair (eInt .i64) (ePair eStr (ePair eStr (eInt .i64))))) A5 c6 q4, boxE g1 44 #[(.string ⟨List.toArray q2⟩), (.int .i64 q3), (.slice A5 (List.length q4) c6)], boxE g154 31 #[(.int .i64 0), (.string ⟨List.toArray ([] : List UInt8)⟩), (.string ⟨List.toArray ([] : List UInt8)⟩), (.int .i64 0)], boxE g272 31 #[(.int .i64 x263.2.1), (.string ⟨List.toArray x263.2.2.1⟩), (.string ⟨List.toArray x263.2.2.2.1⟩), (.int .i64 x263.2.2.2.2)]])
     refine In.run' 1 (k' := 3) rfl [(7, (.int .i64 131))] K ?_
     refine In.fin K ?_
     refine At.ret K ?_
     refine ⟨(.tuple #[(.agg #[(.int .i64 0), (.string ⟨List.toArray ([] : List UInt8)⟩), (.string ⟨List.toArray ([] : List UInt8)⟩), (.int .i64 0)]), (.int .i64 131)]), res_2 K (rv_cell (a := 6) (t := 31) (g := g154) (off := 0) K (SP.get hs282 (i := 2) rfl) K) (rv_tmp (t := 7) K), ?_⟩
     obtain rfl := some_elim H
     exact ⟨A5, c6, rfl, SP.sel hs282 [1,0] rfl rfl⟩
    ·have H := cf H hb279
     refine At.skip K ?_
     refine At.sq K ?_
     refine At.region K K ?_
     refine In.run' 2 (k' := 2) rfl [(42, (pt g1 0)), (43, (.int .i64 v206))] K ?_
     obtain ⟨z283, hz284, H⟩ := bind_elim H
     refine In.step (k' := 3) rfl K ?_
     refine Step.callF (f := 25) (fo := (.func 25)) (xs := #[(.tmp 42), (.tmp 43)]) (tys := #[26, 3]) (first := #[]) (captured := #[]) (d := (some 44)) (k := 2) K rfl K K Tryd.call25 (L_subwayref15_Book_drop_walk g1 A5 c6 q2 q3 q4 v206 w276 (SP.sub hs278 [1, 0] rfl rfl) z283 hz284) ?_
     rintro e w285 ⟨A287, c288, rfl, hs286⟩
     refine ⟨_, rfl, ?_⟩
     have hs290 : SP S w0 w285 [boxE g154 31 #[(.int .i64 0), (.string ⟨List.toArray ([] : List UInt8)⟩), (.string ⟨List.toArray ([] : List UInt8)⟩), (.int .i64 0)], boxE g272 31 #[(.int .i64 x263.2.1), (.string ⟨List.toArray x263.2.2.1⟩), (.string ⟨List.toArray x263.2.2.2.1⟩), (.int .i64 x263.2.2.2.2)], boxE g1 44 #[(.string ⟨List.toArray z283.1⟩), (.int .i64 z283.2.1), (.slice A287 (List.length z283.2.2) c288)], rowT 63 (ePair eStr (ePair (eInt .i64) (ePair eStr (ePair eStr (eInt .i64))))) A287 c288 z283.2.2] := SP.callS hs278 [1, 0] [2, 3] rfl rfl hs286 rfl
     clear hs286
     refine In.fin K ?_
     refine At.sq K ?_
     refine At.region K K ?_
     refine In.step (k' := 1) rfl K ?_
     refine Step.load (t := 31) (x := (.tmp 9)) (g := g272) (off := 0) (i := 1) (v := (.agg #[(.int .i64 x263.2.1), (.string ⟨List.toArray x263.2.2.1⟩), (.string ⟨List.toArray x263.2.2.2.1⟩), (.int .i64 x263.2.2.2.2)])) (d := (some 45)) (k := 0) K rfl K hs290 rfl K ?_
     refine In.step (k' := 2) rfl K ?_
     refine Step.store (t := 31) (x := (.tmp 6)) (y := (.tmp 45)) (g := g154) (off := 0) (i := 0) (v := (.agg #[(.int .i64 x263.2.1), (.string ⟨List.toArray x263.2.2.1⟩), (.string ⟨List.toArray x263.2.2.2.1⟩), (.int .i64 x263.2.2.2.2)])) (cs' := #[(.int .i64 x263.2.1), (.string ⟨List.toArray x263.2.2.1⟩), (.string ⟨List.toArray x263.2.2.2.1⟩), (.int .i64 x263.2.2.2.2)]) (d := none) (k := 1) K rfl K K hs290 rfl K ?_
     intro w291 (hs293 : SP S w0 w291 [boxE g154 31 #[(.int .i64 x263.2.1), (.string ⟨List.toArray x263.2.2.1⟩), (.string ⟨List.toArray x263.2.2.2.1⟩), (.int .i64 x263.2.2.2.2)], boxE g272 31 #[(.int .i64 x263.2.1), (.string ⟨List.toArray x263.2.2.1⟩), (.string ⟨List.toArray x263.2.2.2.1⟩), (.int .i64 x263.2.2.2.2)], boxE g1 44 #[(.string ⟨List.toArray z283.1⟩), (.int .i64 z283.2.1), (.slice A287 (List.length z283.2.2) c288)], rowT 63 (ePair eStr (ePair (eInt .i64) (ePair eStr (ePair eStr (eInt .i64))))) A287 c288 z283.2.2])
     refine In.run' 1 (k' := 3) rfl [(7, (.int .i64 0))] K ?_
     refine In.fin K ?_
     refine At.ret K ?_
     refine ⟨(.tuple #[(.agg #[(.int .i64 x263.2.1), (.string ⟨List.toArray x263.2.2.1⟩), (.string ⟨List.toArray x263.2.2.2.1⟩), (.int .i64 x263.2.2.2.2)]), (.int .i64 0)]), res_2 K (rv_cell (a := 6) (t := 31) (g := g154) (off := 0) K (SP.get hs293 (i := 0) rfl) K) (rv_tmp (t := 7) K), ?_⟩
     obtain rfl := some_elim H
     exact ⟨A287, c288, rfl, SP.sel hs293 [2,3] rfl rfl⟩
  ·have H := cf H hb252
   refine At.exit K (id := 0) K ?_
   refine At.sq K ?_
   refine At.region K K ?_
   refine In.run' 1 (k' := 1) rfl [(46, (.agg #[(.int .i64 0), (.string ⟨List.toArray ([] : List UInt8)⟩), (.string ⟨List.toArray ([] : List UInt8)⟩), (.int .i64 0)]))] K ?_
   refine In.step (k' := 2) rfl K ?_
   refine Step.store (t := 31) (x := (.tmp 6)) (y := (.tmp 46)) (g := g154) (off := 0) (i := 2) (v := (.agg #[(.int .i64 0), (.string ⟨List.toArray ([] : List UInt8)⟩), (.string ⟨List.toArray ([] : List UInt8)⟩), (.int .i64 0)])) (cs' := #[(.int .i64 0), (.string ⟨List.toArray ([] : List UInt8)⟩), (.string ⟨List.toArray ([] : List UInt8)⟩), (.int .i64 0)]) (d := none) (k := 1) K rfl K K hs205 rfl K ?_
   intro w294 (hs296 : SP S w0 w294 [rowT 63 (ePair eStr (ePair (eInt .i64) (ePair eStr (ePair eStr (eInt .i64))))) A5 c6 q4, boxE g1 44 #[(.string ⟨List.toArray q2⟩), (.int .i64 q3), (.slice A5 (List.length q4) c6)], boxE g154 31 #[(.int .i64 0), (.string ⟨List.toArray ([] : List UInt8)⟩), (.string ⟨List.toArray ([] : List UInt8)⟩), (.int .i64 0)]])
   refine In.run' 1 (k' := 3) rfl [(7, (.int .i64 151))] K ?_
   refine In.fin K ?_
   refine At.ret K ?_
   refine ⟨(.tuple #[(.agg #[(.int .i64 0), (.string ⟨List.toArray ([] : List UInt8)⟩), (.string ⟨List.toArray ([] : List UInt8)⟩), (.int .i64 0)]), (.int .i64 151)]), res_2 K (rv_cell (a := 6) (t := 31) (g := g154) (off := 0) K (SP.get hs296 (i := 2) rfl) K) (rv_tmp (t := 7) K), ?_⟩
   obtain rfl := some_elim H
   exact ⟨A5, c6, rfl, SP.sel hs296 [1,0] rfl rfl⟩
 ·exact ⟨0, ⟨K, K, K, K, K, trivial⟩, SP.sel hs157 [1, 0, 2] rfl rfl, H⟩
/-! L_subwayref15_Book_Void -/
def L_subwayref15_Book_Void_b1 (rec1 : Int → Option (Bool × (List UInt8) × Int × (List ((List UInt8) × Int × (List UInt8) × (List UInt8) × Int)))) (q2 : (List UInt8)) (q3 : Int) (q4 : (List ((List UInt8) × Int × (List UInt8) × (List UInt8) × Int))) (p7 : Int) (v93 : Int) : Option (Bool × (List UInt8) × Int × (List ((List UInt8) × Int × (List UInt8) × (List UInt8) × Int))) :=
  (cond (decide (v93 < ((List.length q4 : Nat) : Int))) ((idx q4 v93).bind fun x114 => (cond (x114.2.1 == p7) ((L_subwayref15_Book_drop q2 q3 q4 v93).bind fun z124 => (some (true, z124.1, z124.2.1, z124.2.2))) (rec1 (IntKind.wrap .i64 (v93 + 1))))) (some (false, q2, q3, q4)))
def L_subwayref15_Book_Void_l1 (q2 : (List UInt8)) (q3 : Int) (q4 : (List ((List UInt8) × Int × (List UInt8) × (List UInt8) × Int))) (p7 : Int) : Nat → Int → Option (Bool × (List UInt8) × Int × (List ((List UInt8) × Int × (List UInt8) × (List UInt8) × Int)))
  | 0, _ => none
  | f + 1, v93 => L_subwayref15_Book_Void_b1  (L_subwayref15_Book_Void_l1 q2 q3 q4 p7 f) q2 q3 q4 p7 v93
def L_subwayref15_Book_Void (q2 : (List UInt8)) (q3 : Int) (q4 : (List ((List UInt8) × Int × (List UInt8) × (List UInt8) × Int))) (p7 : Int) : Option (Bool × (List UInt8) × Int × (List ((List UInt8) × Int × (List UInt8) × (List UInt8) × Int))) :=
  (L_subwayref15_Book_Void_l1 q2 q3 q4 p7 fuel 0)
set_option maxRecDepth 100000 in
set_option maxHeartbeats 4000000 in
theorem L_subwayref15_Book_Void_walk {S : List Nat} (g1 : Nat) (A5 : Option Addr) (c6 : Nat) (q2 : (List UInt8)) (q3 : Int) (q4 : (List ((List UInt8) × Int × (List UInt8) × (List UInt8) × Int))) (p7 : Int) (w0 : World) (hO : SP S w0 w0 [boxE g1 44 #[(.string ⟨List.toArray q2⟩), (.int .i64 q3), (.slice A5 (List.length q4) c6)], rowT 63 (ePair eStr (ePair (eInt .i64) (ePair eStr (ePair eStr (eInt .i64))))) A5 c6 q4])  (r : (Bool × (List UInt8) × Int × (List ((List UInt8) × Int × (List UInt8) × (List UInt8) × Int)))) (H : L_subwayref15_Book_Void q2 q3 q4 p7 = some r) :
  Calls Tryd.prog 17 #[(pt g1 0), (.int .i64 p7)] w0 (fun e w' => ∃ (A69 : Option Addr) (c70 : Nat), e = .returned (.bool r.1) ∧ SP S w0 w' [boxE g1 44 #[(.string ⟨List.toArray r.2.1⟩), (.int .i64 r.2.2.1), (.slice A69 (List.length r.2.2.2) c70)], rowT 63 (ePair eStr (ePair (eInt .i64) (ePair eStr (ePair eStr (eInt .i64))))) A69 c70 r.2.2.2]) := by
 unfold L_subwayref15_Book_Void at H
 refine calls_go (n := 29) Tryd.func17 K K K ?_
 have hs0 := hO
 refine At.sq K ?_
 refine At.region K K ?_
 refine In.run' 1 (k' := 1) rfl [(4, (.bool false))] K ?_
 refine In.fin K ?_
 refine At.sq K ?_
 refine At.sq K ?_
 refine At.region K K ?_
 refine In.run' 1 (k' := 1) rfl [(5, (.int .i64 0))] K ?_
 refine In.fin K ?_
 refine At.bk K (id := 0) K ?_
 refine At.lp K (fun f1 ρ w => ∃ (v93 : Int), Known ρ [(0, (pt g1 0)), (1, (.int .i64 p7)), (5, (.int .i64 v93))] ∧ SP S w0 w [rowT 63 (ePair eStr (ePair (eInt .i64) (ePair eStr (ePair eStr (eInt .i64))))) A5 c6 q4, boxE g1 44 #[(.string ⟨List.toArray q2⟩), (.int .i64 q3), (.slice A5 (List.length q4) c6)]] ∧ L_subwayref15_Book_Void_l1 q2 q3 q4 p7 f1 v93 = some r) (by rintro ρ w ⟨v93, hk, hs, H⟩; cases H) ?_ fuel ?_
 ·rintro f1 ρ w91 ⟨v93, hk, hs92, H⟩
  refine At.known [(0, (pt g1 0)), (1, (.int .i64 p7)), (5, (.int .i64 v93))] hk ?_
  replace H := (show L_subwayref15_Book_Void_b1 (L_subwayref15_Book_Void_l1 q2 q3 q4 p7 f1) q2 q3 q4 p7 v93 = some r from H)
  unfold L_subwayref15_Book_Void_b1 at H
  refine At.sq K ?_
  refine At.sq K ?_
  refine At.region K K ?_
  refine In.run' 4 (k' := 4) rfl [(6, (.int .i64 v93)), (7, (pt g1 0)), (8, (pt g1 0)), (9, (pt g1 2))] K ?_
  refine In.step (k' := 5) rfl K ?_
  refine Step.load (t := 42) (x := (.tmp 9)) (g := g1) (off := 2) (i := 1) (v := (.slice A5 (List.length q4) c6)) (d := (some 10)) (k := 4) K rfl K hs92 rfl K ?_
  refine In.run' 2 (k' := 7) rfl [(11, (.int .i64 ((List.length q4 : Nat) : Int))), (12, (.bool (decide (v93 < ((List.length q4 : Nat) : Int)))))] K ?_
  refine In.fin K ?_
  refine At.cd K (o := (.tmp 12)) K (b := (decide (v93 < ((List.length q4 : Nat) : Int)))) K (fun hb113 => ?_) (fun hb113 => ?_)
  ·have H := ct H hb113
   refine At.skip K ?_
   refine At.sq K ?_
   refine At.bk K (id := 1) K ?_
   refine At.sq K ?_
   refine At.region K K ?_
   refine In.run' 3 (k' := 3) rfl [(15, (pt g1 0)), (16, (pt g1 0)), (17, (pt g1 2))] K ?_
   refine In.step (k' := 4) rfl K ?_
   refine Step.load (t := 42) (x := (.tmp 17)) (g := g1) (off := 2) (i := 1) (v := (.slice A5 (List.length q4) c6)) (d := (some 18)) (k := 3) K rfl K hs92 rfl K ?_
   refine In.run' 1 (k' := 5) rfl [(19, (.int .i64 v93))] K ?_
   obtain ⟨x114, hp115, hq116, hx117, H⟩ := idx_elim H
   refine In.step (k' := 6) rfl K ?_
   refine Step.elem (e := (ePair eStr (ePair (eInt .i64) (ePair eStr (ePair eStr (eInt .i64)))))) (l := q4) (A := A5) (c := c6) (T := 42) (E := 63) (x := (.tmp 18)) (ix := (.tmp 19)) (ki := .i64) (iz := v93) (d := (some 20)) (k := 5) K rfl K K K K (rowT_rd (SP.get hs92 (i := 0) rfl)) hp115 hq116 ?_
   intro b118 o119 hA121 hb122 hc120
   refine In.run' 2 (k' := 8) rfl [(21, (.pointer (some ⟨b118, (o119 + Int.toNat v93 * (ePair eStr (ePair (eInt .i64) (ePair eStr (ePair eStr (eInt .i64))))).sz + 1), none⟩))), (22, (.pointer (some ⟨b118, (o119 + Int.toNat v93 * (ePair eStr (ePair (eInt .i64) (ePair eStr (ePair eStr (eInt .i64))))).sz + 1), none⟩)))] K ?_
   refine In.step (k' := 9) rfl K ?_
   refine Step.cell (t := 3) (x := (.tmp 22)) (b := b118) (off := (o119 + Int.toNat v93 * (ePair eStr (ePair (eInt .i64) (ePair eStr (ePair eStr (eInt .i64))))).sz + 1)) (v := (.int .i64 x114.2.1)) (d := (some 23)) (k := 8) K rfl K K (elem_cell (e := (ePair eStr (ePair (eInt .i64) (ePair eStr (ePair eStr (eInt .i64)))))) (rdt_cells (rowT_rd (SP.get hs92 (i := 0) rfl)) hA121 hp115 hq116) hx117 (j := 1) rfl) ?_
   refine In.run' 2 (k' := 11) rfl [(24, (.int .i64 p7)), (25, (.bool (x114.2.1 == p7)))] K ?_
   refine In.fin K ?_
   refine At.cd K (o := (.tmp 25)) K (b := (x114.2.1 == p7)) K (fun hb123 => ?_) (fun hb123 => ?_)
   ·have H := ct H hb123
    refine At.sq K ?_
    refine At.region K K ?_
    refine In.run' 2 (k' := 2) rfl [(26, (pt g1 0)), (27, (.int .i64 v93))] K ?_
    obtain ⟨z124, hz125, H⟩ := bind_elim H
    refine In.step (k' := 3) rfl K ?_
    refine Step.callF (f := 25) (fo := (.func 25)) (xs := #[(.tmp 26), (.tmp 27)]) (tys := #[26, 3]) (first := #[]) (captured := #[]) (d := (some 28)) (k := 2) K rfl K K Tryd.call25 (L_subwayref15_Book_drop_walk g1 A5 c6 q2 q3 q4 v93 w91 (SP.sub hs92 [1, 0] rfl rfl) z124 hz125) ?_
    rintro e w126 ⟨A128, c129, rfl, hs127⟩
    refine ⟨_, rfl, ?_⟩
    have hs131 : SP S w0 w126 [boxE g1 44 #[(.string ⟨List.toArray z124.1⟩), (.int .i64 z124.2.1), (.slice A128 (List.length z124.2.2) c129)], rowT 63 (ePair eStr (ePair (eInt .i64) (ePair eStr (ePair eStr (eInt .i64))))) A128 c129 z124.2.2] := SP.callS hs92 [1, 0] [] rfl rfl hs127 rfl
    clear hs127
    refine In.fin K ?_
    refine At.sq K ?_
    refine At.region K K ?_
    refine In.run' 1 (k' := 1) rfl [(4, (.bool true))] K ?_
    refine In.fin K ?_
    refine At.ret K ?_
    refine ⟨(.bool true), K, ?_⟩
    obtain rfl := some_elim H
    exact ⟨A128, c129, rfl, SP.sel hs131 [0,1] rfl rfl⟩
   ·have H := cf H hb123
    refine At.skip K ?_
    refine At.region K K ?_
    refine In.run' 3 (k' := 3) rfl [(13, (.int .i64 v93)), (14, (.int .i64 (IntKind.wrap .i64 (v93 + 1)))), (5, (.int .i64 (IntKind.wrap .i64 (v93 + 1))))] K ?_
    refine In.fin K ?_
    exact ⟨(IntKind.wrap .i64 (v93 + 1)), ⟨K, K, K, trivial⟩, SP.sel hs92 [0, 1] rfl rfl, H⟩
  ·have H := cf H hb113
   refine At.exit K (id := 0) K ?_
   refine At.sq K ?_
   refine At.region K K ?_
   refine In.run' 1 (k' := 1) rfl [(4, (.bool false))] K ?_
   refine In.fin K ?_
   refine At.ret K ?_
   refine ⟨(.bool false), K, ?_⟩
   obtain rfl := some_elim H
   exact ⟨A5, c6, rfl, SP.sel hs92 [1,0] rfl rfl⟩
 ·exact ⟨0, ⟨K, K, K, trivial⟩, SP.sel hs0 [1, 0] rfl rfl, H⟩
/-! L_subwaylaw15_great -/
def L_subwaylaw15_great_k4 (rec3 : Int → Option (Bool)) (p1 : (List (Int × Int × (List UInt8) × (List UInt8) × Int × (List UInt8) × Int × (List UInt8) × (List UInt8)))) (v158 : Int) (v310 : Bool) : Option (Bool) :=
  (cond v310 ((idx p1 v158).bind fun x314 => ((idx p1 v158).bind fun x323 => ((idx p1 v158).bind fun x332 => ((idx p1 v158).bind fun x341 => ((idx p1 v158).bind fun x350 => (cond (decide ((IntKind.wrap .i64 ((IntKind.wrap .i64 ((IntKind.wrap .i64 ((IntKind.wrap .i64 (((List.length x314.2.2.1 : Nat) : Int) + ((List.length x323.2.2.2.1 : Nat) : Int))) + ((List.length x332.2.2.2.2.2.1 : Nat) : Int))) + ((List.length x341.2.2.2.2.2.2.2.1 : Nat) : Int))) + ((List.length x350.2.2.2.2.2.2.2.2 : Nat) : Int))) > 3000)) (some (true)) (rec3 (IntKind.wrap .i64 (v158 + 1))))))))) (some ((decide (((List.length p1 : Nat) : Int) > 200)))))
def L_subwaylaw15_great_b2 (rec3 : Int → Option (Bool)) (p1 : (List (Int × Int × (List UInt8) × (List UInt8) × Int × (List UInt8) × Int × (List UInt8) × (List UInt8)))) (v158 : Int) : Option (Bool) :=
  (cond (decide (v158 < ((List.length p1 : Nat) : Int))) (L_subwaylaw15_great_k4 rec3 p1 v158 (decide (v158 < 300))) (L_subwaylaw15_great_k4 rec3 p1 v158 false))
def L_subwaylaw15_great_l2 (p1 : (List (Int × Int × (List UInt8) × (List UInt8) × Int × (List UInt8) × Int × (List UInt8) × (List UInt8)))) : Nat → Int → Option (Bool)
  | 0, _ => none
  | f + 1, v158 => L_subwaylaw15_great_b2  (L_subwaylaw15_great_l2 p1 f) p1 v158
def L_subwaylaw15_great (p1 : (List (Int × Int × (List UInt8) × (List UInt8) × Int × (List UInt8) × Int × (List UInt8) × (List UInt8)))) : Option (Bool) :=
  (L_subwaylaw15_great_l2 p1 fuel 0)
set_option maxRecDepth 100000 in
set_option maxHeartbeats 4000000 in
theorem L_subwaylaw15_great_walk (A2 : Option Addr) (c3 : Nat) (p1 : (List (Int × Int × (List UInt8) × (List UInt8) × Int × (List UInt8) × Int × (List UInt8) × (List UInt8)))) (w0 : World) (hr4 : RdT (ePair (eInt .i64) (ePair (eInt .i64) (ePair eStr (ePair eStr (ePair (eInt .i64) (ePair eStr (ePair (eInt .i64) (ePair eStr eStr)))))))) w0 A2 c3 p1) (r : (Bool)) (H : L_subwaylaw15_great p1 = some r) :
  Calls Tryd.prog 12 #[(.slice A2 (List.length p1) c3)] w0 (fun e w' => e = .returned (.bool r) ∧ SP [] w0 w' []) := by
 unfold L_subwaylaw15_great at H
 refine calls_go (n := 54) Tryd.func12 K K K ?_
 have hs0 := SP.start [] w0
 refine At.sq K ?_
 refine At.region K K ?_
 refine In.run' 1 (k' := 1) rfl [(2, (.bool false))] K ?_
 refine In.fin K ?_
 refine At.sq K ?_
 refine At.sq K ?_
 refine At.region K K ?_
 refine In.run' 1 (k' := 1) rfl [(3, (.int .i64 0))] K ?_
 refine In.fin K ?_
 refine At.bk K (id := 0) K ?_
 refine At.lp K (fun f3 ρ w => ∃ (v158 : Int), Known ρ [(0, (.slice A2 (List.length p1) c3)), (3, (.int .i64 v158))] ∧ SP [] w0 w [] ∧ L_subwaylaw15_great_l2 p1 f3 v158 = some r) (by rintro ρ w ⟨v158, hk, hs, H⟩; cases H) ?_ fuel ?_
 ·rintro f3 ρ w156 ⟨v158, hk, hs157, H⟩
  refine At.known [(0, (.slice A2 (List.length p1) c3)), (3, (.int .i64 v158))] hk ?_
  replace H := (show L_subwaylaw15_great_b2 (L_subwaylaw15_great_l2 p1 f3) p1 v158 = some r from H)
  unfold L_subwaylaw15_great_b2 at H
  refine At.sq K ?_
  refine At.sq K ?_
  refine At.join (fun ρ w => ∃ (v310 : Bool), Known ρ [(0, (.slice A2 (List.length p1) c3)), (3, (.int .i64 v158)), (11, (.bool v310))] ∧ SP [] w0 w [] ∧ L_subwaylaw15_great_k4 (L_subwaylaw15_great_l2 p1 f3) p1 v158 v310 = some r) ?_ ?_
  ·refine At.region K K ?_
   refine In.run' 5 (k' := 5) rfl [(4, (.int .i64 v158)), (5, (.slice A2 (List.length p1) c3)), (6, (.int .i64 ((List.length p1 : Nat) : Int))), (7, (.bool (decide (v158 < ((List.length p1 : Nat) : Int))))), (8, (.bool (decide (v158 < ((List.length p1 : Nat) : Int)))))] K ?_
   refine In.guard (t := 8) (b := (decide (v158 < ((List.length p1 : Nat) : Int)))) K (fun hb458 => ?_) (fun hb458 => ?_)
   ·have H := ct H hb458
    refine In.run' 3 (k' := 8) rfl [(9, (.int .i64 v158)), (10, (.bool (decide (v158 < 300)))), (11, (.bool (decide (v158 < 300))))] K ?_
    refine In.fin K ?_
    exact ⟨(decide (v158 < 300)), ⟨K, K, K, trivial⟩, SP.sel hs157 [] rfl rfl, H⟩
   ·have H := cf H hb458
    refine In.run' 3 (k' := 8) rfl [(9, undef), (10, undef), (11, (.bool false))] K ?_
    refine In.fin K ?_
    exact ⟨false, ⟨K, K, K, trivial⟩, SP.sel hs157 [] rfl rfl, H⟩
  ·rintro ρ w311 ⟨v310, hk, hs312, H⟩
   unfold L_subwaylaw15_great_k4 at H
   first | refine At.known [(0, (.slice A2 (List.length p1) c3)), (3, (.int .i64 v158)), (11, (.bool v310))] hk ?_ | rw [← known_updL (l := [(0, (.slice A2 (List.length p1) c3)), (3, (.int .i64 v158)), (11, (.bool v310))]) hk]
   refine At.cd K (o := (.tmp 11)) K (b := v310) K (fun hb313 => ?_) (fun hb313 => ?_)
   ·have H := ct H hb313
    refine At.skip K ?_
    refine At.sq K ?_
    refine At.bk K (id := 1) K ?_
    refine At.sq K ?_
    obtain ⟨x314, hp315, hq316, hx317, H⟩ := idx_elim H
    obtain ⟨x323, hp324, hq325, hx326, H⟩ := idx_elim H
    obtain ⟨x332, hp333, hq334, hx335, H⟩ := idx_elim H
    obtain ⟨x341, hp342, hq343, hx344, H⟩ := idx_elim H
    obtain ⟨x350, hp351, hq352, hx353, H⟩ := idx_elim H
    refine At.stages K K K K K [GEq (.slice A2 (List.length p1) c3), GEq (.int .i64 v158), GElem0 A2 (ePair (eInt .i64) (ePair (eInt .i64) (ePair eStr (ePair eStr (ePair (eInt .i64) (ePair eStr (ePair (eInt .i64) (ePair eStr eStr)))))))).sz v158, GElem A2 (ePair (eInt .i64) (ePair (eInt .i64) (ePair eStr (ePair eStr (ePair (eInt .i64) (ePair eStr (ePair (eInt .i64) (ePair eStr eStr)))))))).sz v158 1, GElem A2 (ePair (eInt .i64) (ePair (eInt .i64) (ePair eStr (ePair eStr (ePair (eInt .i64) (ePair eStr (ePair (eInt .i64) (ePair eStr eStr)))))))).sz v158 2, GEq (.string ⟨List.toArray x314.2.2.1⟩), GEq (.int .i64 ((List.length x314.2.2.1 : Nat) : Int)), GEq (.slice A2 (List.length p1) c3), GEq (.int .i64 v158), GElem0 A2 (ePair (eInt .i64) (ePair (eInt .i64) (ePair eStr (ePair eStr (ePair (eInt .i64) (ePair eStr (ePair (eInt .i64) (ePair eStr eStr)))))))).sz v158, GElem A2 (ePair (eInt .i64) (ePair (eInt .i64) (ePair eStr (ePair eStr (ePair (eInt .i64) (ePair eStr (ePair (eInt .i64) (ePair eStr eStr)))))))).sz v158 1, GElem A2 (ePair (eInt .i64) (ePair (eInt .i64) (ePair eStr (ePair eStr (ePair (eInt .i64) (ePair eStr (ePair (eInt .i64) (ePair eStr eStr)))))))).sz v158 3, GEq (.string ⟨List.toArray x323.2.2.2.1⟩), GEq (.int .i64 ((List.length x323.2.2.2.1 : Nat) : Int)), GEq (.int .i64 (IntKind.wrap .i64 (((List.length x314.2.2.1 : Nat) : Int) + ((List.length x323.2.2.2.1 : Nat) : Int)))), GEq (.slice A2 (List.length p1) c3), GEq (.int .i64 v158), GElem0 A2 (ePair (eInt .i64) (ePair (eInt .i64) (ePair eStr (ePair eStr (ePair (eInt .i64) (ePair eStr (ePair (eInt .i64) (ePair eStr eStr)))))))).sz v158, GElem A2 (ePair (eInt .i64) (ePair (eInt .i64) (ePair eStr (ePair eStr (ePair (eInt .i64) (ePair eStr (ePair (eInt .i64) (ePair eStr eStr)))))))).sz v158 5, GEq (.string ⟨List.toArray x332.2.2.2.2.2.1⟩), GEq (.int .i64 ((List.length x332.2.2.2.2.2.1 : Nat) : Int)), GEq (.int .i64 (IntKind.wrap .i64 ((IntKind.wrap .i64 (((List.length x314.2.2.1 : Nat) : Int) + ((List.length x323.2.2.2.1 : Nat) : Int))) + ((List.length x332.2.2.2.2.2.1 : Nat) : Int)))), GEq (.slice A2 (List.length p1) c3), GEq (.int .i64 v158), GElem0 A2 (ePair (eInt .i64) (ePair (eInt .i64) (ePair eStr (ePair eStr (ePair (eInt .i64) (ePair eStr (ePair (eInt .i64) (ePair eStr eStr)))))))).sz v158, GElem A2 (ePair (eInt .i64) (ePair (eInt .i64) (ePair eStr (ePair eStr (ePair (eInt .i64) (ePair eStr (ePair (eInt .i64) (ePair eStr eStr)))))))).sz v158 7, GEq (.string ⟨List.toArray x341.2.2.2.2.2.2.2.1⟩), GEq (.int .i64 ((List.length x341.2.2.2.2.2.2.2.1 : Nat) : Int)), GEq (.int .i64 (IntKind.wrap .i64 ((IntKind.wrap .i64 ((IntKind.wrap .i64 (((List.length x314.2.2.1 : Nat) : Int) + ((List.length x323.2.2.2.1 : Nat) : Int))) + ((List.length x332.2.2.2.2.2.1 : Nat) : Int))) + ((List.length x341.2.2.2.2.2.2.2.1 : Nat) : Int)))), GEq (.slice A2 (List.length p1) c3), GEq (.int .i64 v158), GElem0 A2 (ePair (eInt .i64) (ePair (eInt .i64) (ePair eStr (ePair eStr (ePair (eInt .i64) (ePair eStr (ePair (eInt .i64) (ePair eStr eStr)))))))).sz v158, GElem A2 (ePair (eInt .i64) (ePair (eInt .i64) (ePair eStr (ePair eStr (ePair (eInt .i64) (ePair eStr (ePair (eInt .i64) (ePair eStr eStr)))))))).sz v158 8, GEq (.string ⟨List.toArray x350.2.2.2.2.2.2.2.2⟩), GEq (.int .i64 ((List.length x350.2.2.2.2.2.2.2.2 : Nat) : Int)), GEq (.int .i64 (IntKind.wrap .i64 ((IntKind.wrap .i64 ((IntKind.wrap .i64 ((IntKind.wrap .i64 (((List.length x314.2.2.1 : Nat) : Int) + ((List.length x323.2.2.2.1 : Nat) : Int))) + ((List.length x332.2.2.2.2.2.1 : Nat) : Int))) + ((List.length x341.2.2.2.2.2.2.2.1 : Nat) : Int))) + ((List.length x350.2.2.2.2.2.2.2.2 : Nat) : Int)))), GEq (.bool (decide ((IntKind.wrap .i64 ((IntKind.wrap .i64 ((IntKind.wrap .i64 ((IntKind.wrap .i64 (((List.length x314.2.2.1 : Nat) : Int) + ((List.length x323.2.2.2.1 : Nat) : Int))) + ((List.length x332.2.2.2.2.2.1 : Nat) : Int))) + ((List.length x341.2.2.2.2.2.2.2.1 : Nat) : Int))) + ((List.length x350.2.2.2.2.2.2.2.2 : Nat) : Int))) > 3000)))] [] [([], fun vs w => VL vs [] ∧ SP [] w0 w [])] (N := 37) K ⟨K, Nat.zero_lt_succ _⟩ (show VL [] [] ∧ SP [] w0 w311.drew [] from ⟨trivial, SP.drew hs312⟩) ⟨⟨⟨⟨⟨⟨⟨⟨⟨⟨⟨⟨⟨⟨⟨⟨⟨⟨⟨⟨⟨⟨⟨⟨⟨⟨⟨⟨⟨⟨⟨⟨⟨⟨⟨⟨⟨trivial, ?_⟩, ?_⟩, ?_⟩, ?_⟩, ?_⟩, ?_⟩, ?_⟩, ?_⟩, ?_⟩, ?_⟩, ?_⟩, ?_⟩, ?_⟩, ?_⟩, ?_⟩, ?_⟩, ?_⟩, ?_⟩, ?_⟩, ?_⟩, ?_⟩, ?_⟩, ?_⟩, ?_⟩, ?_⟩, ?_⟩, ?_⟩, ?_⟩, ?_⟩, ?_⟩, ?_⟩, ?_⟩, ?_⟩, ?_⟩, ?_⟩, ?_⟩, ?_⟩ (last := 0) K ?_
    ·exact Owe.run K [(0, (.slice A2 (List.length p1) c3))] ⟨gS K K, trivial⟩ (.slice A2 (List.length p1) c3) (fun _ _ => K) rfl
    ·exact Owe.run K [(3, (.int .i64 v158))] ⟨gS K K, trivial⟩ (.int .i64 v158) (fun _ _ => K) rfl
    ·refine Owe.light K [0] K (all_cons ?_ all_nil)
     ·rintro ρ' w' hs hah ⟨hvl360, hs359⟩
      have hkn : Known ρ' [(14, (.slice A2 (List.length p1) c3)), (15, (.int .i64 v158))] := ⟨hah 0 14 K, hah 1 15 K, trivial⟩
      refine Step.known _ hkn ?_
      refine Step.elem (e := (ePair (eInt .i64) (ePair (eInt .i64) (ePair eStr (ePair eStr (ePair (eInt .i64) (ePair eStr (ePair (eInt .i64) (ePair eStr eStr))))))))) (l := p1) (A := A2) (c := c3) (T := 22) (E := 33) (x := (.tmp 14)) (ix := (.tmp 15)) (ki := .i64) (iz := v158) (d := (some 16)) (k := 2) K rfl K K K K (RdT.sp hr4 hs359) hp315 hq316 ?_
      intro b361 o362 hA364 hb365 hc363
      exact ⟨rfl, _, updO_known hkn, ⟨b361, o362, hA364, rfl⟩⟩
    ·refine Owe.light K [0] K (all_cons ?_ all_nil)
     ·rintro ρ' w' hs hah ⟨hvl367, hs366⟩
      obtain ⟨b368, o369, hA370, e16⟩ := hah 2 16 K
      have hkn : Known ρ' [(16, (.pointer (some ⟨b368, (o369 + Int.toNat v158 * (ePair (eInt .i64) (ePair (eInt .i64) (ePair eStr (ePair eStr (ePair (eInt .i64) (ePair eStr (ePair (eInt .i64) (ePair eStr eStr)))))))).sz), none⟩)))] := ⟨e16, trivial⟩
      refine Step.known _ hkn ?_
      refine Step.run (k := 3) (v := (.pointer (some ⟨b368, (o369 + Int.toNat v158 * (ePair (eInt .i64) (ePair (eInt .i64) (ePair eStr (ePair eStr (ePair (eInt .i64) (ePair eStr (ePair (eInt .i64) (ePair eStr eStr)))))))).sz + 1), none⟩))) K ?_
      exact ⟨rfl, _, updO_known hkn, ⟨b368, o369, hA370, rfl⟩⟩
    ·refine Owe.light K [0] K (all_cons ?_ all_nil)
     ·rintro ρ' w' hs hah ⟨hvl372, hs371⟩
      obtain ⟨b373, o374, hA375, e17⟩ := hah 3 17 K
      have hkn : Known ρ' [(17, (.pointer (some ⟨b373, (o374 + Int.toNat v158 * (ePair (eInt .i64) (ePair (eInt .i64) (ePair eStr (ePair eStr (ePair (eInt .i64) (ePair eStr (ePair (eInt .i64) (ePair eStr eStr)))))))).sz + 1), none⟩)))] := ⟨e17, trivial⟩
      refine Step.known _ hkn ?_
      refine Step.run (k := 4) (v := (.pointer (some ⟨b373, (o374 + Int.toNat v158 * (ePair (eInt .i64) (ePair (eInt .i64) (ePair eStr (ePair eStr (ePair (eInt .i64) (ePair eStr (ePair (eInt .i64) (ePair eStr eStr)))))))).sz + 2), none⟩))) K ?_
      exact ⟨rfl, _, updO_known hkn, ⟨b373, o374, hA375, rfl⟩⟩
    ·refine Owe.light K [0] K (all_cons ?_ all_nil)
     ·rintro ρ' w' hs hah ⟨hvl377, hs376⟩
      obtain ⟨b378, o379, hA380, e18⟩ := hah 4 18 K
      have hkn : Known ρ' [(18, (.pointer (some ⟨b378, (o379 + Int.toNat v158 * (ePair (eInt .i64) (ePair (eInt .i64) (ePair eStr (ePair eStr (ePair (eInt .i64) (ePair eStr (ePair (eInt .i64) (ePair eStr eStr)))))))).sz + 2), none⟩)))] := ⟨e18, trivial⟩
      refine Step.known _ hkn ?_
      refine Step.cell (t := 9) (x := (.tmp 18)) (b := b378) (off := (o379 + Int.toNat v158 * (ePair (eInt .i64) (ePair (eInt .i64) (ePair eStr (ePair eStr (ePair (eInt .i64) (ePair eStr (ePair (eInt .i64) (ePair eStr eStr)))))))).sz + 2)) (v := (.string ⟨List.toArray x314.2.2.1⟩)) (d := (some 19)) (k := 5) K rfl K K (elem_cell (e := (ePair (eInt .i64) (ePair (eInt .i64) (ePair eStr (ePair eStr (ePair (eInt .i64) (ePair eStr (ePair (eInt .i64) (ePair eStr eStr))))))))) (rdt_cells (RdT.sp hr4 hs376) hA380 hp315 hq316) hx317 (j := 2) rfl) ?_
      exact ⟨rfl, _, updO_known hkn, rfl⟩
    ·exact Owe.run K [(19, (.string ⟨List.toArray x314.2.2.1⟩))] ⟨gA 5 K K, trivial⟩ (.int .i64 ((List.length x314.2.2.1 : Nat) : Int)) (fun _ _ => K) rfl
    ·exact Owe.run K [(0, (.slice A2 (List.length p1) c3))] ⟨gS K K, trivial⟩ (.slice A2 (List.length p1) c3) (fun _ _ => K) rfl
    ·exact Owe.run K [(3, (.int .i64 v158))] ⟨gS K K, trivial⟩ (.int .i64 v158) (fun _ _ => K) rfl
    ·refine Owe.light K [0] K (all_cons ?_ all_nil)
     ·rintro ρ' w' hs hah ⟨hvl382, hs381⟩
      have hkn : Known ρ' [(21, (.slice A2 (List.length p1) c3)), (22, (.int .i64 v158))] := ⟨hah 7 21 K, hah 8 22 K, trivial⟩
      refine Step.known _ hkn ?_
      refine Step.elem (e := (ePair (eInt .i64) (ePair (eInt .i64) (ePair eStr (ePair eStr (ePair (eInt .i64) (ePair eStr (ePair (eInt .i64) (ePair eStr eStr))))))))) (l := p1) (A := A2) (c := c3) (T := 22) (E := 33) (x := (.tmp 21)) (ix := (.tmp 22)) (ki := .i64) (iz := v158) (d := (some 23)) (k := 9) K rfl K K K K (RdT.sp hr4 hs381) hp324 hq325 ?_
      intro b383 o384 hA386 hb387 hc385
      exact ⟨rfl, _, updO_known hkn, ⟨b383, o384, hA386, rfl⟩⟩
    ·refine Owe.light K [0] K (all_cons ?_ all_nil)
     ·rintro ρ' w' hs hah ⟨hvl389, hs388⟩
      obtain ⟨b390, o391, hA392, e23⟩ := hah 9 23 K
      have hkn : Known ρ' [(23, (.pointer (some ⟨b390, (o391 + Int.toNat v158 * (ePair (eInt .i64) (ePair (eInt .i64) (ePair eStr (ePair eStr (ePair (eInt .i64) (ePair eStr (ePair (eInt .i64) (ePair eStr eStr)))))))).sz), none⟩)))] := ⟨e23, trivial⟩
      refine Step.known _ hkn ?_
      refine Step.run (k := 10) (v := (.pointer (some ⟨b390, (o391 + Int.toNat v158 * (ePair (eInt .i64) (ePair (eInt .i64) (ePair eStr (ePair eStr (ePair (eInt .i64) (ePair eStr (ePair (eInt .i64) (ePair eStr eStr)))))))).sz + 1), none⟩))) K ?_
      exact ⟨rfl, _, updO_known hkn, ⟨b390, o391, hA392, rfl⟩⟩
    ·refine Owe.light K [0] K (all_cons ?_ all_nil)
     ·rintro ρ' w' hs hah ⟨hvl394, hs393⟩
      obtain ⟨b395, o396, hA397, e24⟩ := hah 10 24 K
      have hkn : Known ρ' [(24, (.pointer (some ⟨b395, (o396 + Int.toNat v158 * (ePair (eInt .i64) (ePair (eInt .i64) (ePair eStr (ePair eStr (ePair (eInt .i64) (ePair eStr (ePair (eInt .i64) (ePair eStr eStr)))))))).sz + 1), none⟩)))] := ⟨e24, trivial⟩
      refine Step.known _ hkn ?_
      refine Step.run (k := 11) (v := (.pointer (some ⟨b395, (o396 + Int.toNat v158 * (ePair (eInt .i64) (ePair (eInt .i64) (ePair eStr (ePair eStr (ePair (eInt .i64) (ePair eStr (ePair (eInt .i64) (ePair eStr eStr)))))))).sz + 3), none⟩))) K ?_
      exact ⟨rfl, _, updO_known hkn, ⟨b395, o396, hA397, rfl⟩⟩
    ·refine Owe.light K [0] K (all_cons ?_ all_nil)
     ·rintro ρ' w' hs hah ⟨hvl399, hs398⟩
      obtain ⟨b400, o401, hA402, e25⟩ := hah 11 25 K
      have hkn : Known ρ' [(25, (.pointer (some ⟨b400, (o401 + Int.toNat v158 * (ePair (eInt .i64) (ePair (eInt .i64) (ePair eStr (ePair eStr (ePair (eInt .i64) (ePair eStr (ePair (eInt .i64) (ePair eStr eStr)))))))).sz + 3), none⟩)))] := ⟨e25, trivial⟩
      refine Step.known _ hkn ?_
      refine Step.cell (t := 9) (x := (.tmp 25)) (b := b400) (off := (o401 + Int.toNat v158 * (ePair (eInt .i64) (ePair (eInt .i64) (ePair eStr (ePair eStr (ePair (eInt .i64) (ePair eStr (ePair (eInt .i64) (ePair eStr eStr)))))))).sz + 3)) (v := (.string ⟨List.toArray x323.2.2.2.1⟩)) (d := (some 26)) (k := 12) K rfl K K (elem_cell (e := (ePair (eInt .i64) (ePair (eInt .i64) (ePair eStr (ePair eStr (ePair (eInt .i64) (ePair eStr (ePair (eInt .i64) (ePair eStr eStr))))))))) (rdt_cells (RdT.sp hr4 hs398) hA402 hp324 hq325) hx326 (j := 3) rfl) ?_
      exact ⟨rfl, _, updO_known hkn, rfl⟩
    ·exact Owe.run K [(26, (.string ⟨List.toArray x323.2.2.2.1⟩))] ⟨gA 12 K K, trivial⟩ (.int .i64 ((List.length x323.2.2.2.1 : Nat) : Int)) (fun _ _ => K) rfl
    ·exact Owe.run K [(20, (.int .i64 ((List.length x314.2.2.1 : Nat) : Int))), (27, (.int .i64 ((List.length x323.2.2.2.1 : Nat) : Int)))] ⟨gA 6 K K, gA 13 K K, trivial⟩ (.int .i64 (IntKind.wrap .i64 (((List.length x314.2.2.1 : Nat) : Int) + ((List.length x323.2.2.2.1 : Nat) : Int)))) (fun _ _ => K) rfl
    ·exact Owe.run K [(0, (.slice A2 (List.length p1) c3))] ⟨gS K K, trivial⟩ (.slice A2 (List.length p1) c3) (fun _ _ => K) rfl
    ·exact Owe.run K [(3, (.int .i64 v158))] ⟨gS K K, trivial⟩ (.int .i64 v158) (fun _ _ => K) rfl
    ·refine Owe.light K [0] K (all_cons ?_ all_nil)
     ·rintro ρ' w' hs hah ⟨hvl404, hs403⟩
      have hkn : Known ρ' [(29, (.slice A2 (List.length p1) c3)), (30, (.int .i64 v158))] := ⟨hah 15 29 K, hah 16 30 K, trivial⟩
      refine Step.known _ hkn ?_
      refine Step.elem (e := (ePair (eInt .i64) (ePair (eInt .i64) (ePair eStr (ePair eStr (ePair (eInt .i64) (ePair eStr (ePair (eInt .i64) (ePair eStr eStr))))))))) (l := p1) (A := A2) (c := c3) (T := 22) (E := 33) (x := (.tmp 29)) (ix := (.tmp 30)) (ki := .i64) (iz := v158) (d := (some 31)) (k := 17) K rfl K K K K (RdT.sp hr4 hs403) hp333 hq334 ?_
      intro b405 o406 hA408 hb409 hc407
      exact ⟨rfl, _, updO_known hkn, ⟨b405, o406, hA408, rfl⟩⟩
    ·refine Owe.light K [0] K (all_cons ?_ all_nil)
     ·rintro ρ' w' hs hah ⟨hvl411, hs410⟩
      obtain ⟨b412, o413, hA414, e31⟩ := hah 17 31 K
      have hkn : Known ρ' [(31, (.pointer (some ⟨b412, (o413 + Int.toNat v158 * (ePair (eInt .i64) (ePair (eInt .i64) (ePair eStr (ePair eStr (ePair (eInt .i64) (ePair eStr (ePair (eInt .i64) (ePair eStr eStr)))))))).sz), none⟩)))] := ⟨e31, trivial⟩
      refine Step.known _ hkn ?_
      refine Step.run (k := 18) (v := (.pointer (some ⟨b412, (o413 + Int.toNat v158 * (ePair (eInt .i64) (ePair (eInt .i64) (ePair eStr (ePair eStr (ePair (eInt .i64) (ePair eStr (ePair (eInt .i64) (ePair eStr eStr)))))))).sz + 5), none⟩))) K ?_
      exact ⟨rfl, _, updO_known hkn, ⟨b412, o413, hA414, rfl⟩⟩
    ·refine Owe.light K [0] K (all_cons ?_ all_nil)
     ·rintro ρ' w' hs hah ⟨hvl416, hs415⟩
      obtain ⟨b417, o418, hA419, e32⟩ := hah 18 32 K
      have hkn : Known ρ' [(32, (.pointer (some ⟨b417, (o418 + Int.toNat v158 * (ePair (eInt .i64) (ePair (eInt .i64) (ePair eStr (ePair eStr (ePair (eInt .i64) (ePair eStr (ePair (eInt .i64) (ePair eStr eStr)))))))).sz + 5), none⟩)))] := ⟨e32, trivial⟩
      refine Step.known _ hkn ?_
      refine Step.cell (t := 9) (x := (.tmp 32)) (b := b417) (off := (o418 + Int.toNat v158 * (ePair (eInt .i64) (ePair (eInt .i64) (ePair eStr (ePair eStr (ePair (eInt .i64) (ePair eStr (ePair (eInt .i64) (ePair eStr eStr)))))))).sz + 5)) (v := (.string ⟨List.toArray x332.2.2.2.2.2.1⟩)) (d := (some 33)) (k := 19) K rfl K K (elem_cell (e := (ePair (eInt .i64) (ePair (eInt .i64) (ePair eStr (ePair eStr (ePair (eInt .i64) (ePair eStr (ePair (eInt .i64) (ePair eStr eStr))))))))) (rdt_cells (RdT.sp hr4 hs415) hA419 hp333 hq334) hx335 (j := 5) rfl) ?_
      exact ⟨rfl, _, updO_known hkn, rfl⟩
    ·exact Owe.run K [(33, (.string ⟨List.toArray x332.2.2.2.2.2.1⟩))] ⟨gA 19 K K, trivial⟩ (.int .i64 ((List.length x332.2.2.2.2.2.1 : Nat) : Int)) (fun _ _ => K) rfl
    ·exact Owe.run K [(28, (.int .i64 (IntKind.wrap .i64 (((List.length x314.2.2.1 : Nat) : Int) + ((List.length x323.2.2.2.1 : Nat) : Int))))), (34, (.int .i64 ((List.length x332.2.2.2.2.2.1 : Nat) : Int)))] ⟨gA 14 K K, gA 20 K K, trivial⟩ (.int .i64 (IntKind.wrap .i64 ((IntKind.wrap .i64 (((List.length x314.2.2.1 : Nat) : Int) + ((List.length x323.2.2.2.1 : Nat) : Int))) + ((List.length x332.2.2.2.2.2.1 : Nat) : Int)))) (fun _ _ => K) rfl
    ·exact Owe.run K [(0, (.slice A2 (List.length p1) c3))] ⟨gS K K, trivial⟩ (.slice A2 (List.length p1) c3) (fun _ _ => K) rfl
    ·exact Owe.run K [(3, (.int .i64 v158))] ⟨gS K K, trivial⟩ (.int .i64 v158) (fun _ _ => K) rfl
    ·refine Owe.light K [0] K (all_cons ?_ all_nil)
     ·rintro ρ' w' hs hah ⟨hvl421, hs420⟩
      have hkn : Known ρ' [(36, (.slice A2 (List.length p1) c3)), (37, (.int .i64 v158))] := ⟨hah 22 36 K, hah 23 37 K, trivial⟩
      refine Step.known _ hkn ?_
      refine Step.elem (e := (ePair (eInt .i64) (ePair (eInt .i64) (ePair eStr (ePair eStr (ePair (eInt .i64) (ePair eStr (ePair (eInt .i64) (ePair eStr eStr))))))))) (l := p1) (A := A2) (c := c3) (T := 22) (E := 33) (x := (.tmp 36)) (ix := (.tmp 37)) (ki := .i64) (iz := v158) (d := (some 38)) (k := 24) K rfl K K K K (RdT.sp hr4 hs420) hp342 hq343 ?_
      intro b422 o423 hA425 hb426 hc424
      exact ⟨rfl, _, updO_known hkn, ⟨b422, o423, hA425, rfl⟩⟩
    ·refine Owe.light K [0] K (all_cons ?_ all_nil)
     ·rintro ρ' w' hs hah ⟨hvl428, hs427⟩
      obtain ⟨b429, o430, hA431, e38⟩ := hah 24 38 K
      have hkn : Known ρ' [(38, (.pointer (some ⟨b429, (o430 + Int.toNat v158 * (ePair (eInt .i64) (ePair (eInt .i64) (ePair eStr (ePair eStr (ePair (eInt .i64) (ePair eStr (ePair (eInt .i64) (ePair eStr eStr)))))))).sz), none⟩)))] := ⟨e38, trivial⟩
      refine Step.known _ hkn ?_
      refine Step.run (k := 25) (v := (.pointer (some ⟨b429, (o430 + Int.toNat v158 * (ePair (eInt .i64) (ePair (eInt .i64) (ePair eStr (ePair eStr (ePair (eInt .i64) (ePair eStr (ePair (eInt .i64) (ePair eStr eStr)))))))).sz + 7), none⟩))) K ?_
      exact ⟨rfl, _, updO_known hkn, ⟨b429, o430, hA431, rfl⟩⟩
    ·refine Owe.light K [0] K (all_cons ?_ all_nil)
     ·rintro ρ' w' hs hah ⟨hvl433, hs432⟩
      obtain ⟨b434, o435, hA436, e39⟩ := hah 25 39 K
      have hkn : Known ρ' [(39, (.pointer (some ⟨b434, (o435 + Int.toNat v158 * (ePair (eInt .i64) (ePair (eInt .i64) (ePair eStr (ePair eStr (ePair (eInt .i64) (ePair eStr (ePair (eInt .i64) (ePair eStr eStr)))))))).sz + 7), none⟩)))] := ⟨e39, trivial⟩
      refine Step.known _ hkn ?_
      refine Step.cell (t := 9) (x := (.tmp 39)) (b := b434) (off := (o435 + Int.toNat v158 * (ePair (eInt .i64) (ePair (eInt .i64) (ePair eStr (ePair eStr (ePair (eInt .i64) (ePair eStr (ePair (eInt .i64) (ePair eStr eStr)))))))).sz + 7)) (v := (.string ⟨List.toArray x341.2.2.2.2.2.2.2.1⟩)) (d := (some 40)) (k := 26) K rfl K K (elem_cell (e := (ePair (eInt .i64) (ePair (eInt .i64) (ePair eStr (ePair eStr (ePair (eInt .i64) (ePair eStr (ePair (eInt .i64) (ePair eStr eStr))))))))) (rdt_cells (RdT.sp hr4 hs432) hA436 hp342 hq343) hx344 (j := 7) rfl) ?_
      exact ⟨rfl, _, updO_known hkn, rfl⟩
    ·exact Owe.run K [(40, (.string ⟨List.toArray x341.2.2.2.2.2.2.2.1⟩))] ⟨gA 26 K K, trivial⟩ (.int .i64 ((List.length x341.2.2.2.2.2.2.2.1 : Nat) : Int)) (fun _ _ => K) rfl
    ·exact Owe.run K [(35, (.int .i64 (IntKind.wrap .i64 ((IntKind.wrap .i64 (((List.length x314.2.2.1 : Nat) : Int) + ((List.length x323.2.2.2.1 : Nat) : Int))) + ((List.length x332.2.2.2.2.2.1 : Nat) : Int))))), (41, (.int .i64 ((List.length x341.2.2.2.2.2.2.2.1 : Nat) : Int)))] ⟨gA 21 K K, gA 27 K K, trivial⟩ (.int .i64 (IntKind.wrap .i64 ((IntKind.wrap .i64 ((IntKind.wrap .i64 (((List.length x314.2.2.1 : Nat) : Int) + ((List.length x323.2.2.2.1 : Nat) : Int))) + ((List.length x332.2.2.2.2.2.1 : Nat) : Int))) + ((List.length x341.2.2.2.2.2.2.2.1 : Nat) : Int)))) (fun _ _ => K) rfl
    ·exact Owe.run K [(0, (.slice A2 (List.length p1) c3))] ⟨gS K K, trivial⟩ (.slice A2 (List.length p1) c3) (fun _ _ => K) rfl
    ·exact Owe.run K [(3, (.int .i64 v158))] ⟨gS K K, trivial⟩ (.int .i64 v158) (fun _ _ => K) rfl
    ·refine Owe.light K [0] K (all_cons ?_ all_nil)
     ·rintro ρ' w' hs hah ⟨hvl438, hs437⟩
      have hkn : Known ρ' [(43, (.slice A2 (List.length p1) c3)), (44, (.int .i64 v158))] := ⟨hah 29 43 K, hah 30 44 K, trivial⟩
      refine Step.known _ hkn ?_
      refine Step.elem (e := (ePair (eInt .i64) (ePair (eInt .i64) (ePair eStr (ePair eStr (ePair (eInt .i64) (ePair eStr (ePair (eInt .i64) (ePair eStr eStr))))))))) (l := p1) (A := A2) (c := c3) (T := 22) (E := 33) (x := (.tmp 43)) (ix := (.tmp 44)) (ki := .i64) (iz := v158) (d := (some 45)) (k := 31) K rfl K K K K (RdT.sp hr4 hs437) hp351 hq352 ?_
      intro b439 o440 hA442 hb443 hc441
      exact ⟨rfl, _, updO_known hkn, ⟨b439, o440, hA442, rfl⟩⟩
    ·refine Owe.light K [0] K (all_cons ?_ all_nil)
     ·rintro ρ' w' hs hah ⟨hvl445, hs444⟩
      obtain ⟨b446, o447, hA448, e45⟩ := hah 31 45 K
      have hkn : Known ρ' [(45, (.pointer (some ⟨b446, (o447 + Int.toNat v158 * (ePair (eInt .i64) (ePair (eInt .i64) (ePair eStr (ePair eStr (ePair (eInt .i64) (ePair eStr (ePair (eInt .i64) (ePair eStr eStr)))))))).sz), none⟩)))] := ⟨e45, trivial⟩
      refine Step.known _ hkn ?_
      refine Step.run (k := 32) (v := (.pointer (some ⟨b446, (o447 + Int.toNat v158 * (ePair (eInt .i64) (ePair (eInt .i64) (ePair eStr (ePair eStr (ePair (eInt .i64) (ePair eStr (ePair (eInt .i64) (ePair eStr eStr)))))))).sz + 8), none⟩))) K ?_
      exact ⟨rfl, _, updO_known hkn, ⟨b446, o447, hA448, rfl⟩⟩
    ·refine Owe.light K [0] K (all_cons ?_ all_nil)
     ·rintro ρ' w' hs hah ⟨hvl450, hs449⟩
      obtain ⟨b451, o452, hA453, e46⟩ := hah 32 46 K
      have hkn : Known ρ' [(46, (.pointer (some ⟨b451, (o452 + Int.toNat v158 * (ePair (eInt .i64) (ePair (eInt .i64) (ePair eStr (ePair eStr (ePair (eInt .i64) (ePair eStr (ePair (eInt .i64) (ePair eStr eStr)))))))).sz + 8), none⟩)))] := ⟨e46, trivial⟩
      refine Step.known _ hkn ?_
      refine Step.cell (t := 9) (x := (.tmp 46)) (b := b451) (off := (o452 + Int.toNat v158 * (ePair (eInt .i64) (ePair (eInt .i64) (ePair eStr (ePair eStr (ePair (eInt .i64) (ePair eStr (ePair (eInt .i64) (ePair eStr eStr)))))))).sz + 8)) (v := (.string ⟨List.toArray x350.2.2.2.2.2.2.2.2⟩)) (d := (some 47)) (k := 33) K rfl K K (elem_cell (e := (ePair (eInt .i64) (ePair (eInt .i64) (ePair eStr (ePair eStr (ePair (eInt .i64) (ePair eStr (ePair (eInt .i64) (ePair eStr eStr))))))))) (rdt_cells (RdT.sp hr4 hs449) hA453 hp351 hq352) hx353 (j := 8) rfl) ?_
      exact ⟨rfl, _, updO_known hkn, rfl⟩
    ·exact Owe.run K [(47, (.string ⟨List.toArray x350.2.2.2.2.2.2.2.2⟩))] ⟨gA 33 K K, trivial⟩ (.int .i64 ((List.length x350.2.2.2.2.2.2.2.2 : Nat) : Int)) (fun _ _ => K) rfl
    ·exact Owe.run K [(42, (.int .i64 (IntKind.wrap .i64 ((IntKind.wrap .i64 ((IntKind.wrap .i64 (((List.length x314.2.2.1 : Nat) : Int) + ((List.length x323.2.2.2.1 : Nat) : Int))) + ((List.length x332.2.2.2.2.2.1 : Nat) : Int))) + ((List.length x341.2.2.2.2.2.2.2.1 : Nat) : Int))))), (48, (.int .i64 ((List.length x350.2.2.2.2.2.2.2.2 : Nat) : Int)))] ⟨gA 28 K K, gA 34 K K, trivial⟩ (.int .i64 (IntKind.wrap .i64 ((IntKind.wrap .i64 ((IntKind.wrap .i64 ((IntKind.wrap .i64 (((List.length x314.2.2.1 : Nat) : Int) + ((List.length x323.2.2.2.1 : Nat) : Int))) + ((List.length x332.2.2.2.2.2.1 : Nat) : Int))) + ((List.length x341.2.2.2.2.2.2.2.1 : Nat) : Int))) + ((List.length x350.2.2.2.2.2.2.2.2 : Nat) : Int)))) (fun _ _ => K) rfl
    ·exact Owe.run K [(49, (.int .i64 (IntKind.wrap .i64 ((IntKind.wrap .i64 ((IntKind.wrap .i64 ((IntKind.wrap .i64 (((List.length x314.2.2.1 : Nat) : Int) + ((List.length x323.2.2.2.1 : Nat) : Int))) + ((List.length x332.2.2.2.2.2.1 : Nat) : Int))) + ((List.length x341.2.2.2.2.2.2.2.1 : Nat) : Int))) + ((List.length x350.2.2.2.2.2.2.2.2 : Nat) : Int)))))] ⟨gA 35 K K, trivial⟩ (.bool (decide ((IntKind.wrap .i64 ((IntKind.wrap .i64 ((IntKind.wrap .i64 ((IntKind.wrap .i64 (((List.length x314.2.2.1 : Nat) : Int) + ((List.length x323.2.2.2.1 : Nat) : Int))) + ((List.length x332.2.2.2.2.2.1 : Nat) : Int))) + ((List.length x341.2.2.2.2.2.2.2.1 : Nat) : Int))) + ((List.length x350.2.2.2.2.2.2.2.2 : Nat) : Int))) > 3000))) (fun _ _ => K) rfl
    ·rintro ρ' w' hs hf ⟨hvl455, hs454⟩
     refine postKnown [(0, (.slice A2 (List.length p1) c3)), (3, (.int .i64 v158)), (50, (.bool (decide ((IntKind.wrap .i64 ((IntKind.wrap .i64 ((IntKind.wrap .i64 ((IntKind.wrap .i64 (((List.length x314.2.2.1 : Nat) : Int) + ((List.length x323.2.2.2.1 : Nat) : Int))) + ((List.length x332.2.2.2.2.2.1 : Nat) : Int))) + ((List.length x341.2.2.2.2.2.2.2.1 : Nat) : Int))) + ((List.length x350.2.2.2.2.2.2.2.2 : Nat) : Int))) > 3000))))] ⟨(hs 0 K).trans K, (hs 3 K).trans K, hf 36 50 K, trivial⟩ ?_
     obtain ⟨w456, hww456⟩ : ∃ x, w' = x := ⟨_, rfl⟩
     rw [hww456] at hs454 ⊢
     refine At.cd K (o := (.tmp 50)) K (b := (decide ((IntKind.wrap .i64 ((IntKind.wrap .i64 ((IntKind.wrap .i64 ((IntKind.wrap .i64 (((List.length x314.2.2.1 : Nat) : Int) + ((List.length x323.2.2.2.1 : Nat) : Int))) + ((List.length x332.2.2.2.2.2.1 : Nat) : Int))) + ((List.length x341.2.2.2.2.2.2.2.1 : Nat) : Int))) + ((List.length x350.2.2.2.2.2.2.2.2 : Nat) : Int))) > 3000))) K (fun hb457 => ?_) (fun hb457 => ?_)
     ·have H := ct H hb457
      refine At.sq K ?_
      refine At.region K K ?_
      refine In.run' 1 (k' := 1) rfl [(2, (.bool true))] K ?_
      refine In.fin K ?_
      refine At.ret K ?_
      refine ⟨(.bool true), K, ?_⟩
      obtain rfl := some_elim H
      exact ⟨rfl, SP.sel hs454 [] rfl rfl⟩
     ·have H := cf H hb457
      refine At.skip K ?_
      refine At.region K K ?_
      refine In.run' 3 (k' := 3) rfl [(12, (.int .i64 v158)), (13, (.int .i64 (IntKind.wrap .i64 (v158 + 1)))), (3, (.int .i64 (IntKind.wrap .i64 (v158 + 1))))] K ?_
      refine In.fin K ?_
      exact ⟨(IntKind.wrap .i64 (v158 + 1)), ⟨K, K, trivial⟩, SP.sel hs454 [] rfl rfl, H⟩
   ·have H := cf H hb313
    refine At.exit K (id := 0) K ?_
    refine At.sq K ?_
    refine At.region K K ?_
    refine In.run' 4 (k' := 4) rfl [(51, (.slice A2 (List.length p1) c3)), (52, (.int .i64 ((List.length p1 : Nat) : Int))), (53, (.bool (decide (((List.length p1 : Nat) : Int) > 200)))), (2, (.bool (decide (((List.length p1 : Nat) : Int) > 200))))] K ?_
    refine In.fin K ?_
    refine At.ret K ?_
    refine ⟨(.bool (decide (((List.length p1 : Nat) : Int) > 200))), K, ?_⟩
    obtain rfl := some_elim H
    exact ⟨rfl, SP.sel hs312 [] rfl rfl⟩
 ·exact ⟨0, ⟨K, K, trivial⟩, SP.sel hs0 [] rfl rfl, H⟩
/-! L_subwaylaw15_shown -/
def L_subwaylaw15_shown_k1 (pAt7 : Int) (pText8 : (List UInt8)) (p10 : (List (List UInt8))) (v19 : Bool) : Option ((List UInt8)) :=
  (cond v19 ((idx p10 pAt7).bind fun x23 => (some (x23))) (some (pText8)))
def L_subwaylaw15_shown (pWhat1 : Int) (pPassVisitor2 : Int) (pPassName3 : (List UInt8)) (pPassTenant4 : (List UInt8)) (pPassEpoch5 : Int) (pDrawn6 : (List UInt8)) (pAt7 : Int) (pText8 : (List UInt8)) (pTenant9 : (List UInt8)) (p10 : (List (List UInt8))) : Option ((List UInt8)) :=
  (cond (decide (pAt7 ≥ 0)) (L_subwaylaw15_shown_k1 pAt7 pText8 p10 (decide (pAt7 < ((List.length p10 : Nat) : Int)))) (L_subwaylaw15_shown_k1 pAt7 pText8 p10 false))
set_option maxRecDepth 100000 in
set_option maxHeartbeats 4000000 in
theorem L_subwaylaw15_shown_walk (A11 : Option Addr) (c12 : Nat) (pWhat1 : Int) (pPassVisitor2 : Int) (pPassName3 : (List UInt8)) (pPassTenant4 : (List UInt8)) (pPassEpoch5 : Int) (pDrawn6 : (List UInt8)) (pAt7 : Int) (pText8 : (List UInt8)) (pTenant9 : (List UInt8)) (p10 : (List (List UInt8))) (w0 : World) (hr13 : RdT eStr w0 A11 c12 p10) (r : ((List UInt8))) (H : L_subwaylaw15_shown pWhat1 pPassVisitor2 pPassName3 pPassTenant4 pPassEpoch5 pDrawn6 pAt7 pText8 pTenant9 p10 = some r) :
  Calls Tryd.prog 14 #[(.agg #[(.int .i64 pWhat1), (.int .i64 pPassVisitor2), (.string ⟨List.toArray pPassName3⟩), (.string ⟨List.toArray pPassTenant4⟩), (.int .i64 pPassEpoch5), (.string ⟨List.toArray pDrawn6⟩), (.int .i64 pAt7), (.string ⟨List.toArray pText8⟩), (.string ⟨List.toArray pTenant9⟩)]), (.slice A11 (List.length p10) c12)] w0 (fun e w' => e = .returned (.string ⟨List.toArray r⟩) ∧ SP [] w0 w' []) := by
 unfold L_subwaylaw15_shown at H
 refine calls_go (n := 22) Tryd.func14 K K K ?_
 have hs0 := SP.start [] w0
 refine At.sq K ?_
 refine At.region K K ?_
 refine In.step (k' := 1) rfl K ?_
 refine Step.box (t := 33) (x := (.tmp 0)) (v := (.agg #[(.int .i64 pWhat1), (.int .i64 pPassVisitor2), (.string ⟨List.toArray pPassName3⟩), (.string ⟨List.toArray pPassTenant4⟩), (.int .i64 pPassEpoch5), (.string ⟨List.toArray pDrawn6⟩), (.int .i64 pAt7), (.string ⟨List.toArray pText8⟩), (.string ⟨List.toArray pTenant9⟩)])) (d := (some 2)) (k := 0) K rfl K hs0 ?_
 intro g14 w15 (hs17 : SP [] w0 w15 [boxE g14 33 #[(.int .i64 pWhat1), (.int .i64 pPassVisitor2), (.string ⟨List.toArray pPassName3⟩), (.string ⟨List.toArray pPassTenant4⟩), (.int .i64 pPassEpoch5), (.string ⟨List.toArray pDrawn6⟩), (.int .i64 pAt7), (.string ⟨List.toArray pText8⟩), (.string ⟨List.toArray pTenant9⟩)]])
 refine In.run' 1 (k' := 2) rfl [(4, (.string ⟨List.toArray ([] : List UInt8)⟩))] K ?_
 refine In.fin K ?_
 refine At.sq K ?_
 refine At.sq K ?_
 refine At.join (fun ρ w => ∃ (v19 : Bool), Known ρ [(1, (.slice A11 (List.length p10) c12)), (2, (pt g14 0)), (14, (.bool v19))] ∧ SP [] w0 w [boxE g14 33 #[(.int .i64 pWhat1), (.int .i64 pPassVisitor2), (.string ⟨List.toArray pPassName3⟩), (.string ⟨List.toArray pPassTenant4⟩), (.int .i64 pPassEpoch5), (.string ⟨List.toArray pDrawn6⟩), (.int .i64 pAt7), (.string ⟨List.toArray pText8⟩), (.string ⟨List.toArray pTenant9⟩)]] ∧ L_subwaylaw15_shown_k1 pAt7 pText8 p10 v19 = some r) ?_ ?_
 ·refine At.region K K ?_
  refine In.run' 1 (k' := 1) rfl [(5, (pt g14 6))] K ?_
  refine In.step (k' := 2) rfl K ?_
  refine Step.load (t := 3) (x := (.tmp 5)) (g := g14) (off := 6) (i := 0) (v := (.int .i64 pAt7)) (d := (some 6)) (k := 1) K rfl K hs17 rfl K ?_
  refine In.run' 2 (k' := 4) rfl [(7, (.bool (decide (pAt7 ≥ 0)))), (8, (.bool (decide (pAt7 ≥ 0))))] K ?_
  refine In.guard (t := 8) (b := (decide (pAt7 ≥ 0))) K (fun hb32 => ?_) (fun hb32 => ?_)
  ·have H := ct H hb32
   refine In.run' 1 (k' := 5) rfl [(9, (pt g14 6))] K ?_
   refine In.step (k' := 6) rfl K ?_
   refine Step.load (t := 3) (x := (.tmp 9)) (g := g14) (off := 6) (i := 0) (v := (.int .i64 pAt7)) (d := (some 10)) (k := 5) K rfl K hs17 rfl K ?_
   refine In.run' 4 (k' := 10) rfl [(11, (.slice A11 (List.length p10) c12)), (12, (.int .i64 ((List.length p10 : Nat) : Int))), (13, (.bool (decide (pAt7 < ((List.length p10 : Nat) : Int))))), (14, (.bool (decide (pAt7 < ((List.length p10 : Nat) : Int)))))] K ?_
   refine In.fin K ?_
   exact ⟨(decide (pAt7 < ((List.length p10 : Nat) : Int))), ⟨K, K, K, trivial⟩, SP.sel hs17 [0] rfl rfl, H⟩
  ·have H := cf H hb32
   refine In.run' 6 (k' := 10) rfl [(9, undef), (10, undef), (11, undef), (12, undef), (13, undef), (14, (.bool false))] K ?_
   refine In.fin K ?_
   exact ⟨false, ⟨K, K, K, trivial⟩, SP.sel hs17 [0] rfl rfl, H⟩
 ·rintro ρ w20 ⟨v19, hk, hs21, H⟩
  unfold L_subwaylaw15_shown_k1 at H
  first | refine At.known [(1, (.slice A11 (List.length p10) c12)), (2, (pt g14 0)), (14, (.bool v19))] hk ?_ | rw [← known_updL (l := [(1, (.slice A11 (List.length p10) c12)), (2, (pt g14 0)), (14, (.bool v19))]) hk]
  refine At.cd K (o := (.tmp 14)) K (b := v19) K (fun hb22 => ?_) (fun hb22 => ?_)
  ·have H := ct H hb22
   refine At.sq K ?_
   refine At.region K K ?_
   refine In.run' 2 (k' := 2) rfl [(15, (.slice A11 (List.length p10) c12)), (16, (pt g14 6))] K ?_
   refine In.step (k' := 3) rfl K ?_
   refine Step.load (t := 3) (x := (.tmp 16)) (g := g14) (off := 6) (i := 0) (v := (.int .i64 pAt7)) (d := (some 17)) (k := 2) K rfl K hs21 rfl K ?_
   obtain ⟨x23, hp24, hq25, hx26, H⟩ := idx_elim H
   refine In.step (k' := 4) rfl K ?_
   refine Step.elem (e := eStr) (l := p10) (A := A11) (c := c12) (T := 29) (E := 9) (x := (.tmp 15)) (ix := (.tmp 17)) (ki := .i64) (iz := pAt7) (d := (some 18)) (k := 3) K rfl K K K K (RdT.sp hr13 hs21) hp24 hq25 ?_
   intro b27 o28 hA30 hb31 hc29
   refine In.step (k' := 5) rfl K ?_
   refine Step.cell (t := 9) (x := (.tmp 18)) (b := b27) (off := (o28 + Int.toNat pAt7 * eStr.sz)) (v := (.string ⟨List.toArray x23⟩)) (d := (some 19)) (k := 4) K rfl K K (elem_cell (e := eStr) (rdt_cells (RdT.sp hr13 hs21) hA30 hp24 hq25) hx26 (j := 0) rfl) ?_
   refine In.run' 1 (k' := 6) rfl [(4, (.string ⟨List.toArray x23⟩))] K ?_
   refine In.fin K ?_
   refine At.ret K ?_
   refine ⟨(.string ⟨List.toArray x23⟩), K, ?_⟩
   obtain rfl := some_elim H
   exact ⟨rfl, SP.sel hs21 [] rfl rfl⟩
  ·have H := cf H hb22
   refine At.skip K ?_
   refine At.sq K ?_
   refine At.region K K ?_
   refine In.run' 1 (k' := 1) rfl [(20, (pt g14 7))] K ?_
   refine In.step (k' := 2) rfl K ?_
   refine Step.load (t := 9) (x := (.tmp 20)) (g := g14) (off := 7) (i := 0) (v := (.string ⟨List.toArray pText8⟩)) (d := (some 21)) (k := 1) K rfl K hs21 rfl K ?_
   refine In.run' 1 (k' := 3) rfl [(4, (.string ⟨List.toArray pText8⟩))] K ?_
   refine In.fin K ?_
   refine At.ret K ?_
   refine ⟨(.string ⟨List.toArray pText8⟩), K, ?_⟩
   obtain rfl := some_elim H
   exact ⟨rfl, SP.sel hs21 [] rfl rfl⟩
end Go.Proofs.YtjllaeceghmjgaaDoor
