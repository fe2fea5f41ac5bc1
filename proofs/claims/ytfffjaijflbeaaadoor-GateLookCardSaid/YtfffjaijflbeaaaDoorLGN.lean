/- LIFTED BY PROGRAM (tools/lift.py): what functions compute, and that they do. -/
import Derived.Test.YtfffjaijflbeaaaDoorGateN
import Derived.Test.YtfffjaijflbeaaaDoorLCF
namespace Go.Proofs.YtfffjaijflbeaaaDoor
set_option linter.unusedSimpArgs false
set_option linter.unusedVariables false
open Go.RowKit

/-! L_gate_New -/
def L_gate_New_b1 (rec1 : (List (List Int)) → Int → Option (Option ((List (List Int))))) (pTenants5 : (List TenantL)) (v514 : (List (List Int))) (v515 : Int) : Option (Option ((List (List Int)))) :=
  (cond (decide (v515 < ((List.length pTenants5 : Nat) : Int))) ((idx pTenants5 v515).bind fun x588 => ((chk ((List.take (Int.toNat v515) pTenants5).all (fun x => !(x.1 == x588.1)))).bind fun _ => (rec1 (v514 ++ [[0, 0, 0]]) (IntKind.wrap .i64 (v515 + 1))))) (some (some (v514))))
def L_gate_New_l1 (pTenants5 : (List TenantL)) : Nat → (List (List Int)) → Int → Option (Option ((List (List Int))))
  | 0, _, _ => none
  | f + 1, v514, v515 => L_gate_New_b1  (L_gate_New_l1 pTenants5 f) pTenants5 v514 v515
def L_gate_New (pWait1 : Int) (pGrace2 : Int) (pIdle3 : Int) (pLease4 : Int) (pTenants5 : (List TenantL)) : Option (Option ((List (List Int)))) :=
  ((L_config_Right pWait1 pGrace2 pIdle3 pLease4 pTenants5).bind fun z337 => (cond (!z337) (some none) (L_gate_New_l1 pTenants5 fuel ([] : List (List Int)) 0)))
set_option maxRecDepth 100000 in
set_option maxHeartbeats 4000000 in
theorem L_gate_New_walk (A6 : Option Addr) (c7 : Nat) (pWait1 : Int) (pGrace2 : Int) (pIdle3 : Int) (pLease4 : Int) (d9 : (List TenantD)) (w0 : World) (hL : LaidW w0) (hr8 : (dDS eTen dTen).ok w0 (A6, c7, d9)) (r : (Option ((List (List Int))))) (H : L_gate_New pWait1 pGrace2 pIdle3 pLease4 (List.map stT d9) = some r) :
  Calls Tryd.prog 12 #[(.agg #[(.int .i64 pWait1), (.int .i64 pGrace2), (.int .i64 pIdle3), (.int .i64 pLease4), (.slice A6 (List.length (List.map stT d9)) c7)])] w0 (fun e w' => match r with | none => e = .returned (.pointer none) ∧ SP [] w0 w' [] | some o => ∃ (g331 : Nat) (F332 : Nat × List Nat), e = .returned (pt g331 0) ∧ SP [] w0 w' [gateE g331 F332 d9 o]) := by
 unfold L_gate_New at H
 refine calls_go (n := 35) Tryd.func12 K K K ?_
 have hs0 := SP.start [] w0
 refine At.sq K ?_
 refine At.region K K ?_
 refine In.step (k' := 1) rfl K ?_
 refine Step.box (t := 24) (x := (.tmp 0)) (v := (.agg #[(.int .i64 pWait1), (.int .i64 pGrace2), (.int .i64 pIdle3), (.int .i64 pLease4), (.slice A6 (List.length (List.map stT d9)) c7)])) (d := (some 1)) (k := 0) K rfl K hs0 ?_
 intro g333 w334 (hs336 : SP [] w0 w334 [boxE g333 24 #[(.int .i64 pWait1), (.int .i64 pGrace2), (.int .i64 pIdle3), (.int .i64 pLease4), (.slice A6 (List.length (List.map stT d9)) c7)]])
 refine In.run' 1 (k' := 2) rfl [(2, (.pointer none))] K ?_
 refine In.fin K ?_
 refine At.sq K ?_
 refine At.sq K ?_
 refine At.region K K ?_
 refine In.step (k' := 1) rfl K ?_
 refine Step.load (t := 24) (x := (.tmp 1)) (g := g333) (off := 0) (i := 0) (v := (.agg #[(.int .i64 pWait1), (.int .i64 pGrace2), (.int .i64 pIdle3), (.int .i64 pLease4), (.slice A6 (List.length (List.map stT d9)) c7)])) (d := (some 6)) (k := 0) K rfl K hs336 rfl K ?_
 obtain ⟨z337, hz338, H⟩ := bind_elim H
 refine In.step (k' := 2) rfl K ?_
 refine Step.callF (f := 23) (fo := (.func 23)) (xs := #[(.tmp 6)]) (tys := #[24]) (first := #[]) (captured := #[]) (d := (some 7)) (k := 1) K rfl K K Tryd.call23 (L_config_Right_walk A6 c7 pWait1 pGrace2 pIdle3 pLease4 d9 w334 (laid_below hL (SP.keeps hs336)) (Dp.sp hr8 hs336) z337 hz338) ?_
 rintro e w339 ⟨rfl, hs340⟩
 refine ⟨_, rfl, ?_⟩
 have hs342 : SP [] w0 w339 [boxE g333 24 #[(.int .i64 pWait1), (.int .i64 pGrace2), (.int .i64 pIdle3), (.int .i64 pLease4), (.slice A6 (List.length (List.map stT d9)) c7)]] := SP.call hs336 hs340
 clear hs340
 refine In.run' 1 (k' := 3) rfl [(8, (.bool (!z337)))] K ?_
 refine In.fin K ?_
 refine At.cd K (o := (.tmp 8)) K (b := (!z337)) K (fun hb343 => ?_) (fun hb343 => ?_)
 ·have H := ct H hb343
  refine At.sq K ?_
  refine At.region K K ?_
  refine In.run' 1 (k' := 1) rfl [(2, (.pointer none))] K ?_
  refine In.fin K ?_
  refine At.ret K ?_
  refine ⟨(.pointer none), K, ?_⟩
  obtain rfl := some_elim H
  exact ⟨rfl, SP.sel hs342 [] rfl rfl⟩
 ·have H := cf H hb343
  refine At.skip K ?_
  refine At.sq K ?_
  refine At.region K K ?_
  refine In.step (k' := 1) rfl K ?_
  refine Step.mkmap (T := 57) (dst := (some 9)) (k := 0) K rfl hs342 ?_
  intro g344 w345 (hs347 : SP [] w0 w345 [boxE g333 24 #[(.int .i64 pWait1), (.int .i64 pGrace2), (.int .i64 pIdle3), (.int .i64 pLease4), (.slice A6 (List.length (List.map stT d9)) c7)], map0E g344])
  refine In.run' 1 (k' := 2) rfl [(10, (.agg #[(.map (some g344))]))] K ?_
  refine In.step (k' := 3) rfl K ?_
  refine Step.box (t := 59) (x := (.tmp 10)) (v := (.agg #[(.map (some g344))])) (d := (some 11)) (k := 2) K rfl K hs347 ?_
  intro g348 w349 (hs351 : SP [] w0 w349 [boxE g333 24 #[(.int .i64 pWait1), (.int .i64 pGrace2), (.int .i64 pIdle3), (.int .i64 pLease4), (.slice A6 (List.length (List.map stT d9)) c7)], map0E g344, boxE g348 59 #[(.map (some g344))]])
  have hs353 : SP [] w0 w349 [boxE g333 24 #[(.int .i64 pWait1), (.int .i64 pGrace2), (.int .i64 pIdle3), (.int .i64 pLease4), (.slice A6 (List.length (List.map stT d9)) c7)], gateE g348 (g344, []) ([] : List TenantD) ([] : List (List Int))] := SP.gmake hs351 (l := [1, 2]) (r := [0]) rfl rfl rfl
  refine In.run' 1 (k' := 4) rfl [(3, (pt g348 0))] K ?_
  refine In.fin K ?_
  refine At.sq K ?_
  refine At.sq K ?_
  refine At.region K K ?_
  refine In.run' 1 (k' := 1) rfl [(12, (pt g333 4))] K ?_
  refine In.step (k' := 2) rfl K ?_
  refine Step.load (t := 22) (x := (.tmp 12)) (g := g333) (off := 4) (i := 0) (v := (.slice A6 (List.length (List.map stT d9)) c7)) (d := (some 13)) (k := 1) K rfl K hs353 rfl K ?_
  refine In.run' 2 (k' := 4) rfl [(14, (.int .i64 ((List.length (List.map stT d9) : Nat) : Int))), (15, (.int .i64 0))] K ?_
  refine In.fin K ?_
  refine At.bk K (id := 0) K ?_
  refine At.lp K (fun f1 ρ w => ∃ (v514 : (List (List Int))) (v515 : Int) (D510 : List TenantD) (F511 : Nat × List Nat), Known ρ [(3, (pt g348 0)), (13, (.slice A6 (List.length (List.map stT d9)) c7)), (14, (.int .i64 ((List.length (List.map stT d9) : Nat) : Int))), (15, (.int .i64 v515))] ∧ SP [] w0 w [gateE g348 F511 D510 v514] ∧ D510 = List.take (Int.toNat v515) d9 ∧ 0 ≤ v515 ∧ L_gate_New_l1 (List.map stT d9) f1 v514 v515 = some r) (by rintro ρ w ⟨v514, v515, D510, F511, hk, hs, hD512, h0513, H⟩; cases H) ?_ fuel ?_
  ·rintro f1 ρ w508 ⟨v514, v515, D510, F511, hk, hs509, hD512, h0513, H⟩
   refine At.known [(3, (pt g348 0)), (13, (.slice A6 (List.length (List.map stT d9)) c7)), (14, (.int .i64 ((List.length (List.map stT d9) : Nat) : Int))), (15, (.int .i64 v515))] hk ?_
   replace H := (show L_gate_New_b1 (L_gate_New_l1 (List.map stT d9) f1) (List.map stT d9) v514 v515 = some r from H)
   unfold L_gate_New_b1 at H
   refine At.sq K ?_
   refine At.region K K ?_
   refine In.run' 1 (k' := 1) rfl [(16, (.bool (decide (v515 < ((List.length (List.map stT d9) : Nat) : Int)))))] K ?_
   refine In.fin K ?_
   refine At.sq K ?_
   refine At.cd K (o := (.tmp 16)) K (b := (decide (v515 < ((List.length (List.map stT d9) : Nat) : Int)))) K (fun hb587 => ?_) (fun hb587 => ?_)
   ·have H := ct H hb587
    refine At.skip K ?_
    refine At.sq K ?_
    refine At.bk K (id := 1) K ?_
    refine At.sq K ?_
    refine At.region K K ?_
    obtain ⟨y592, hp589, hq590, hx591, H⟩ := idxm_elim H
    refine In.step (k' := 1) rfl K ?_
    refine Step.elemM stT (e := eTen) (l := d9) (A := A6) (c := c7) (T := 22) (E := 45) (x := (.tmp 13)) (ix := (.tmp 15)) (ki := .i64) (iz := v515) (d := (some 17)) (k := 0) K rfl K K K K (RdT.sp (ds_rd hr8) hs509) hp589 hq590 ?_
    intro b593 o594 hA596 hb597 hc595
    refine In.step (k' := 2) rfl K ?_
    refine Step.cells (t := 45) (x := (.tmp 17)) (b := b593) (off := (o594 + Int.toNat v515 * eTen.sz)) (xs := [(.string ⟨List.toArray (stT y592).1⟩), (.int .i64 (stT y592).2.1), (.int .i64 (stT y592).2.2.1), (.slice y592.2.2.2.1.1 (List.length (stT y592).2.2.2.1) y592.2.2.2.1.2.1), (.slice y592.2.2.2.2.1 (List.length (stT y592).2.2.2.2) y592.2.2.2.2.2.1)]) (d := (some 18)) (k := 1) K rfl K K K (elem_cells0 (e := eTen) (rdt_cells (RdT.sp (ds_rd hr8) hs509) hA596 hp589 hq590) hx591 rfl) ?_
    refine In.step (k' := 3) rfl K ?_
    refine Step.alloc (t := 45) (z := (.agg #[(.string ⟨List.toArray ([] : List UInt8)⟩), (.int .i64 0), (.int .i64 0), (.slice none (List.length ([] : List (Int × Int))) 0), (.slice none (List.length ([] : List ((List UInt8) × (List UInt8) × Int))) 0)])) (d := (some 5)) (k := 2) K rfl K hs509 ?_
    intro g598 w599 (hs601 : SP [] w0 w599 [gateE g348 F511 D510 v514, boxE g598 45 #[(.string ⟨List.toArray ([] : List UInt8)⟩), (.int .i64 0), (.int .i64 0), (.slice none (List.length ([] : List (Int × Int))) 0), (.slice none (List.length ([] : List ((List UInt8) × (List UInt8) × Int))) 0)]])
    refine In.step (k' := 4) rfl K ?_
    refine Step.store (t := 45) (x := (.tmp 5)) (y := (.tmp 18)) (g := g598) (off := 0) (i := 1) (v := (.agg #[(.string ⟨List.toArray (stT y592).1⟩), (.int .i64 (stT y592).2.1), (.int .i64 (stT y592).2.2.1), (.slice y592.2.2.2.1.1 (List.length (stT y592).2.2.2.1) y592.2.2.2.1.2.1), (.slice y592.2.2.2.2.1 (List.length (stT y592).2.2.2.2) y592.2.2.2.2.2.1)])) (cs' := #[(.string ⟨List.toArray (stT y592).1⟩), (.int .i64 (stT y592).2.1), (.int .i64 (stT y592).2.2.1), (.slice y592.2.2.2.1.1 (List.length (stT y592).2.2.2.1) y592.2.2.2.1.2.1), (.slice y592.2.2.2.2.1 (List.length (stT y592).2.2.2.2) y592.2.2.2.2.2.1)]) (d := none) (k := 3) K rfl K K hs601 rfl K ?_
    intro w602 (hs604 : SP [] w0 w602 [gateE g348 F511 D510 v514, boxE g598 45 #[(.string ⟨List.toArray (stT y592).1⟩), (.int .i64 (stT y592).2.1), (.int .i64 (stT y592).2.2.1), (.slice y592.2.2.2.1.1 (List.length (stT y592).2.2.2.1) y592.2.2.2.1.2.1), (.slice y592.2.2.2.2.1 (List.length (stT y592).2.2.2.2) y592.2.2.2.2.2.1)]])
    refine In.fin K ?_
    obtain ⟨hl609, H⟩ := chk_elim H
    refine At.stages K K K K K [GEq (pt g348 0), GEq (pt g348 0), GEq (pt g348 0), GEq (.map (some F511.1)), GEq (pt g598 0), GEq (.string ⟨List.toArray (stT y592).1⟩), GEq (.agg #[(.string ⟨List.toArray (stT y592).1⟩), (.int .i64 (stT y592).2.1), (.int .i64 (stT y592).2.2.1), (.slice y592.2.2.2.1.1 (List.length (stT y592).2.2.2.1) y592.2.2.2.1.2.1), (.slice y592.2.2.2.2.1 (List.length (stT y592).2.2.2.2) y592.2.2.2.2.2.1)]), GEq (pt g598 1), GEq (.int .i64 (stT y592).2.1), GEq (pt g598 2), GEq (.int .i64 (stT y592).2.2.1), GEq (.agg (cellsOf (eInt .i64) ([0, (stT y592).2.1, (stT y592).2.2.1] : List Int)).toArray), GEq (.agg #[(.string ⟨List.toArray (stT y592).1⟩), (.int .i64 (stT y592).2.1), (.int .i64 (stT y592).2.2.1), (.slice y592.2.2.2.1.1 (List.length (stT y592).2.2.2.1) y592.2.2.2.1.2.1), (.slice y592.2.2.2.2.1 (List.length (stT y592).2.2.2.2) y592.2.2.2.2.2.1), (.int .i64 0), (.int .i64 0), (.int .i64 0), (.int .i64 0), (.int .i64 (stT y592).2.1), (.int .i64 (stT y592).2.2.1)]), GAny, GAny] [13, 14] [([], fun vs w => VL vs [] ∧ SP [] w0 w [gateE g348 F511 D510 v514, boxE g598 45 #[(.string ⟨List.toArray (stT y592).1⟩), (.int .i64 (stT y592).2.1), (.int .i64 (stT y592).2.2.1), (.slice y592.2.2.2.1.1 (List.length (stT y592).2.2.2.1) y592.2.2.2.1.2.1), (.slice y592.2.2.2.2.1 (List.length (stT y592).2.2.2.2) y592.2.2.2.2.2.1)]]), ([13], fun vs w => ∃ (g613 : Nat), VL vs [(pt g613 0)] ∧ SP [] w0 w [gateE g348 F511 D510 v514, boxE g598 45 #[(.string ⟨List.toArray (stT y592).1⟩), (.int .i64 (stT y592).2.1), (.int .i64 (stT y592).2.2.1), (.slice y592.2.2.2.1.1 (List.length (stT y592).2.2.2.1) y592.2.2.2.1.2.1), (.slice y592.2.2.2.2.1 (List.length (stT y592).2.2.2.2) y592.2.2.2.2.2.1)], boxE g613 63 #[(.string ⟨List.toArray (stT y592).1⟩), (.int .i64 (stT y592).2.1), (.int .i64 (stT y592).2.2.1), (.slice y592.2.2.2.1.1 (List.length (stT y592).2.2.2.1) y592.2.2.2.1.2.1), (.slice y592.2.2.2.2.1 (List.length (stT y592).2.2.2.2) y592.2.2.2.2.2.1), (.int .i64 0), (.int .i64 0), (.int .i64 0), (.int .i64 0), (.int .i64 (stT y592).2.1), (.int .i64 (stT y592).2.2.1)]]), ([13, 14], fun vs w => ∃ (g617 : Nat), VL vs [(pt g617 0), undef] ∧ SP [] w0 w [boxE g598 45 #[(.string ⟨List.toArray (stT y592).1⟩), (.int .i64 (stT y592).2.1), (.int .i64 (stT y592).2.2.1), (.slice y592.2.2.2.1.1 (List.length (stT y592).2.2.2.1) y592.2.2.2.1.2.1), (.slice y592.2.2.2.2.1 (List.length (stT y592).2.2.2.2) y592.2.2.2.2.2.1)], gateE g348 (F511.1, F511.2 ++ [g617]) (D510 ++ [y592]) (v514 ++ [[0, 0, 0]])])] (N := 15) K ⟨K, Nat.zero_lt_succ _⟩ (show VL [] [] ∧ SP [] w0 w602.drew [gateE g348 F511 D510 v514, boxE g598 45 #[(.string ⟨List.toArray (stT y592).1⟩), (.int .i64 (stT y592).2.1), (.int .i64 (stT y592).2.2.1), (.slice y592.2.2.2.1.1 (List.length (stT y592).2.2.2.1) y592.2.2.2.1.2.1), (.slice y592.2.2.2.2.1 (List.length (stT y592).2.2.2.2) y592.2.2.2.2.2.1)]] from ⟨trivial, SP.drew hs604⟩) ⟨⟨⟨⟨⟨⟨⟨⟨⟨⟨⟨⟨⟨⟨⟨trivial, ?_⟩, ?_⟩, ?_⟩, ?_⟩, ?_⟩, ?_⟩, ?_⟩, ?_⟩, ?_⟩, ?_⟩, ?_⟩, ?_⟩, ?_⟩, ?_⟩, ?_⟩ (last := 2) K ?_
    ·exact Owe.run K [(3, (pt g348 0))] ⟨gS K K, trivial⟩ (pt g348 0) (fun _ _ => K) rfl
    ·exact Owe.run K [(19, (pt g348 0))] ⟨gA 0 K K, trivial⟩ (pt g348 0) (fun _ _ => K) rfl
    ·exact Owe.run K [(20, (pt g348 0))] ⟨gA 1 K K, trivial⟩ (pt g348 0) (fun _ _ => K) rfl
    ·refine Owe.light K [0, 1] K (all_cons ?_ (all_cons ?_ all_nil))
     ·rintro ρ' w' hs hah ⟨hvl625, hs624⟩
      have hkn : Known ρ' [(21, (pt g348 0))] := ⟨hah 2 21 K, trivial⟩
      refine Step.known _ hkn ?_
      refine Step.gmap (t := 57) (x := (.tmp 21)) (g := g348) (F := F511) (dst := (some 22)) (k := 3) K rfl K K (SP.get hs624 (i := 0) rfl) ?_
      exact ⟨rfl, _, updO_known hkn, rfl⟩
     ·rintro ρ' w' hs hah ⟨g613, ⟨q627, -⟩, hs626⟩
      have hkn : Known ρ' [(21, (pt g348 0))] := ⟨hah 2 21 K, trivial⟩
      refine Step.known _ hkn ?_
      refine Step.gmap (t := 57) (x := (.tmp 21)) (g := g348) (F := F511) (dst := (some 22)) (k := 3) K rfl K K (SP.get hs626 (i := 0) rfl) ?_
      exact ⟨rfl, _, updO_known hkn, rfl⟩
    ·exact Owe.run K [(5, (pt g598 0))] ⟨gS K K, trivial⟩ (pt g598 0) (fun _ _ => K) rfl
    ·refine Owe.light K [0, 1] K (all_cons ?_ (all_cons ?_ all_nil))
     ·rintro ρ' w' hs hah ⟨hvl630, hs629⟩
      have hkn : Known ρ' [(23, (pt g598 0))] := ⟨hah 4 23 K, trivial⟩
      refine Step.known _ hkn ?_
      refine Step.load (t := 9) (x := (.tmp 23)) (g := g598) (off := 0) (i := 1) (v := (.string ⟨List.toArray (stT y592).1⟩)) (d := (some 24)) (k := 5) K rfl K hs629 rfl K ?_
      exact ⟨rfl, _, updO_known hkn, rfl⟩
     ·rintro ρ' w' hs hah ⟨g613, ⟨q632, -⟩, hs631⟩
      have hkn : Known ρ' [(23, (pt g598 0))] := ⟨hah 4 23 K, trivial⟩
      refine Step.known _ hkn ?_
      refine Step.load (t := 9) (x := (.tmp 23)) (g := g598) (off := 0) (i := 1) (v := (.string ⟨List.toArray (stT y592).1⟩)) (d := (some 24)) (k := 5) K rfl K hs631 rfl K ?_
      exact ⟨rfl, _, updO_known hkn, rfl⟩
    ·refine Owe.light K [0] K (all_cons ?_ all_nil)
     ·rintro ρ' w' hs hah ⟨hvl635, hs634⟩
      have hkn : Known ρ' [(5, (pt g598 0))] := ⟨(hs 5 K).trans K, trivial⟩
      refine Step.known _ hkn ?_
      refine Step.load (t := 45) (x := (.tmp 5)) (g := g598) (off := 0) (i := 1) (v := (.agg #[(.string ⟨List.toArray (stT y592).1⟩), (.int .i64 (stT y592).2.1), (.int .i64 (stT y592).2.2.1), (.slice y592.2.2.2.1.1 (List.length (stT y592).2.2.2.1) y592.2.2.2.1.2.1), (.slice y592.2.2.2.2.1 (List.length (stT y592).2.2.2.2) y592.2.2.2.2.2.1)])) (d := (some 25)) (k := 6) K rfl K hs634 rfl K ?_
      exact ⟨rfl, _, updO_known hkn, rfl⟩
    ·exact Owe.run K [(5, (pt g598 0))] ⟨gS K K, trivial⟩ (pt g598 1) (fun _ _ => K) rfl
    ·refine Owe.light K [0] K (all_cons ?_ all_nil)
     ·rintro ρ' w' hs hah ⟨hvl637, hs636⟩
      have hkn : Known ρ' [(26, (pt g598 1))] := ⟨hah 7 26 K, trivial⟩
      refine Step.known _ hkn ?_
      refine Step.load (t := 3) (x := (.tmp 26)) (g := g598) (off := 1) (i := 1) (v := (.int .i64 (stT y592).2.1)) (d := (some 27)) (k := 8) K rfl K hs636 rfl K ?_
      exact ⟨rfl, _, updO_known hkn, rfl⟩
    ·exact Owe.run K [(5, (pt g598 0))] ⟨gS K K, trivial⟩ (pt g598 2) (fun _ _ => K) rfl
    ·refine Owe.light K [0] K (all_cons ?_ all_nil)
     ·rintro ρ' w' hs hah ⟨hvl639, hs638⟩
      have hkn : Known ρ' [(28, (pt g598 2))] := ⟨hah 9 28 K, trivial⟩
      refine Step.known _ hkn ?_
      refine Step.load (t := 3) (x := (.tmp 28)) (g := g598) (off := 2) (i := 1) (v := (.int .i64 (stT y592).2.2.1)) (d := (some 29)) (k := 10) K rfl K hs638 rfl K ?_
      exact ⟨rfl, _, updO_known hkn, rfl⟩
    ·exact Owe.run K [(27, (.int .i64 (stT y592).2.1)), (29, (.int .i64 (stT y592).2.2.1))] ⟨gA 8 K K, gA 10 K K, trivial⟩ (.agg (cellsOf (eInt .i64) ([0, (stT y592).2.1, (stT y592).2.2.1] : List Int)).toArray) (fun _ _ => K) rfl
    ·exact Owe.run K [(25, (.agg #[(.string ⟨List.toArray (stT y592).1⟩), (.int .i64 (stT y592).2.1), (.int .i64 (stT y592).2.2.1), (.slice y592.2.2.2.1.1 (List.length (stT y592).2.2.2.1) y592.2.2.2.1.2.1), (.slice y592.2.2.2.2.1 (List.length (stT y592).2.2.2.2) y592.2.2.2.2.2.1)])), (30, (.agg (cellsOf (eInt .i64) ([0, (stT y592).2.1, (stT y592).2.2.1] : List Int)).toArray))] ⟨gA 6 K K, gA 11 K K, trivial⟩ (.agg #[(.string ⟨List.toArray (stT y592).1⟩), (.int .i64 (stT y592).2.1), (.int .i64 (stT y592).2.2.1), (.slice y592.2.2.2.1.1 (List.length (stT y592).2.2.2.1) y592.2.2.2.1.2.1), (.slice y592.2.2.2.2.1 (List.length (stT y592).2.2.2.2) y592.2.2.2.2.2.1), (.int .i64 0), (.int .i64 0), (.int .i64 0), (.int .i64 0), (.int .i64 (stT y592).2.1), (.int .i64 (stT y592).2.2.1)]) (fun _ _ => K) rfl
    ·refine Owe.heavy K [(0, 1)] K (all_cons ⟨K, K, ?_⟩ all_nil)
     ·rintro ρ' w' hs hah ⟨hvl641, hs640⟩
      have hkn : Known ρ' [(31, (.agg #[(.string ⟨List.toArray (stT y592).1⟩), (.int .i64 (stT y592).2.1), (.int .i64 (stT y592).2.2.1), (.slice y592.2.2.2.1.1 (List.length (stT y592).2.2.2.1) y592.2.2.2.1.2.1), (.slice y592.2.2.2.2.1 (List.length (stT y592).2.2.2.2) y592.2.2.2.2.2.1), (.int .i64 0), (.int .i64 0), (.int .i64 0), (.int .i64 0), (.int .i64 (stT y592).2.1), (.int .i64 (stT y592).2.2.1)]))] := ⟨hah 12 31 K, trivial⟩
      refine Step.known _ hkn ?_
      refine Step.box (t := 63) (x := (.tmp 31)) (v := (.agg #[(.string ⟨List.toArray (stT y592).1⟩), (.int .i64 (stT y592).2.1), (.int .i64 (stT y592).2.2.1), (.slice y592.2.2.2.1.1 (List.length (stT y592).2.2.2.1) y592.2.2.2.1.2.1), (.slice y592.2.2.2.2.1 (List.length (stT y592).2.2.2.2) y592.2.2.2.2.2.1), (.int .i64 0), (.int .i64 0), (.int .i64 0), (.int .i64 0), (.int .i64 (stT y592).2.1), (.int .i64 (stT y592).2.2.1)])) (d := (some 32)) (k := 13) K rfl K hs640 ?_
      intro g642 w643 (hs645 : SP [] w0 w643 [gateE g348 F511 D510 v514, boxE g598 45 #[(.string ⟨List.toArray (stT y592).1⟩), (.int .i64 (stT y592).2.1), (.int .i64 (stT y592).2.2.1), (.slice y592.2.2.2.1.1 (List.length (stT y592).2.2.2.1) y592.2.2.2.1.2.1), (.slice y592.2.2.2.2.1 (List.length (stT y592).2.2.2.2) y592.2.2.2.2.2.1)], boxE g642 63 #[(.string ⟨List.toArray (stT y592).1⟩), (.int .i64 (stT y592).2.1), (.int .i64 (stT y592).2.2.1), (.slice y592.2.2.2.1.1 (List.length (stT y592).2.2.2.1) y592.2.2.2.1.2.1), (.slice y592.2.2.2.2.1 (List.length (stT y592).2.2.2.2) y592.2.2.2.2.2.1), (.int .i64 0), (.int .i64 0), (.int .i64 0), (.int .i64 0), (.int .i64 (stT y592).2.1), (.int .i64 (stT y592).2.2.1)]])
      refine ⟨_, updO_known hkn, trivial, ?_⟩
      exact (Exists.intro g642 (And.intro (And.intro rfl (trivial)) (hs645)))
    ·refine Owe.heavy K [(1, 2)] K (all_cons ⟨K, K, ?_⟩ all_nil)
     ·rintro ρ' w' hs hah ⟨g613, ⟨q647, -⟩, hs646⟩
      have hkn : Known ρ' [(22, (.map (some F511.1))), (24, (.string ⟨List.toArray (stT y592).1⟩)), (32, (pt g613 0))] := ⟨hah 3 22 K, hah 5 24 K, (valF_eq (h := 13) K).symm.trans q647, trivial⟩
      refine Step.known _ hkn ?_
      refine Step.gput (T := 57) (kt := 9) (et := 60) (x := (.tmp 22)) (ix := (.tmp 24)) (yo := (.tmp 32)) (yd := y592) (b := g613) (F := F511) (l := [0, 2]) (r := [1]) (dst := none) (k := 14) K rfl K K K K K hs646 rfl rfl (by rw [hD512, List.map_take]; exact hl609) ?_
      intro w649 (hs651 : SP [] w0 w649 [boxE g598 45 #[(.string ⟨List.toArray (stT y592).1⟩), (.int .i64 (stT y592).2.1), (.int .i64 (stT y592).2.2.1), (.slice y592.2.2.2.1.1 (List.length (stT y592).2.2.2.1) y592.2.2.2.1.2.1), (.slice y592.2.2.2.2.1 (List.length (stT y592).2.2.2.2) y592.2.2.2.2.2.1)], gateE g348 (F511.1, F511.2 ++ [g613]) (D510 ++ [y592]) (v514 ++ [[0, 0, 0]])])
      refine ⟨_, updO_known hkn, trivial, ?_⟩
      exact (Exists.intro g613 (And.intro (And.intro q647 (And.intro rfl (trivial))) (hs651)))
    ·rintro ρ' w' hs hf ⟨g617, ⟨q653, q654, -⟩, hs652⟩
     refine postKnown [(3, (pt g348 0)), (13, (.slice A6 (List.length (List.map stT d9)) c7)), (14, (.int .i64 ((List.length (List.map stT d9) : Nat) : Int))), (15, (.int .i64 v515))] ⟨(hs 3 K).trans K, (hs 13 K).trans K, (hs 14 K).trans K, (hs 15 K).trans K, trivial⟩ ?_
     obtain ⟨w656, hww656⟩ : ∃ x, w' = x := ⟨_, rfl⟩
     rw [hww656] at hs652 ⊢
     refine At.region K K ?_
     refine In.run' 2 (k' := 2) rfl [(33, (.int .i64 (IntKind.wrap .i64 (v515 + 1)))), (15, (.int .i64 (IntKind.wrap .i64 (v515 + 1))))] K ?_
     refine In.fin K ?_
     exact ⟨(v514 ++ [[0, 0, 0]]), (IntKind.wrap .i64 (v515 + 1)), (D510 ++ [y592]), (F511.1, F511.2 ++ [g617]), ⟨K, K, K, K, trivial⟩, SP.sel hs652 [1] rfl rfl, (take_step hD512 hp589 hq590 (RdT.max (ds_rd hr8)) hx591), (next_nn hp589 hq590 (RdT.max (ds_rd hr8))), H⟩
   ·have H := cf H hb587
    refine At.exit K (id := 0) K ?_
    refine At.sq K ?_
    refine At.region K K ?_
    refine In.run' 2 (k' := 2) rfl [(34, (pt g348 0)), (2, (pt g348 0))] K ?_
    refine In.fin K ?_
    refine At.ret K ?_
    have hs657 : SP [] w0 w508 [gateE g348 F511 d9 v514] := by rw [← take_all hD512 hb587 h0513]; exact hs509
    refine ⟨(pt g348 0), K, ?_⟩
    obtain rfl := some_elim H
    exact ⟨g348, F511, rfl, SP.sel hs657 [0] rfl rfl⟩
  ·exact ⟨([] : List (List Int)), 0, ([] : List TenantD), (g344, []), ⟨K, K, K, K, trivial⟩, SP.sel hs353 [1] rfl rfl, rfl, (Int.le_refl 0), H⟩
end Go.Proofs.YtfffjaijflbeaaaDoor
