/- LIFTED BY PROGRAM (tools/lift.py): what functions compute, and that they do. -/
import Derived.Test.YtfffjaijflbeaaaDoorLRF
import Derived.Test.YtfffjaijflbeaaaDoorArr
namespace Go.Proofs.YtfffjaijflbeaaaDoor
set_option linter.unusedSimpArgs false
set_option linter.unusedVariables false
open Go.RowKit

/-! L_subwayref11_New -/
def L_subwayref11_New (pWait1 : Int) (pGrace2 : Int) (pIdle3 : Int) (pLease4 : Int) (pTenants5 : (List TenantL)) : Option (Option (Int × Int × Int × Int × (List Int) × (List Int))) :=
  ((L_subwayref09_Right pWait1 pGrace2 pIdle3 pLease4 pTenants5).bind fun z185 => (cond (!z185) (some none) ((chk (decide (0 ≤ ((List.length pTenants5 : Nat) : Int) ∧ ((List.length pTenants5 : Nat) : Int) ≤ 2147483648))).bind fun _ => ((some (List.replicate (Int.toNat ((List.length pTenants5 : Nat) : Int)) (0 : Int))).bind fun l192 => ((chk (decide (0 ≤ ((List.length pTenants5 : Nat) : Int) ∧ ((List.length pTenants5 : Nat) : Int) ≤ 2147483648))).bind fun _ => ((some (List.replicate (Int.toNat ((List.length pTenants5 : Nat) : Int)) (0 : Int))).bind fun l199 => (some (some (pWait1, pGrace2, pIdle3, pLease4, l192, l199)))))))))
set_option maxRecDepth 100000 in
set_option maxHeartbeats 4000000 in
theorem L_subwayref11_New_walk (A6 : Option Addr) (c7 : Nat) (pWait1 : Int) (pGrace2 : Int) (pIdle3 : Int) (pLease4 : Int) (d9 : (List TenantD)) (w0 : World) (hr8 : (dDS eTen dTen).ok w0 (A6, c7, d9)) (r : (Option (Int × Int × Int × Int × (List Int) × (List Int)))) (H : L_subwayref11_New pWait1 pGrace2 pIdle3 pLease4 (List.map stT d9) = some r) :
  Calls Tryd.prog 13 #[(.agg #[(.int .i64 pWait1), (.int .i64 pGrace2), (.int .i64 pIdle3), (.int .i64 pLease4), (.slice A6 (List.length (List.map stT d9)) c7)])] w0 (fun e w' => match r with | none => e = .returned (.pointer none) ∧ SP [] w0 w' [] | some o => ∃ (g176 : Nat) (A177 : Option Addr) (c178 : Nat) (A179 : Option Addr) (c180 : Nat), e = .returned (pt g176 0) ∧ SP [] w0 w' [boxE g176 66 #[(.int .i64 o.1), (.int .i64 o.2.1), (.int .i64 o.2.2.1), (.int .i64 o.2.2.2.1), (.slice A6 (List.length (List.map stT d9)) c7), (.slice A177 (List.length o.2.2.2.2.1) c178), (.slice A179 (List.length o.2.2.2.2.2) c180)], rowT 3 (eInt .i64) A177 c178 o.2.2.2.2.1, rowT 3 (eInt .i64) A179 c180 o.2.2.2.2.2]) := by
 unfold L_subwayref11_New at H
 refine calls_go (n := 17) Tryd.func13 K K K ?_
 have hs0 := SP.start [] w0
 refine At.sq K ?_
 refine At.region K K ?_
 refine In.step (k' := 1) rfl K ?_
 refine Step.box (t := 24) (x := (.tmp 0)) (v := (.agg #[(.int .i64 pWait1), (.int .i64 pGrace2), (.int .i64 pIdle3), (.int .i64 pLease4), (.slice A6 (List.length (List.map stT d9)) c7)])) (d := (some 1)) (k := 0) K rfl K hs0 ?_
 intro g181 w182 (hs184 : SP [] w0 w182 [boxE g181 24 #[(.int .i64 pWait1), (.int .i64 pGrace2), (.int .i64 pIdle3), (.int .i64 pLease4), (.slice A6 (List.length (List.map stT d9)) c7)]])
 refine In.run' 1 (k' := 2) rfl [(2, (.pointer none))] K ?_
 refine In.fin K ?_
 refine At.sq K ?_
 refine At.sq K ?_
 refine At.region K K ?_
 refine In.step (k' := 1) rfl K ?_
 refine Step.load (t := 24) (x := (.tmp 1)) (g := g181) (off := 0) (i := 0) (v := (.agg #[(.int .i64 pWait1), (.int .i64 pGrace2), (.int .i64 pIdle3), (.int .i64 pLease4), (.slice A6 (List.length (List.map stT d9)) c7)])) (d := (some 3)) (k := 0) K rfl K hs184 rfl K ?_
 obtain ⟨z185, hz186, H⟩ := bind_elim H
 refine In.step (k' := 2) rfl K ?_
 refine Step.callF (f := 24) (fo := (.func 24)) (xs := #[(.tmp 3)]) (tys := #[24]) (first := #[]) (captured := #[]) (d := (some 4)) (k := 1) K rfl K K Tryd.call24 (L_subwayref09_Right_walk A6 c7 pWait1 pGrace2 pIdle3 pLease4 d9 w182 (Dp.sp hr8 hs184) z185 hz186) ?_
 rintro e w187 ⟨rfl, hs188⟩
 refine ⟨_, rfl, ?_⟩
 have hs190 : SP [] w0 w187 [boxE g181 24 #[(.int .i64 pWait1), (.int .i64 pGrace2), (.int .i64 pIdle3), (.int .i64 pLease4), (.slice A6 (List.length (List.map stT d9)) c7)]] := SP.call hs184 hs188
 clear hs188
 refine In.run' 1 (k' := 3) rfl [(5, (.bool (!z185)))] K ?_
 refine In.fin K ?_
 refine At.cd K (o := (.tmp 5)) K (b := (!z185)) K (fun hb191 => ?_) (fun hb191 => ?_)
 ·have H := ct H hb191
  refine At.sq K ?_
  refine At.region K K ?_
  refine In.run' 1 (k' := 1) rfl [(2, (.pointer none))] K ?_
  refine In.fin K ?_
  refine At.ret K ?_
  refine ⟨(.pointer none), K, ?_⟩
  obtain rfl := some_elim H
  exact ⟨rfl, SP.sel hs190 [] rfl rfl⟩
 ·have H := cf H hb191
  refine At.skip K ?_
  refine At.sq K ?_
  obtain ⟨hl193, H⟩ := chk_elim H
  obtain ⟨l192, hyl192, H⟩ := some_bind_ex H
  obtain ⟨hl200, H⟩ := chk_elim H
  obtain ⟨l199, hyl199, H⟩ := some_bind_ex H
  refine At.stages K K K K K [GEq (.agg #[(.int .i64 pWait1), (.int .i64 pGrace2), (.int .i64 pIdle3), (.int .i64 pLease4), (.slice A6 (List.length (List.map stT d9)) c7)]), GEq (pt g181 4), GEq (.slice A6 (List.length (List.map stT d9)) c7), GEq (.int .i64 ((List.length (List.map stT d9) : Nat) : Int)), GAny, GEq (pt g181 4), GEq (.slice A6 (List.length (List.map stT d9)) c7), GEq (.int .i64 ((List.length (List.map stT d9) : Nat) : Int)), GAny, GAny, GAny, GAny] [4, 8, 9, 10, 11] [([], fun vs w => VL vs [] ∧ SP [] w0 w [boxE g181 24 #[(.int .i64 pWait1), (.int .i64 pGrace2), (.int .i64 pIdle3), (.int .i64 pLease4), (.slice A6 (List.length (List.map stT d9)) c7)]]), ([4], fun vs w => ∃ (g210 : Nat), VL vs [(.slice (some ⟨g210, 0, none⟩) (List.length l192) (Int.toNat ((List.length (List.map stT d9) : Nat) : Int)))] ∧ SP [] w0 w [boxE g181 24 #[(.int .i64 pWait1), (.int .i64 pGrace2), (.int .i64 pIdle3), (.int .i64 pLease4), (.slice A6 (List.length (List.map stT d9)) c7)], rowT 3 (eInt .i64) (some ⟨g210, 0, none⟩) (Int.toNat ((List.length (List.map stT d9) : Nat) : Int)) l192]), ([8], fun vs w => ∃ (g215 : Nat), VL vs [(.slice (some ⟨g215, 0, none⟩) (List.length l199) (Int.toNat ((List.length (List.map stT d9) : Nat) : Int)))] ∧ SP [] w0 w [boxE g181 24 #[(.int .i64 pWait1), (.int .i64 pGrace2), (.int .i64 pIdle3), (.int .i64 pLease4), (.slice A6 (List.length (List.map stT d9)) c7)], rowT 3 (eInt .i64) (some ⟨g215, 0, none⟩) (Int.toNat ((List.length (List.map stT d9) : Nat) : Int)) l199]), ([4, 8], fun vs w => ∃ (g220 : Nat), ∃ (g225 : Nat), VL vs [(.slice (some ⟨g220, 0, none⟩) (List.length l192) (Int.toNat ((List.length (List.map stT d9) : Nat) : Int))), (.slice (some ⟨g225, 0, none⟩) (List.length l199) (Int.toNat ((List.length (List.map stT d9) : Nat) : Int)))] ∧ SP [] w0 w [boxE g181 24 #[(.int .i64 pWait1), (.int .i64 pGrace2), (.int .i64 pIdle3), (.int .i64 pLease4), (.slice A6 (List.length (List.map stT d9)) c7)], rowT 3 (eInt .i64) (some ⟨g220, 0, none⟩) (Int.toNat ((List.length (List.map stT d9) : Nat) : Int)) l192, rowT 3 (eInt .i64) (some ⟨g225, 0, none⟩) (Int.toNat ((List.length (List.map stT d9) : Nat) : Int)) l199]), ([4, 8, 9], fun vs w => ∃ (g230 : Nat), ∃ (g235 : Nat), VL vs [(.slice (some ⟨g230, 0, none⟩) (List.length l192) (Int.toNat ((List.length (List.map stT d9) : Nat) : Int))), (.slice (some ⟨g235, 0, none⟩) (List.length l199) (Int.toNat ((List.length (List.map stT d9) : Nat) : Int))), (.agg #[(.int .i64 pWait1), (.int .i64 pGrace2), (.int .i64 pIdle3), (.int .i64 pLease4), (.slice A6 (List.length (List.map stT d9)) c7), (.slice (some ⟨g230, 0, none⟩) (List.length l192) (Int.toNat ((List.length (List.map stT d9) : Nat) : Int))), (.slice (some ⟨g235, 0, none⟩) (List.length l199) (Int.toNat ((List.length (List.map stT d9) : Nat) : Int)))])] ∧ SP [] w0 w [boxE g181 24 #[(.int .i64 pWait1), (.int .i64 pGrace2), (.int .i64 pIdle3), (.int .i64 pLease4), (.slice A6 (List.length (List.map stT d9)) c7)], rowT 3 (eInt .i64) (some ⟨g230, 0, none⟩) (Int.toNat ((List.length (List.map stT d9) : Nat) : Int)) l192, rowT 3 (eInt .i64) (some ⟨g235, 0, none⟩) (Int.toNat ((List.length (List.map stT d9) : Nat) : Int)) l199]), ([4, 8, 9, 10], fun vs w => ∃ (g240 : Nat), ∃ (g245 : Nat), ∃ (g250 : Nat), VL vs [(.slice (some ⟨g240, 0, none⟩) (List.length l192) (Int.toNat ((List.length (List.map stT d9) : Nat) : Int))), (.slice (some ⟨g245, 0, none⟩) (List.length l199) (Int.toNat ((List.length (List.map stT d9) : Nat) : Int))), (.agg #[(.int .i64 pWait1), (.int .i64 pGrace2), (.int .i64 pIdle3), (.int .i64 pLease4), (.slice A6 (List.length (List.map stT d9)) c7), (.slice (some ⟨g240, 0, none⟩) (List.length l192) (Int.toNat ((List.length (List.map stT d9) : Nat) : Int))), (.slice (some ⟨g245, 0, none⟩) (List.length l199) (Int.toNat ((List.length (List.map stT d9) : Nat) : Int)))]), (pt g250 0)] ∧ SP [] w0 w [boxE g181 24 #[(.int .i64 pWait1), (.int .i64 pGrace2), (.int .i64 pIdle3), (.int .i64 pLease4), (.slice A6 (List.length (List.map stT d9)) c7)], rowT 3 (eInt .i64) (some ⟨g240, 0, none⟩) (Int.toNat ((List.length (List.map stT d9) : Nat) : Int)) l192, rowT 3 (eInt .i64) (some ⟨g245, 0, none⟩) (Int.toNat ((List.length (List.map stT d9) : Nat) : Int)) l199, boxE g250 66 #[(.int .i64 pWait1), (.int .i64 pGrace2), (.int .i64 pIdle3), (.int .i64 pLease4), (.slice A6 (List.length (List.map stT d9)) c7), (.slice (some ⟨g240, 0, none⟩) (List.length l192) (Int.toNat ((List.length (List.map stT d9) : Nat) : Int))), (.slice (some ⟨g245, 0, none⟩) (List.length l199) (Int.toNat ((List.length (List.map stT d9) : Nat) : Int)))]]), ([4, 8, 9, 10, 11], fun vs w => ∃ (g254 : Nat), ∃ (g259 : Nat), ∃ (g264 : Nat), VL vs [(.slice (some ⟨g254, 0, none⟩) (List.length l192) (Int.toNat ((List.length (List.map stT d9) : Nat) : Int))), (.slice (some ⟨g259, 0, none⟩) (List.length l199) (Int.toNat ((List.length (List.map stT d9) : Nat) : Int))), (.agg #[(.int .i64 pWait1), (.int .i64 pGrace2), (.int .i64 pIdle3), (.int .i64 pLease4), (.slice A6 (List.length (List.map stT d9)) c7), (.slice (some ⟨g254, 0, none⟩) (List.length l192) (Int.toNat ((List.length (List.map stT d9) : Nat) : Int))), (.slice (some ⟨g259, 0, none⟩) (List.length l199) (Int.toNat ((List.length (List.map stT d9) : Nat) : Int)))]), (pt g264 0), (pt g264 0)] ∧ SP [] w0 w [boxE g181 24 #[(.int .i64 pWait1), (.int .i64 pGrace2), (.int .i64 pIdle3), (.int .i64 pLease4), (.slice A6 (List.length (List.map stT d9)) c7)], rowT 3 (eInt .i64) (some ⟨g254, 0, none⟩) (Int.toNat ((List.length (List.map stT d9) : Nat) : Int)) l192, rowT 3 (eInt .i64) (some ⟨g259, 0, none⟩) (Int.toNat ((List.length (List.map stT d9) : Nat) : Int)) l199, boxE g264 66 #[(.int .i64 pWait1), (.int .i64 pGrace2), (.int .i64 pIdle3), (.int .i64 pLease4), (.slice A6 (List.length (List.map stT d9)) c7), (.slice (some ⟨g254, 0, none⟩) (List.length l192) (Int.toNat ((List.length (List.map stT d9) : Nat) : Int))), (.slice (some ⟨g259, 0, none⟩) (List.length l199) (Int.toNat ((List.length (List.map stT d9) : Nat) : Int)))]])] (N := 12) K ⟨K, Nat.zero_lt_succ _⟩ (show VL [] [] ∧ SP [] w0 w187.drew [boxE g181 24 #[(.int .i64 pWait1), (.int .i64 pGrace2), (.int .i64 pIdle3), (.int .i64 pLease4), (.slice A6 (List.length (List.map stT d9)) c7)]] from ⟨trivial, SP.drew hs190⟩) ⟨⟨⟨⟨⟨⟨⟨⟨⟨⟨⟨⟨trivial, ?_⟩, ?_⟩, ?_⟩, ?_⟩, ?_⟩, ?_⟩, ?_⟩, ?_⟩, ?_⟩, ?_⟩, ?_⟩, ?_⟩ (last := 6) K ?_
  ·refine Owe.light K [0, 1, 2, 3] K (all_cons ?_ (all_cons ?_ (all_cons ?_ (all_cons ?_ all_nil))))
   ·rintro ρ' w' hs hah ⟨hvl269, hs268⟩
    have hkn : Known ρ' [(1, (pt g181 0))] := ⟨(hs 1 K).trans K, trivial⟩
    refine Step.known _ hkn ?_
    refine Step.load (t := 24) (x := (.tmp 1)) (g := g181) (off := 0) (i := 0) (v := (.agg #[(.int .i64 pWait1), (.int .i64 pGrace2), (.int .i64 pIdle3), (.int .i64 pLease4), (.slice A6 (List.length (List.map stT d9)) c7)])) (d := (some 6)) (k := 0) K rfl K hs268 rfl K ?_
    exact ⟨rfl, _, updO_known hkn, rfl⟩
   ·rintro ρ' w' hs hah ⟨g210, ⟨q271, -⟩, hs270⟩
    have hkn : Known ρ' [(1, (pt g181 0))] := ⟨(hs 1 K).trans K, trivial⟩
    refine Step.known _ hkn ?_
    refine Step.load (t := 24) (x := (.tmp 1)) (g := g181) (off := 0) (i := 0) (v := (.agg #[(.int .i64 pWait1), (.int .i64 pGrace2), (.int .i64 pIdle3), (.int .i64 pLease4), (.slice A6 (List.length (List.map stT d9)) c7)])) (d := (some 6)) (k := 0) K rfl K hs270 rfl K ?_
    exact ⟨rfl, _, updO_known hkn, rfl⟩
   ·rintro ρ' w' hs hah ⟨g215, ⟨q274, -⟩, hs273⟩
    have hkn : Known ρ' [(1, (pt g181 0))] := ⟨(hs 1 K).trans K, trivial⟩
    refine Step.known _ hkn ?_
    refine Step.load (t := 24) (x := (.tmp 1)) (g := g181) (off := 0) (i := 0) (v := (.agg #[(.int .i64 pWait1), (.int .i64 pGrace2), (.int .i64 pIdle3), (.int .i64 pLease4), (.slice A6 (List.length (List.map stT d9)) c7)])) (d := (some 6)) (k := 0) K rfl K hs273 rfl K ?_
    exact ⟨rfl, _, updO_known hkn, rfl⟩
   ·rintro ρ' w' hs hah ⟨g220, g225, ⟨q277, q278, -⟩, hs276⟩
    have hkn : Known ρ' [(1, (pt g181 0))] := ⟨(hs 1 K).trans K, trivial⟩
    refine Step.known _ hkn ?_
    refine Step.load (t := 24) (x := (.tmp 1)) (g := g181) (off := 0) (i := 0) (v := (.agg #[(.int .i64 pWait1), (.int .i64 pGrace2), (.int .i64 pIdle3), (.int .i64 pLease4), (.slice A6 (List.length (List.map stT d9)) c7)])) (d := (some 6)) (k := 0) K rfl K hs276 rfl K ?_
    exact ⟨rfl, _, updO_known hkn, rfl⟩
  ·exact Owe.run K [(1, (pt g181 0))] ⟨gS K K, trivial⟩ (pt g181 4) (fun _ _ => K) rfl
  ·refine Owe.light K [0, 2] K (all_cons ?_ (all_cons ?_ all_nil))
   ·rintro ρ' w' hs hah ⟨hvl281, hs280⟩
    have hkn : Known ρ' [(7, (pt g181 4))] := ⟨hah 1 7 K, trivial⟩
    refine Step.known _ hkn ?_
    refine Step.load (t := 22) (x := (.tmp 7)) (g := g181) (off := 4) (i := 0) (v := (.slice A6 (List.length (List.map stT d9)) c7)) (d := (some 8)) (k := 2) K rfl K hs280 rfl K ?_
    exact ⟨rfl, _, updO_known hkn, rfl⟩
   ·rintro ρ' w' hs hah ⟨g215, ⟨q283, -⟩, hs282⟩
    have hkn : Known ρ' [(7, (pt g181 4))] := ⟨hah 1 7 K, trivial⟩
    refine Step.known _ hkn ?_
    refine Step.load (t := 22) (x := (.tmp 7)) (g := g181) (off := 4) (i := 0) (v := (.slice A6 (List.length (List.map stT d9)) c7)) (d := (some 8)) (k := 2) K rfl K hs282 rfl K ?_
    exact ⟨rfl, _, updO_known hkn, rfl⟩
  ·exact Owe.run K [(8, (.slice A6 (List.length (List.map stT d9)) c7))] ⟨gA 2 K K, trivial⟩ (.int .i64 ((List.length (List.map stT d9) : Nat) : Int)) (fun _ _ => K) rfl
  ·refine Owe.heavy K [(0, 1), (2, 3)] K (all_cons ⟨K, K, ?_⟩ (all_cons ⟨K, K, ?_⟩ all_nil))
   ·rintro ρ' w' hs hah ⟨hvl286, hs285⟩
    have hkn : Known ρ' [(9, (.int .i64 ((List.length (List.map stT d9) : Nat) : Int)))] := ⟨hah 3 9 K, trivial⟩
    refine Step.known _ hkn ?_
    refine Step.make (e := (eInt .i64)) (l' := l192) (z := 0) (v := (.int .i64 0)) (b := 8) (T := 64) (E := 3) (x := (.tmp 9)) (y := (.tmp 9)) (k1 := .i64) (k2 := .i64) (iz := ((List.length (List.map stT d9) : Nat) : Int)) (d := (some 10)) (k := 4) K rfl K K K K K rfl rfl rfl hl193 hs285 hyl192 ?_
    intro g287 w288 hs289 hn290
    have hs291 : SP [] w0 w288 [boxE g181 24 #[(.int .i64 pWait1), (.int .i64 pGrace2), (.int .i64 pIdle3), (.int .i64 pLease4), (.slice A6 (List.length (List.map stT d9)) c7)], rowT 3 (eInt .i64) (some ⟨g287, 0, none⟩) (Int.toNat ((List.length (List.map stT d9) : Nat) : Int)) l192] := hs289
    clear hs289
    refine ⟨_, updO_known hkn, trivial, ?_⟩
    exact (Exists.intro g287 (And.intro (And.intro rfl (trivial)) (hs291)))
   ·rintro ρ' w' hs hah ⟨g215, ⟨q293, -⟩, hs292⟩
    have hkn : Known ρ' [(9, (.int .i64 ((List.length (List.map stT d9) : Nat) : Int)))] := ⟨hah 3 9 K, trivial⟩
    refine Step.known _ hkn ?_
    refine Step.make (e := (eInt .i64)) (l' := l192) (z := 0) (v := (.int .i64 0)) (b := 8) (T := 64) (E := 3) (x := (.tmp 9)) (y := (.tmp 9)) (k1 := .i64) (k2 := .i64) (iz := ((List.length (List.map stT d9) : Nat) : Int)) (d := (some 10)) (k := 4) K rfl K K K K K rfl rfl rfl hl193 hs292 hyl192 ?_
    intro g295 w296 hs297 hn298
    have hs299 : SP [] w0 w296 [boxE g181 24 #[(.int .i64 pWait1), (.int .i64 pGrace2), (.int .i64 pIdle3), (.int .i64 pLease4), (.slice A6 (List.length (List.map stT d9)) c7)], rowT 3 (eInt .i64) (some ⟨g215, 0, none⟩) (Int.toNat ((List.length (List.map stT d9) : Nat) : Int)) l199, rowT 3 (eInt .i64) (some ⟨g295, 0, none⟩) (Int.toNat ((List.length (List.map stT d9) : Nat) : Int)) l192] := hs297
    clear hs297
    refine ⟨_, updO_known hkn, trivial, ?_⟩
    exact (Exists.intro g295 (Exists.intro g215 (And.intro (And.intro rfl (And.intro q293 (trivial))) (SP.sel hs299 [0, 2, 1] rfl rfl))))
  ·exact Owe.run K [(1, (pt g181 0))] ⟨gS K K, trivial⟩ (pt g181 4) (fun _ _ => K) rfl
  ·refine Owe.light K [0, 1] K (all_cons ?_ (all_cons ?_ all_nil))
   ·rintro ρ' w' hs hah ⟨hvl301, hs300⟩
    have hkn : Known ρ' [(11, (pt g181 4))] := ⟨hah 5 11 K, trivial⟩
    refine Step.known _ hkn ?_
    refine Step.load (t := 22) (x := (.tmp 11)) (g := g181) (off := 4) (i := 0) (v := (.slice A6 (List.length (List.map stT d9)) c7)) (d := (some 12)) (k := 6) K rfl K hs300 rfl K ?_
    exact ⟨rfl, _, updO_known hkn, rfl⟩
   ·rintro ρ' w' hs hah ⟨g210, ⟨q303, -⟩, hs302⟩
    have hkn : Known ρ' [(11, (pt g181 4))] := ⟨hah 5 11 K, trivial⟩
    refine Step.known _ hkn ?_
    refine Step.load (t := 22) (x := (.tmp 11)) (g := g181) (off := 4) (i := 0) (v := (.slice A6 (List.length (List.map stT d9)) c7)) (d := (some 12)) (k := 6) K rfl K hs302 rfl K ?_
    exact ⟨rfl, _, updO_known hkn, rfl⟩
  ·exact Owe.run K [(12, (.slice A6 (List.length (List.map stT d9)) c7))] ⟨gA 6 K K, trivial⟩ (.int .i64 ((List.length (List.map stT d9) : Nat) : Int)) (fun _ _ => K) rfl
  ·refine Owe.heavy K [(0, 2), (1, 3)] K (all_cons ⟨K, K, ?_⟩ (all_cons ⟨K, K, ?_⟩ all_nil))
   ·rintro ρ' w' hs hah ⟨hvl306, hs305⟩
    have hkn : Known ρ' [(13, (.int .i64 ((List.length (List.map stT d9) : Nat) : Int)))] := ⟨hah 7 13 K, trivial⟩
    refine Step.known _ hkn ?_
    refine Step.make (e := (eInt .i64)) (l' := l199) (z := 0) (v := (.int .i64 0)) (b := 8) (T := 64) (E := 3) (x := (.tmp 13)) (y := (.tmp 13)) (k1 := .i64) (k2 := .i64) (iz := ((List.length (List.map stT d9) : Nat) : Int)) (d := (some 14)) (k := 8) K rfl K K K K K rfl rfl rfl hl200 hs305 hyl199 ?_
    intro g307 w308 hs309 hn310
    have hs311 : SP [] w0 w308 [boxE g181 24 #[(.int .i64 pWait1), (.int .i64 pGrace2), (.int .i64 pIdle3), (.int .i64 pLease4), (.slice A6 (List.length (List.map stT d9)) c7)], rowT 3 (eInt .i64) (some ⟨g307, 0, none⟩) (Int.toNat ((List.length (List.map stT d9) : Nat) : Int)) l199] := hs309
    clear hs309
    refine ⟨_, updO_known hkn, trivial, ?_⟩
    exact (Exists.intro g307 (And.intro (And.intro rfl (trivial)) (hs311)))
   ·rintro ρ' w' hs hah ⟨g210, ⟨q313, -⟩, hs312⟩
    have hkn : Known ρ' [(13, (.int .i64 ((List.length (List.map stT d9) : Nat) : Int)))] := ⟨hah 7 13 K, trivial⟩
    refine Step.known _ hkn ?_
    refine Step.make (e := (eInt .i64)) (l' := l199) (z := 0) (v := (.int .i64 0)) (b := 8) (T := 64) (E := 3) (x := (.tmp 13)) (y := (.tmp 13)) (k1 := .i64) (k2 := .i64) (iz := ((List.length (List.map stT d9) : Nat) : Int)) (d := (some 14)) (k := 8) K rfl K K K K K rfl rfl rfl hl200 hs312 hyl199 ?_
    intro g315 w316 hs317 hn318
    have hs319 : SP [] w0 w316 [boxE g181 24 #[(.int .i64 pWait1), (.int .i64 pGrace2), (.int .i64 pIdle3), (.int .i64 pLease4), (.slice A6 (List.length (List.map stT d9)) c7)], rowT 3 (eInt .i64) (some ⟨g210, 0, none⟩) (Int.toNat ((List.length (List.map stT d9) : Nat) : Int)) l192, rowT 3 (eInt .i64) (some ⟨g315, 0, none⟩) (Int.toNat ((List.length (List.map stT d9) : Nat) : Int)) l199] := hs317
    clear hs317
    refine ⟨_, updO_known hkn, trivial, ?_⟩
    exact (Exists.intro g210 (Exists.intro g315 (And.intro (And.intro q313 (And.intro rfl (trivial))) (hs319))))
  ·refine Owe.heavy K [(3, 4)] K (all_cons ⟨K, K, ?_⟩ all_nil)
   ·rintro ρ' w' hs hah ⟨g220, g225, ⟨q321, q322, -⟩, hs320⟩
    have hkn : Known ρ' [(6, (.agg #[(.int .i64 pWait1), (.int .i64 pGrace2), (.int .i64 pIdle3), (.int .i64 pLease4), (.slice A6 (List.length (List.map stT d9)) c7)])), (10, (.slice (some ⟨g220, 0, none⟩) (List.length l192) (Int.toNat ((List.length (List.map stT d9) : Nat) : Int)))), (14, (.slice (some ⟨g225, 0, none⟩) (List.length l199) (Int.toNat ((List.length (List.map stT d9) : Nat) : Int))))] := ⟨hah 0 6 K, (valF_eq (h := 4) K).symm.trans q321, (valF_eq (h := 8) K).symm.trans q322, trivial⟩
    refine Step.known _ hkn ?_
    refine Step.run (k := 9) (v := (.agg #[(.int .i64 pWait1), (.int .i64 pGrace2), (.int .i64 pIdle3), (.int .i64 pLease4), (.slice A6 (List.length (List.map stT d9)) c7), (.slice (some ⟨g220, 0, none⟩) (List.length l192) (Int.toNat ((List.length (List.map stT d9) : Nat) : Int))), (.slice (some ⟨g225, 0, none⟩) (List.length l199) (Int.toNat ((List.length (List.map stT d9) : Nat) : Int)))])) K ?_
    refine ⟨_, updO_known hkn, trivial, ?_⟩
    exact (Exists.intro g220 (Exists.intro g225 (And.intro (And.intro q321 (And.intro q322 (And.intro rfl (trivial)))) (hs320))))
  ·refine Owe.heavy K [(4, 5)] K (all_cons ⟨K, K, ?_⟩ all_nil)
   ·rintro ρ' w' hs hah ⟨g230, g235, ⟨q325, q326, q327, -⟩, hs324⟩
    have hkn : Known ρ' [(15, (.agg #[(.int .i64 pWait1), (.int .i64 pGrace2), (.int .i64 pIdle3), (.int .i64 pLease4), (.slice A6 (List.length (List.map stT d9)) c7), (.slice (some ⟨g230, 0, none⟩) (List.length l192) (Int.toNat ((List.length (List.map stT d9) : Nat) : Int))), (.slice (some ⟨g235, 0, none⟩) (List.length l199) (Int.toNat ((List.length (List.map stT d9) : Nat) : Int)))]))] := ⟨(valF_eq (h := 9) K).symm.trans q327, trivial⟩
    refine Step.known _ hkn ?_
    refine Step.box (t := 66) (x := (.tmp 15)) (v := (.agg #[(.int .i64 pWait1), (.int .i64 pGrace2), (.int .i64 pIdle3), (.int .i64 pLease4), (.slice A6 (List.length (List.map stT d9)) c7), (.slice (some ⟨g230, 0, none⟩) (List.length l192) (Int.toNat ((List.length (List.map stT d9) : Nat) : Int))), (.slice (some ⟨g235, 0, none⟩) (List.length l199) (Int.toNat ((List.length (List.map stT d9) : Nat) : Int)))])) (d := (some 16)) (k := 10) K rfl K hs324 ?_
    intro g329 w330 (hs332 : SP [] w0 w330 [boxE g181 24 #[(.int .i64 pWait1), (.int .i64 pGrace2), (.int .i64 pIdle3), (.int .i64 pLease4), (.slice A6 (List.length (List.map stT d9)) c7)], rowT 3 (eInt .i64) (some ⟨g230, 0, none⟩) (Int.toNat ((List.length (List.map stT d9) : Nat) : Int)) l192, rowT 3 (eInt .i64) (some ⟨g235, 0, none⟩) (Int.toNat ((List.length (List.map stT d9) : Nat) : Int)) l199, boxE g329 66 #[(.int .i64 pWait1), (.int .i64 pGrace2), (.int .i64 pIdle3), (.int .i64 pLease4), (.slice A6 (List.length (List.map stT d9)) c7), (.slice (some ⟨g230, 0, none⟩) (List.length l192) (Int.toNat ((List.length (List.map stT d9) : Nat) : Int))), (.slice (some ⟨g235, 0, none⟩) (List.length l199) (Int.toNat ((List.length (List.map stT d9) : Nat) : Int)))]])
    refine ⟨_, updO_known hkn, trivial, ?_⟩
    exact (Exists.intro g230 (Exists.intro g235 (Exists.intro g329 (And.intro (And.intro q325 (And.intro q326 (And.intro q327 (And.intro rfl (trivial))))) (hs332)))))
  ·refine Owe.heavy K [(5, 6)] K (all_cons ⟨K, K, ?_⟩ all_nil)
   ·rintro ρ' w' hs hah ⟨g240, g245, g250, ⟨q334, q335, q336, q337, -⟩, hs333⟩
    have hkn : Known ρ' [(16, (pt g250 0))] := ⟨(valF_eq (h := 10) K).symm.trans q337, trivial⟩
    refine Step.known _ hkn ?_
    refine Step.run (k := 11) (v := (pt g250 0)) K ?_
    refine ⟨_, updO_known hkn, trivial, ?_⟩
    exact (Exists.intro g240 (Exists.intro g245 (Exists.intro g250 (And.intro (And.intro q334 (And.intro q335 (And.intro q336 (And.intro q337 (And.intro rfl (trivial)))))) (hs333)))))
  ·rintro ρ' w' hs hf ⟨g254, g259, g264, ⟨q340, q341, q342, q343, q344, -⟩, hs339⟩
   refine postKnown [(2, (pt g264 0))] ⟨(valF_eq (h := 11) K).symm.trans q344, trivial⟩ ?_
   obtain ⟨w346, hww346⟩ : ∃ x, w' = x := ⟨_, rfl⟩
   rw [hww346] at hs339 ⊢
   refine At.ret K ?_
   refine ⟨(pt g264 0), K, ?_⟩
   obtain rfl := some_elim H
   exact ⟨g264, (some ⟨g254, 0, none⟩), (Int.toNat ((List.length (List.map stT d9) : Nat) : Int)), (some ⟨g259, 0, none⟩), (Int.toNat ((List.length (List.map stT d9) : Nat) : Int)), rfl, SP.sel hs339 [3,1,2] rfl rfl⟩
/-! L_subwayref11_Gate_place -/
def L_subwayref11_Gate_place_b1 (rec1 : Int → Option (Int)) (q6 : (List TenantL)) (p17 : (List UInt8)) (v77 : Int) : Option (Int) :=
  (cond (decide (v77 < ((List.length q6 : Nat) : Int))) ((idx q6 v77).bind fun x91 => (cond (x91.1 == p17) (some (v77)) (rec1 (IntKind.wrap .i64 (v77 + 1))))) (some ((-1))))
def L_subwayref11_Gate_place_l1 (q6 : (List TenantL)) (p17 : (List UInt8)) : Nat → Int → Option (Int)
  | 0, _ => none
  | f + 1, v77 => L_subwayref11_Gate_place_b1  (L_subwayref11_Gate_place_l1 q6 p17 f) q6 p17 v77
def L_subwayref11_Gate_place (q2 : Int) (q3 : Int) (q4 : Int) (q5 : Int) (q6 : (List TenantL)) (q11 : (List Int)) (q14 : (List Int)) (p17 : (List UInt8)) : Option (Int) :=
  (L_subwayref11_Gate_place_l1 q6 p17 fuel 0)
set_option maxRecDepth 100000 in
set_option maxHeartbeats 4000000 in
theorem L_subwayref11_Gate_place_walk {S : List Nat} (g1 : Nat) (A7 : Option Addr) (c8 : Nat) (A12 : Option Addr) (c13 : Nat) (A15 : Option Addr) (c16 : Nat) (q2 : Int) (q3 : Int) (q4 : Int) (q5 : Int) (d10 : (List TenantD)) (q11 : (List Int)) (q14 : (List Int)) (p17 : (List UInt8)) (w0 : World) (hO : SP S w0 w0 [boxE g1 66 #[(.int .i64 q2), (.int .i64 q3), (.int .i64 q4), (.int .i64 q5), (.slice A7 (List.length (List.map stT d10)) c8), (.slice A12 (List.length q11) c13), (.slice A15 (List.length q14) c16)], rowT 3 (eInt .i64) A12 c13 q11, rowT 3 (eInt .i64) A15 c16 q14]) (hr9 : ∀ w, Mod S w0 w → (dDS eTen dTen).ok w (A7, c8, d10)) (r : (Int)) (H : L_subwayref11_Gate_place q2 q3 q4 q5 (List.map stT d10) q11 q14 p17 = some r) :
  Calls Tryd.prog 31 #[(pt g1 0), (.string ⟨List.toArray p17⟩)] w0 (fun e w' => ∃ (A58 : Option Addr) (c59 : Nat) (A60 : Option Addr) (c61 : Nat), e = .returned (.int .i64 r) ∧ SP S w0 w' [boxE g1 66 #[(.int .i64 q2), (.int .i64 q3), (.int .i64 q4), (.int .i64 q5), (.slice A7 (List.length (List.map stT d10)) c8), (.slice A58 (List.length q11) c59), (.slice A60 (List.length q14) c61)], rowT 3 (eInt .i64) A58 c59 q11, rowT 3 (eInt .i64) A60 c61 q14]) := by
 unfold L_subwayref11_Gate_place at H
 refine calls_go (n := 28) Tryd.func31 K K K ?_
 have hs0 := hO
 refine At.sq K ?_
 refine At.region K K ?_
 refine In.run' 1 (k' := 1) rfl [(4, (.int .i64 0))] K ?_
 refine In.fin K ?_
 refine At.sq K ?_
 refine At.sq K ?_
 refine At.region K K ?_
 refine In.run' 1 (k' := 1) rfl [(5, (.int .i64 0))] K ?_
 refine In.fin K ?_
 refine At.bk K (id := 0) K ?_
 refine At.lp K (fun f1 ρ w => ∃ (v77 : Int), Known ρ [(0, (pt g1 0)), (1, (.string ⟨List.toArray p17⟩)), (5, (.int .i64 v77))] ∧ SP S w0 w [rowT 3 (eInt .i64) A12 c13 q11, rowT 3 (eInt .i64) A15 c16 q14, boxE g1 66 #[(.int .i64 q2), (.int .i64 q3), (.int .i64 q4), (.int .i64 q5), (.slice A7 (List.length (List.map stT d10)) c8), (.slice A12 (List.length q11) c13), (.slice A15 (List.length q14) c16)]] ∧ L_subwayref11_Gate_place_l1 (List.map stT d10) p17 f1 v77 = some r) (by rintro ρ w ⟨v77, hk, hs, H⟩; cases H) ?_ fuel ?_
 ·rintro f1 ρ w75 ⟨v77, hk, hs76, H⟩
  refine At.known [(0, (pt g1 0)), (1, (.string ⟨List.toArray p17⟩)), (5, (.int .i64 v77))] hk ?_
  replace H := (show L_subwayref11_Gate_place_b1 (L_subwayref11_Gate_place_l1 (List.map stT d10) p17 f1) (List.map stT d10) p17 v77 = some r from H)
  unfold L_subwayref11_Gate_place_b1 at H
  refine At.sq K ?_
  refine At.sq K ?_
  refine At.region K K ?_
  refine In.run' 5 (k' := 5) rfl [(6, (.int .i64 v77)), (7, (pt g1 0)), (8, (pt g1 0)), (9, (pt g1 0)), (10, (pt g1 4))] K ?_
  refine In.step (k' := 6) rfl K ?_
  refine Step.load (t := 22) (x := (.tmp 10)) (g := g1) (off := 4) (i := 2) (v := (.slice A7 (List.length (List.map stT d10)) c8)) (d := (some 11)) (k := 5) K rfl K hs76 rfl K ?_
  refine In.run' 2 (k' := 8) rfl [(12, (.int .i64 ((List.length (List.map stT d10) : Nat) : Int))), (13, (.bool (decide (v77 < ((List.length (List.map stT d10) : Nat) : Int)))))] K ?_
  refine In.fin K ?_
  refine At.cd K (o := (.tmp 13)) K (b := (decide (v77 < ((List.length (List.map stT d10) : Nat) : Int)))) K (fun hb90 => ?_) (fun hb90 => ?_)
  ·have H := ct H hb90
   refine At.skip K ?_
   refine At.sq K ?_
   refine At.bk K (id := 1) K ?_
   refine At.sq K ?_
   refine At.region K K ?_
   refine In.run' 4 (k' := 4) rfl [(16, (pt g1 0)), (17, (pt g1 0)), (18, (pt g1 0)), (19, (pt g1 4))] K ?_
   refine In.step (k' := 5) rfl K ?_
   refine Step.load (t := 22) (x := (.tmp 19)) (g := g1) (off := 4) (i := 2) (v := (.slice A7 (List.length (List.map stT d10)) c8)) (d := (some 20)) (k := 4) K rfl K hs76 rfl K ?_
   refine In.run' 1 (k' := 6) rfl [(21, (.int .i64 v77))] K ?_
   obtain ⟨y95, hp92, hq93, hx94, H⟩ := idxm_elim H
   refine In.step (k' := 7) rfl K ?_
   refine Step.elemM stT (e := eTen) (l := d10) (A := A7) (c := c8) (T := 22) (E := 45) (x := (.tmp 20)) (ix := (.tmp 21)) (ki := .i64) (iz := v77) (d := (some 22)) (k := 6) K rfl K K K K ((fun w hm => (ds_rd (hr9 w hm))) w75 (SP.mod hs76)) hp92 hq93 ?_
   intro b96 o97 hA99 hb100 hc98
   refine In.run' 1 (k' := 8) rfl [(23, (.pointer (some ⟨b96, (o97 + Int.toNat v77 * eTen.sz), none⟩)))] K ?_
   refine In.step (k' := 9) rfl K ?_
   refine Step.cell (t := 9) (x := (.tmp 23)) (b := b96) (off := (o97 + Int.toNat v77 * eTen.sz)) (v := (.string ⟨List.toArray (stT y95).1⟩)) (d := (some 24)) (k := 8) K rfl K K (elem_cell (e := eTen) (rdt_cells ((fun w hm => (ds_rd (hr9 w hm))) w75 (SP.mod hs76)) hA99 hp92 hq93) hx94 (j := 0) rfl) ?_
   refine In.run' 1 (k' := 10) rfl [(25, (.string ⟨List.toArray p17⟩))] K ?_
   refine In.step (k' := 11) rfl K ?_
   refine Step.strOp (op := .eql) (T := 9) (T' := 9) (x := (.tmp 24)) (y := (.tmp 25)) (a := (stT y95).1) (b := p17) (r := (.bool ((stT y95).1 == p17))) (d := (some 26)) (k := 10) K rfl K K rfl ?_
   refine In.fin K ?_
   refine At.cd K (o := (.tmp 26)) K (b := ((stT y95).1 == p17)) K (fun hb101 => ?_) (fun hb101 => ?_)
   ·have H := ct H hb101
    refine At.sq K ?_
    refine At.region K K ?_
    refine In.run' 2 (k' := 2) rfl [(27, (.int .i64 v77)), (4, (.int .i64 v77))] K ?_
    refine In.fin K ?_
    refine At.ret K ?_
    refine ⟨(.int .i64 v77), K, ?_⟩
    obtain rfl := some_elim H
    exact ⟨A12, c13, A15, c16, rfl, SP.sel hs76 [2,0,1] rfl rfl⟩
   ·have H := cf H hb101
    refine At.skip K ?_
    refine At.region K K ?_
    refine In.run' 3 (k' := 3) rfl [(14, (.int .i64 v77)), (15, (.int .i64 (IntKind.wrap .i64 (v77 + 1)))), (5, (.int .i64 (IntKind.wrap .i64 (v77 + 1))))] K ?_
    refine In.fin K ?_
    exact ⟨(IntKind.wrap .i64 (v77 + 1)), ⟨K, K, K, trivial⟩, SP.sel hs76 [0, 1, 2] rfl rfl, H⟩
  ·have H := cf H hb90
   refine At.exit K (id := 0) K ?_
   refine At.sq K ?_
   refine At.region K K ?_
   refine In.run' 1 (k' := 1) rfl [(4, (.int .i64 (-1)))] K ?_
   refine In.fin K ?_
   refine At.ret K ?_
   refine ⟨(.int .i64 (-1)), K, ?_⟩
   obtain rfl := some_elim H
   exact ⟨A12, c13, A15, c16, rfl, SP.sel hs76 [2,0,1] rfl rfl⟩
 ·exact ⟨0, ⟨K, K, K, trivial⟩, SP.sel hs0 [1, 2, 0] rfl rfl, H⟩
/-! L_subwayref11_Gate_add -/
def L_subwayref11_Gate_add_k1 (q2 : Int) (q3 : Int) (q4 : Int) (q5 : Int) (v435 : (List Int)) (v438 : (List Int)) : Option (Int × Int × Int × Int × (List Int) × (List Int)) :=
  (some (q2, q3, q4, q5, v435, v438))
def L_subwayref11_Gate_add (q2 : Int) (q3 : Int) (q4 : Int) (q5 : Int) (q6 : (List TenantL)) (q11 : (List Int)) (q14 : (List Int)) (p17 : (List UInt8)) (p18 : Int) (p19 : Int) : Option (Int × Int × Int × Int × (List Int) × (List Int)) :=
  ((L_subwayref11_Gate_place q2 q3 q4 q5 q6 q11 q14 p17).bind fun z296 => (cond (p18 == 1) ((idx q11 z296).bind fun x442 => ((idx q11 z296).bind fun x451 => ((some (List.set q11 (Int.toNat z296) (IntKind.wrap .i64 (x442 + p19)))).bind fun l460 => (L_subwayref11_Gate_add_k1 q2 q3 q4 q5 l460 q14)))) ((idx q14 z296).bind fun x505 => ((idx q14 z296).bind fun x514 => ((some (List.set q14 (Int.toNat z296) (IntKind.wrap .i64 (x505 + p19)))).bind fun l523 => (L_subwayref11_Gate_add_k1 q2 q3 q4 q5 q11 l523))))))
set_option maxRecDepth 100000 in
set_option maxHeartbeats 4000000 in
theorem L_subwayref11_Gate_add_walk {S : List Nat} (g1 : Nat) (A7 : Option Addr) (c8 : Nat) (A12 : Option Addr) (c13 : Nat) (A15 : Option Addr) (c16 : Nat) (q2 : Int) (q3 : Int) (q4 : Int) (q5 : Int) (d10 : (List TenantD)) (q11 : (List Int)) (q14 : (List Int)) (p17 : (List UInt8)) (p18 : Int) (p19 : Int) (w0 : World) (hO : SP S w0 w0 [boxE g1 66 #[(.int .i64 q2), (.int .i64 q3), (.int .i64 q4), (.int .i64 q5), (.slice A7 (List.length (List.map stT d10)) c8), (.slice A12 (List.length q11) c13), (.slice A15 (List.length q14) c16)], rowT 3 (eInt .i64) A12 c13 q11, rowT 3 (eInt .i64) A15 c16 q14]) (hr9 : ∀ w, Mod S w0 w → (dDS eTen dTen).ok w (A7, c8, d10)) (r : (Int × Int × Int × Int × (List Int) × (List Int))) (H : L_subwayref11_Gate_add q2 q3 q4 q5 (List.map stT d10) q11 q14 p17 p18 p19 = some r) :
  Calls Tryd.prog 25 #[(pt g1 0), (.string ⟨List.toArray p17⟩), (.int .i64 p18), (.int .i64 p19)] w0 (fun e w' => ∃ (A292 : Option Addr) (c293 : Nat) (A294 : Option Addr) (c295 : Nat), e = .returned (.tuple #[]) ∧ SP S w0 w' [boxE g1 66 #[(.int .i64 r.1), (.int .i64 r.2.1), (.int .i64 r.2.2.1), (.int .i64 r.2.2.2.1), (.slice A7 (List.length (List.map stT d10)) c8), (.slice A292 (List.length r.2.2.2.2.1) c293), (.slice A294 (List.length r.2.2.2.2.2) c295)], rowT 3 (eInt .i64) A292 c293 r.2.2.2.2.1, rowT 3 (eInt .i64) A294 c295 r.2.2.2.2.2]) := by
 unfold L_subwayref11_Gate_add at H
 refine calls_go (n := 44) Tryd.func25 K K K ?_
 have hs0 := hO
 refine At.sq K ?_
 refine At.region K K ?_
 refine In.run' 2 (k' := 2) rfl [(9, (pt g1 0)), (10, (.string ⟨List.toArray p17⟩))] K ?_
 obtain ⟨z296, hz297, H⟩ := bind_elim H
 refine In.step (k' := 3) rfl K ?_
 refine Step.callF (f := 31) (fo := (.func 31)) (xs := #[(.tmp 9), (.tmp 10)]) (tys := #[31, 9]) (first := #[]) (captured := #[]) (d := (some 11)) (k := 2) K rfl K K Tryd.call31 (L_subwayref11_Gate_place_walk g1 A7 c8 A12 c13 A15 c16 q2 q3 q4 q5 d10 q11 q14 p17 w0 (SP.sub hs0 [0, 1, 2] rfl rfl) (fun w hm => hr9 w (SP.through hs0 (l := [0, 1, 2]) rfl hm)) z296 hz297) ?_
 rintro e w298 ⟨A300, c301, A302, c303, rfl, hs299⟩
 refine ⟨_, rfl, ?_⟩
 have hs305 : SP S w0 w298 [boxE g1 66 #[(.int .i64 q2), (.int .i64 q3), (.int .i64 q4), (.int .i64 q5), (.slice A7 (List.length (List.map stT d10)) c8), (.slice A300 (List.length q11) c301), (.slice A302 (List.length q14) c303)], rowT 3 (eInt .i64) A300 c301 q11, rowT 3 (eInt .i64) A302 c303 q14] := SP.callS hs0 [0, 1, 2] [] rfl rfl hs299 rfl
 clear hs299
 refine In.run' 1 (k' := 4) rfl [(8, (.int .i64 z296))] K ?_
 refine In.fin K ?_
 refine At.sq K ?_
 refine At.region K K ?_
 refine In.run' 2 (k' := 2) rfl [(12, (.int .i64 p18)), (13, (.bool (p18 == 1)))] K ?_
 refine In.fin K ?_
 refine At.join (fun ρ w => ∃ (v435 : (List Int)) (v438 : (List Int)) (A433 : Option Addr) (c434 : Nat) (A436 : Option Addr) (c437 : Nat), Known ρ [] ∧ SP S w0 w [rowT 3 (eInt .i64) A433 c434 v435, rowT 3 (eInt .i64) A436 c437 v438, boxE g1 66 #[(.int .i64 q2), (.int .i64 q3), (.int .i64 q4), (.int .i64 q5), (.slice A7 (List.length (List.map stT d10)) c8), (.slice A433 (List.length v435) c434), (.slice A436 (List.length v438) c437)]] ∧ L_subwayref11_Gate_add_k1 q2 q3 q4 q5 v435 v438 = some r) ?_ ?_
 ·refine At.cd K (o := (.tmp 13)) K (b := (p18 == 1)) K (fun hb441 => ?_) (fun hb441 => ?_)
  ·have H := ct H hb441
   obtain ⟨x442, hp443, hq444, hx445, H⟩ := idx_elim H
   obtain ⟨x451, hp452, hq453, hx454, H⟩ := idx_elim H
   obtain ⟨l460, hyl460, H⟩ := some_bind_ex H
   have hnl460 : List.length l460 = List.length q11 := by rw [← hyl460, List.length_set]
   refine At.stages K K K K K [GEq (pt g1 0), GEq (pt g1 0), GEq (pt g1 5), GEq (.slice A300 (List.length q11) c301), GEq (.int .i64 z296), GEq (pt g1 0), GEq (pt g1 0), GEq (pt g1 5), GEq (.slice A300 (List.length q11) c301), GEq (.int .i64 z296), GElem0 A300 (eInt .i64).sz z296, GEq (.int .i64 x442), GEq (.int .i64 p19), GEq (.int .i64 (IntKind.wrap .i64 (x442 + p19))), GElem0 A300 (eInt .i64).sz z296, GAny] [15] [([], fun vs w => VL vs [] ∧ SP S w0 w [boxE g1 66 #[(.int .i64 q2), (.int .i64 q3), (.int .i64 q4), (.int .i64 q5), (.slice A7 (List.length (List.map stT d10)) c8), (.slice A300 (List.length q11) c301), (.slice A302 (List.length q14) c303)], rowT 3 (eInt .i64) A300 c301 q11, rowT 3 (eInt .i64) A302 c303 q14]), ([15], fun vs w => VL vs [undef] ∧ SP S w0 w [boxE g1 66 #[(.int .i64 q2), (.int .i64 q3), (.int .i64 q4), (.int .i64 q5), (.slice A7 (List.length (List.map stT d10)) c8), (.slice A300 (List.length l460) c301), (.slice A302 (List.length q14) c303)], rowT 3 (eInt .i64) A300 c301 l460, rowT 3 (eInt .i64) A302 c303 q14])] (N := 16) K ⟨K, Nat.zero_lt_succ _⟩ (show VL [] [] ∧ SP S w0 w298.drew [boxE g1 66 #[(.int .i64 q2), (.int .i64 q3), (.int .i64 q4), (.int .i64 q5), (.slice A7 (List.length (List.map stT d10)) c8), (.slice A300 (List.length q11) c301), (.slice A302 (List.length q14) c303)], rowT 3 (eInt .i64) A300 c301 q11, rowT 3 (eInt .i64) A302 c303 q14] from ⟨trivial, SP.drew hs305⟩) ⟨⟨⟨⟨⟨⟨⟨⟨⟨⟨⟨⟨⟨⟨⟨⟨trivial, ?_⟩, ?_⟩, ?_⟩, ?_⟩, ?_⟩, ?_⟩, ?_⟩, ?_⟩, ?_⟩, ?_⟩, ?_⟩, ?_⟩, ?_⟩, ?_⟩, ?_⟩, ?_⟩ (last := 1) K ?_
   ·exact Owe.run K [(0, (pt g1 0))] ⟨gS K K, trivial⟩ (pt g1 0) (fun _ _ => K) rfl
   ·exact Owe.run K [(14, (pt g1 0))] ⟨gA 0 K K, trivial⟩ (pt g1 0) (fun _ _ => K) rfl
   ·exact Owe.run K [(15, (pt g1 0))] ⟨gA 1 K K, trivial⟩ (pt g1 5) (fun _ _ => K) rfl
   ·refine Owe.light K [0] K (all_cons ?_ all_nil)
    ·rintro ρ' w' hs hah ⟨hvl470, hs469⟩
     have hkn : Known ρ' [(16, (pt g1 5))] := ⟨hah 2 16 K, trivial⟩
     refine Step.known _ hkn ?_
     refine Step.load (t := 64) (x := (.tmp 16)) (g := g1) (off := 5) (i := 0) (v := (.slice A300 (List.length q11) c301)) (d := (some 17)) (k := 3) K rfl K hs469 rfl K ?_
     exact ⟨rfl, _, updO_known hkn, rfl⟩
   ·exact Owe.run K [(8, (.int .i64 z296))] ⟨gS K K, trivial⟩ (.int .i64 z296) (fun _ _ => K) rfl
   ·exact Owe.run K [(0, (pt g1 0))] ⟨gS K K, trivial⟩ (pt g1 0) (fun _ _ => K) rfl
   ·exact Owe.run K [(19, (pt g1 0))] ⟨gA 5 K K, trivial⟩ (pt g1 0) (fun _ _ => K) rfl
   ·exact Owe.run K [(20, (pt g1 0))] ⟨gA 6 K K, trivial⟩ (pt g1 5) (fun _ _ => K) rfl
   ·refine Owe.light K [0] K (all_cons ?_ all_nil)
    ·rintro ρ' w' hs hah ⟨hvl472, hs471⟩
     have hkn : Known ρ' [(21, (pt g1 5))] := ⟨hah 7 21 K, trivial⟩
     refine Step.known _ hkn ?_
     refine Step.load (t := 64) (x := (.tmp 21)) (g := g1) (off := 5) (i := 0) (v := (.slice A300 (List.length q11) c301)) (d := (some 22)) (k := 8) K rfl K hs471 rfl K ?_
     exact ⟨rfl, _, updO_known hkn, rfl⟩
   ·exact Owe.run K [(8, (.int .i64 z296))] ⟨gS K K, trivial⟩ (.int .i64 z296) (fun _ _ => K) rfl
   ·refine Owe.light K [0] K (all_cons ?_ all_nil)
    ·rintro ρ' w' hs hah ⟨hvl474, hs473⟩
     have hkn : Known ρ' [(22, (.slice A300 (List.length q11) c301)), (23, (.int .i64 z296))] := ⟨hah 8 22 K, hah 9 23 K, trivial⟩
     refine Step.known _ hkn ?_
     refine Step.elem (e := (eInt .i64)) (l := q11) (A := A300) (c := c301) (T := 64) (E := 3) (x := (.tmp 22)) (ix := (.tmp 23)) (ki := .i64) (iz := z296) (d := (some 24)) (k := 10) K rfl K K K K (rowT_rd (SP.get hs473 (i := 1) rfl)) hp443 hq444 ?_
     intro b475 o476 hA478 hb479 hc477
     exact ⟨rfl, _, updO_known hkn, ⟨b475, o476, hA478, rfl⟩⟩
   ·refine Owe.light K [0] K (all_cons ?_ all_nil)
    ·rintro ρ' w' hs hah ⟨hvl481, hs480⟩
     obtain ⟨b482, o483, hA484, e24⟩ := hah 10 24 K
     have hkn : Known ρ' [(24, (.pointer (some ⟨b482, (o483 + Int.toNat z296 * (eInt .i64).sz), none⟩)))] := ⟨e24, trivial⟩
     refine Step.known _ hkn ?_
     refine Step.cell (t := 3) (x := (.tmp 24)) (b := b482) (off := (o483 + Int.toNat z296 * (eInt .i64).sz)) (v := (.int .i64 x442)) (d := (some 25)) (k := 11) K rfl K K (elem_cell (e := (eInt .i64)) (rdt_cells (rowT_rd (SP.get hs480 (i := 1) rfl)) hA484 hp443 hq444) hx445 (j := 0) rfl) ?_
     exact ⟨rfl, _, updO_known hkn, rfl⟩
   ·exact Owe.run K [(3, (.int .i64 p19))] ⟨gS K K, trivial⟩ (.int .i64 p19) (fun _ _ => K) rfl
   ·exact Owe.run K [(25, (.int .i64 x442)), (26, (.int .i64 p19))] ⟨gA 11 K K, gA 12 K K, trivial⟩ (.int .i64 (IntKind.wrap .i64 (x442 + p19))) (fun _ _ => K) rfl
   ·refine Owe.light K [0] K (all_cons ?_ all_nil)
    ·rintro ρ' w' hs hah ⟨hvl486, hs485⟩
     have hkn : Known ρ' [(17, (.slice A300 (List.length q11) c301)), (18, (.int .i64 z296))] := ⟨hah 3 17 K, hah 4 18 K, trivial⟩
     refine Step.known _ hkn ?_
     refine Step.elem (e := (eInt .i64)) (l := q11) (A := A300) (c := c301) (T := 64) (E := 3) (x := (.tmp 17)) (ix := (.tmp 18)) (ki := .i64) (iz := z296) (d := (some 28)) (k := 14) K rfl K K K K (rowT_rd (SP.get hs485 (i := 1) rfl)) hp452 hq453 ?_
     intro b487 o488 hA490 hb491 hc489
     exact ⟨rfl, _, updO_known hkn, ⟨b487, o488, hA490, rfl⟩⟩
   ·refine Owe.heavy K [(0, 1)] K (all_cons ⟨K, K, ?_⟩ all_nil)
    ·rintro ρ' w' hs hah ⟨hvl493, hs492⟩
     obtain ⟨b494, o495, hA496, e28⟩ := hah 14 28 K
     have hkn : Known ρ' [(28, (.pointer (some ⟨b494, (o495 + Int.toNat z296 * (eInt .i64).sz), none⟩))), (27, (.int .i64 (IntKind.wrap .i64 (x442 + p19))))] := ⟨e28, hah 13 27 K, trivial⟩
     refine Step.known _ hkn ?_
     refine Step.storeElem (e := (eInt .i64)) (t := 3) (E := 3) (x := (.tmp 28)) (y := (.tmp 27)) (A := A300) (c := c301) (l := q11) (iz := z296) (b := b494) (off := o495) (i := 1) (v := (.int .i64 (IntKind.wrap .i64 (x442 + p19)))) (x' := (IntKind.wrap .i64 (x442 + p19))) (d := none) (k := 15) K rfl K K hs492 rfl hA496 rfl hq453 hp452 rfl K ?_
     rw [hyl460]
     intro w497 (hs499 : SP S w0 w497 [boxE g1 66 #[(.int .i64 q2), (.int .i64 q3), (.int .i64 q4), (.int .i64 q5), (.slice A7 (List.length (List.map stT d10)) c8), (.slice A300 (List.length q11) c301), (.slice A302 (List.length q14) c303)], rowT 3 (eInt .i64) A300 c301 l460, rowT 3 (eInt .i64) A302 c303 q14])
     have hs500 : SP S w0 w497 [boxE g1 66 #[(.int .i64 q2), (.int .i64 q3), (.int .i64 q4), (.int .i64 q5), (.slice A7 (List.length (List.map stT d10)) c8), (.slice A300 (List.length l460) c301), (.slice A302 (List.length q14) c303)], rowT 3 (eInt .i64) A300 c301 l460, rowT 3 (eInt .i64) A302 c303 q14] := by rw [hnl460]; exact hs499
     clear hs499
     refine ⟨_, updO_known hkn, trivial, ?_⟩
     exact (And.intro (And.intro rfl (trivial)) (hs500))
   ·rintro ρ' w' hs hf ⟨⟨q502, -⟩, hs501⟩
    refine postKnown [] trivial ?_
    obtain ⟨w504, hww504⟩ : ∃ x, w' = x := ⟨_, rfl⟩
    rw [hww504] at hs501 ⊢
    exact ⟨l460, q14, A300, c301, A302, c303, trivial, SP.sel hs501 [1, 2, 0] rfl rfl, H⟩
  ·have H := cf H hb441
   obtain ⟨x505, hp506, hq507, hx508, H⟩ := idx_elim H
   obtain ⟨x514, hp515, hq516, hx517, H⟩ := idx_elim H
   obtain ⟨l523, hyl523, H⟩ := some_bind_ex H
   have hnl523 : List.length l523 = List.length q14 := by rw [← hyl523, List.length_set]
   refine At.stages K K K K K [GEq (pt g1 0), GEq (pt g1 0), GEq (pt g1 6), GEq (.slice A302 (List.length q14) c303), GEq (.int .i64 z296), GEq (pt g1 0), GEq (pt g1 0), GEq (pt g1 6), GEq (.slice A302 (List.length q14) c303), GEq (.int .i64 z296), GElem0 A302 (eInt .i64).sz z296, GEq (.int .i64 x505), GEq (.int .i64 p19), GEq (.int .i64 (IntKind.wrap .i64 (x505 + p19))), GElem0 A302 (eInt .i64).sz z296, GAny] [15] [([], fun vs w => VL vs [] ∧ SP S w0 w [boxE g1 66 #[(.int .i64 q2), (.int .i64 q3), (.int .i64 q4), (.int .i64 q5), (.slice A7 (List.length (List.map stT d10)) c8), (.slice A300 (List.length q11) c301), (.slice A302 (List.length q14) c303)], rowT 3 (eInt .i64) A300 c301 q11, rowT 3 (eInt .i64) A302 c303 q14]), ([15], fun vs w => VL vs [undef] ∧ SP S w0 w [boxE g1 66 #[(.int .i64 q2), (.int .i64 q3), (.int .i64 q4), (.int .i64 q5), (.slice A7 (List.length (List.map stT d10)) c8), (.slice A300 (List.length q11) c301), (.slice A302 (List.length l523) c303)], rowT 3 (eInt .i64) A300 c301 q11, rowT 3 (eInt .i64) A302 c303 l523])] (N := 16) K ⟨K, Nat.zero_lt_succ _⟩ (show VL [] [] ∧ SP S w0 w298.drew [boxE g1 66 #[(.int .i64 q2), (.int .i64 q3), (.int .i64 q4), (.int .i64 q5), (.slice A7 (List.length (List.map stT d10)) c8), (.slice A300 (List.length q11) c301), (.slice A302 (List.length q14) c303)], rowT 3 (eInt .i64) A300 c301 q11, rowT 3 (eInt .i64) A302 c303 q14] from ⟨trivial, SP.drew hs305⟩) ⟨⟨⟨⟨⟨⟨⟨⟨⟨⟨⟨⟨⟨⟨⟨⟨trivial, ?_⟩, ?_⟩, ?_⟩, ?_⟩, ?_⟩, ?_⟩, ?_⟩, ?_⟩, ?_⟩, ?_⟩, ?_⟩, ?_⟩, ?_⟩, ?_⟩, ?_⟩, ?_⟩ (last := 1) K ?_
   ·exact Owe.run K [(0, (pt g1 0))] ⟨gS K K, trivial⟩ (pt g1 0) (fun _ _ => K) rfl
   ·exact Owe.run K [(29, (pt g1 0))] ⟨gA 0 K K, trivial⟩ (pt g1 0) (fun _ _ => K) rfl
   ·exact Owe.run K [(30, (pt g1 0))] ⟨gA 1 K K, trivial⟩ (pt g1 6) (fun _ _ => K) rfl
   ·refine Owe.light K [0] K (all_cons ?_ all_nil)
    ·rintro ρ' w' hs hah ⟨hvl533, hs532⟩
     have hkn : Known ρ' [(31, (pt g1 6))] := ⟨hah 2 31 K, trivial⟩
     refine Step.known _ hkn ?_
     refine Step.load (t := 64) (x := (.tmp 31)) (g := g1) (off := 6) (i := 0) (v := (.slice A302 (List.length q14) c303)) (d := (some 32)) (k := 3) K rfl K hs532 rfl K ?_
     exact ⟨rfl, _, updO_known hkn, rfl⟩
   ·exact Owe.run K [(8, (.int .i64 z296))] ⟨gS K K, trivial⟩ (.int .i64 z296) (fun _ _ => K) rfl
   ·exact Owe.run K [(0, (pt g1 0))] ⟨gS K K, trivial⟩ (pt g1 0) (fun _ _ => K) rfl
   ·exact Owe.run K [(34, (pt g1 0))] ⟨gA 5 K K, trivial⟩ (pt g1 0) (fun _ _ => K) rfl
   ·exact Owe.run K [(35, (pt g1 0))] ⟨gA 6 K K, trivial⟩ (pt g1 6) (fun _ _ => K) rfl
   ·refine Owe.light K [0] K (all_cons ?_ all_nil)
    ·rintro ρ' w' hs hah ⟨hvl535, hs534⟩
     have hkn : Known ρ' [(36, (pt g1 6))] := ⟨hah 7 36 K, trivial⟩
     refine Step.known _ hkn ?_
     refine Step.load (t := 64) (x := (.tmp 36)) (g := g1) (off := 6) (i := 0) (v := (.slice A302 (List.length q14) c303)) (d := (some 37)) (k := 8) K rfl K hs534 rfl K ?_
     exact ⟨rfl, _, updO_known hkn, rfl⟩
   ·exact Owe.run K [(8, (.int .i64 z296))] ⟨gS K K, trivial⟩ (.int .i64 z296) (fun _ _ => K) rfl
   ·refine Owe.light K [0] K (all_cons ?_ all_nil)
    ·rintro ρ' w' hs hah ⟨hvl537, hs536⟩
     have hkn : Known ρ' [(37, (.slice A302 (List.length q14) c303)), (38, (.int .i64 z296))] := ⟨hah 8 37 K, hah 9 38 K, trivial⟩
     refine Step.known _ hkn ?_
     refine Step.elem (e := (eInt .i64)) (l := q14) (A := A302) (c := c303) (T := 64) (E := 3) (x := (.tmp 37)) (ix := (.tmp 38)) (ki := .i64) (iz := z296) (d := (some 39)) (k := 10) K rfl K K K K (rowT_rd (SP.get hs536 (i := 2) rfl)) hp506 hq507 ?_
     intro b538 o539 hA541 hb542 hc540
     exact ⟨rfl, _, updO_known hkn, ⟨b538, o539, hA541, rfl⟩⟩
   ·refine Owe.light K [0] K (all_cons ?_ all_nil)
    ·rintro ρ' w' hs hah ⟨hvl544, hs543⟩
     obtain ⟨b545, o546, hA547, e39⟩ := hah 10 39 K
     have hkn : Known ρ' [(39, (.pointer (some ⟨b545, (o546 + Int.toNat z296 * (eInt .i64).sz), none⟩)))] := ⟨e39, trivial⟩
     refine Step.known _ hkn ?_
     refine Step.cell (t := 3) (x := (.tmp 39)) (b := b545) (off := (o546 + Int.toNat z296 * (eInt .i64).sz)) (v := (.int .i64 x505)) (d := (some 40)) (k := 11) K rfl K K (elem_cell (e := (eInt .i64)) (rdt_cells (rowT_rd (SP.get hs543 (i := 2) rfl)) hA547 hp506 hq507) hx508 (j := 0) rfl) ?_
     exact ⟨rfl, _, updO_known hkn, rfl⟩
   ·exact Owe.run K [(3, (.int .i64 p19))] ⟨gS K K, trivial⟩ (.int .i64 p19) (fun _ _ => K) rfl
   ·exact Owe.run K [(40, (.int .i64 x505)), (41, (.int .i64 p19))] ⟨gA 11 K K, gA 12 K K, trivial⟩ (.int .i64 (IntKind.wrap .i64 (x505 + p19))) (fun _ _ => K) rfl
   ·refine Owe.light K [0] K (all_cons ?_ all_nil)
    ·rintro ρ' w' hs hah ⟨hvl549, hs548⟩
     have hkn : Known ρ' [(32, (.slice A302 (List.length q14) c303)), (33, (.int .i64 z296))] := ⟨hah 3 32 K, hah 4 33 K, trivial⟩
     refine Step.known _ hkn ?_
     refine Step.elem (e := (eInt .i64)) (l := q14) (A := A302) (c := c303) (T := 64) (E := 3) (x := (.tmp 32)) (ix := (.tmp 33)) (ki := .i64) (iz := z296) (d := (some 43)) (k := 14) K rfl K K K K (rowT_rd (SP.get hs548 (i := 2) rfl)) hp515 hq516 ?_
     intro b550 o551 hA553 hb554 hc552
     exact ⟨rfl, _, updO_known hkn, ⟨b550, o551, hA553, rfl⟩⟩
   ·refine Owe.heavy K [(0, 1)] K (all_cons ⟨K, K, ?_⟩ all_nil)
    ·rintro ρ' w' hs hah ⟨hvl556, hs555⟩
     obtain ⟨b557, o558, hA559, e43⟩ := hah 14 43 K
     have hkn : Known ρ' [(43, (.pointer (some ⟨b557, (o558 + Int.toNat z296 * (eInt .i64).sz), none⟩))), (42, (.int .i64 (IntKind.wrap .i64 (x505 + p19))))] := ⟨e43, hah 13 42 K, trivial⟩
     refine Step.known _ hkn ?_
     refine Step.storeElem (e := (eInt .i64)) (t := 3) (E := 3) (x := (.tmp 43)) (y := (.tmp 42)) (A := A302) (c := c303) (l := q14) (iz := z296) (b := b557) (off := o558) (i := 2) (v := (.int .i64 (IntKind.wrap .i64 (x505 + p19)))) (x' := (IntKind.wrap .i64 (x505 + p19))) (d := none) (k := 15) K rfl K K hs555 rfl hA559 rfl hq516 hp515 rfl K ?_
     rw [hyl523]
     intro w560 (hs562 : SP S w0 w560 [boxE g1 66 #[(.int .i64 q2), (.int .i64 q3), (.int .i64 q4), (.int .i64 q5), (.slice A7 (List.length (List.map stT d10)) c8), (.slice A300 (List.length q11) c301), (.slice A302 (List.length q14) c303)], rowT 3 (eInt .i64) A300 c301 q11, rowT 3 (eInt .i64) A302 c303 l523])
     have hs563 : SP S w0 w560 [boxE g1 66 #[(.int .i64 q2), (.int .i64 q3), (.int .i64 q4), (.int .i64 q5), (.slice A7 (List.length (List.map stT d10)) c8), (.slice A300 (List.length q11) c301), (.slice A302 (List.length l523) c303)], rowT 3 (eInt .i64) A300 c301 q11, rowT 3 (eInt .i64) A302 c303 l523] := by rw [hnl523]; exact hs562
     clear hs562
     refine ⟨_, updO_known hkn, trivial, ?_⟩
     exact (And.intro (And.intro rfl (trivial)) (hs563))
   ·rintro ρ' w' hs hf ⟨⟨q565, -⟩, hs564⟩
    refine postKnown [] trivial ?_
    obtain ⟨w567, hww567⟩ : ∃ x, w' = x := ⟨_, rfl⟩
    rw [hww567] at hs564 ⊢
    exact ⟨q11, l523, A300, c301, A302, c303, trivial, SP.sel hs564 [1, 2, 0] rfl rfl, H⟩
 ·rintro ρ w439 ⟨v435, v438, A433, c434, A436, c437, hk, hs440, H⟩
  unfold L_subwayref11_Gate_add_k1 at H
  first | refine At.known [] hk ?_ | rw [← known_updL (l := []) hk]
  refine ⟨(.tuple #[]), K, ?_⟩
  obtain rfl := some_elim H
  exact ⟨A433, c434, A436, c437, rfl, SP.sel hs440 [2,0,1] rfl rfl⟩
/-! L_subwayref11_Gate_Used -/
def L_subwayref11_Gate_Used (q2 : Int) (q3 : Int) (q4 : Int) (q5 : Int) (q6 : (List TenantL)) (q11 : (List Int)) (q14 : (List Int)) (p17 : (List UInt8)) (p18 : Int) : Option (Int) :=
  ((L_subwayref11_Gate_place q2 q3 q4 q5 q6 q11 q14 p17).bind fun z54 => (cond (decide (z54 < 0)) (some (0)) (cond (p18 == 1) ((idx q11 z54).bind fun x66 => (some (x66))) (cond (p18 == 2) ((idx q14 z54).bind fun x76 => (some (x76))) (some (0))))))
set_option maxRecDepth 100000 in
set_option maxHeartbeats 4000000 in
theorem L_subwayref11_Gate_Used_walk {S : List Nat} (g1 : Nat) (A7 : Option Addr) (c8 : Nat) (A12 : Option Addr) (c13 : Nat) (A15 : Option Addr) (c16 : Nat) (q2 : Int) (q3 : Int) (q4 : Int) (q5 : Int) (d10 : (List TenantD)) (q11 : (List Int)) (q14 : (List Int)) (p17 : (List UInt8)) (p18 : Int) (w0 : World) (hO : SP S w0 w0 [boxE g1 66 #[(.int .i64 q2), (.int .i64 q3), (.int .i64 q4), (.int .i64 q5), (.slice A7 (List.length (List.map stT d10)) c8), (.slice A12 (List.length q11) c13), (.slice A15 (List.length q14) c16)], rowT 3 (eInt .i64) A12 c13 q11, rowT 3 (eInt .i64) A15 c16 q14]) (hr9 : ∀ w, Mod S w0 w → (dDS eTen dTen).ok w (A7, c8, d10)) (r : (Int)) (H : L_subwayref11_Gate_Used q2 q3 q4 q5 (List.map stT d10) q11 q14 p17 p18 = some r) :
  Calls Tryd.prog 21 #[(pt g1 0), (.string ⟨List.toArray p17⟩), (.int .i64 p18)] w0 (fun e w' => ∃ (A50 : Option Addr) (c51 : Nat) (A52 : Option Addr) (c53 : Nat), e = .returned (.int .i64 r) ∧ SP S w0 w' [boxE g1 66 #[(.int .i64 q2), (.int .i64 q3), (.int .i64 q4), (.int .i64 q5), (.slice A7 (List.length (List.map stT d10)) c8), (.slice A50 (List.length q11) c51), (.slice A52 (List.length q14) c53)], rowT 3 (eInt .i64) A50 c51 q11, rowT 3 (eInt .i64) A52 c53 q14]) := by
 unfold L_subwayref11_Gate_Used at H
 refine calls_go (n := 31) Tryd.func21 K K K ?_
 have hs0 := hO
 refine At.sq K ?_
 refine At.region K K ?_
 refine In.run' 1 (k' := 1) rfl [(6, (.int .i64 0))] K ?_
 refine In.fin K ?_
 refine At.sq K ?_
 refine At.region K K ?_
 refine In.run' 2 (k' := 2) rfl [(8, (pt g1 0)), (9, (.string ⟨List.toArray p17⟩))] K ?_
 obtain ⟨z54, hz55, H⟩ := bind_elim H
 refine In.step (k' := 3) rfl K ?_
 refine Step.callF (f := 31) (fo := (.func 31)) (xs := #[(.tmp 8), (.tmp 9)]) (tys := #[31, 9]) (first := #[]) (captured := #[]) (d := (some 10)) (k := 2) K rfl K K Tryd.call31 (L_subwayref11_Gate_place_walk g1 A7 c8 A12 c13 A15 c16 q2 q3 q4 q5 d10 q11 q14 p17 w0 (SP.sub hs0 [0, 1, 2] rfl rfl) (fun w hm => hr9 w (SP.through hs0 (l := [0, 1, 2]) rfl hm)) z54 hz55) ?_
 rintro e w56 ⟨A58, c59, A60, c61, rfl, hs57⟩
 refine ⟨_, rfl, ?_⟩
 have hs63 : SP S w0 w56 [boxE g1 66 #[(.int .i64 q2), (.int .i64 q3), (.int .i64 q4), (.int .i64 q5), (.slice A7 (List.length (List.map stT d10)) c8), (.slice A58 (List.length q11) c59), (.slice A60 (List.length q14) c61)], rowT 3 (eInt .i64) A58 c59 q11, rowT 3 (eInt .i64) A60 c61 q14] := SP.callS hs0 [0, 1, 2] [] rfl rfl hs57 rfl
 clear hs57
 refine In.run' 1 (k' := 4) rfl [(7, (.int .i64 z54))] K ?_
 refine In.fin K ?_
 refine At.sq K ?_
 refine At.sq K ?_
 refine At.region K K ?_
 refine In.run' 2 (k' := 2) rfl [(11, (.int .i64 z54)), (12, (.bool (decide (z54 < 0))))] K ?_
 refine In.fin K ?_
 refine At.cd K (o := (.tmp 12)) K (b := (decide (z54 < 0))) K (fun hb64 => ?_) (fun hb64 => ?_)
 ·have H := ct H hb64
  refine At.sq K ?_
  refine At.region K K ?_
  refine In.run' 1 (k' := 1) rfl [(6, (.int .i64 0))] K ?_
  refine In.fin K ?_
  refine At.ret K ?_
  refine ⟨(.int .i64 0), K, ?_⟩
  obtain rfl := some_elim H
  exact ⟨A58, c59, A60, c61, rfl, SP.sel hs63 [0,1,2] rfl rfl⟩
 ·have H := cf H hb64
  refine At.skip K ?_
  refine At.sq K ?_
  refine At.sq K ?_
  refine At.region K K ?_
  refine In.run' 2 (k' := 2) rfl [(13, (.int .i64 p18)), (14, (.bool (p18 == 1)))] K ?_
  refine In.fin K ?_
  refine At.cd K (o := (.tmp 14)) K (b := (p18 == 1)) K (fun hb65 => ?_) (fun hb65 => ?_)
  ·have H := ct H hb65
   refine At.sq K ?_
   refine At.region K K ?_
   refine In.run' 3 (k' := 3) rfl [(15, (pt g1 0)), (16, (pt g1 0)), (17, (pt g1 5))] K ?_
   refine In.step (k' := 4) rfl K ?_
   refine Step.load (t := 64) (x := (.tmp 17)) (g := g1) (off := 5) (i := 0) (v := (.slice A58 (List.length q11) c59)) (d := (some 18)) (k := 3) K rfl K hs63 rfl K ?_
   refine In.run' 1 (k' := 5) rfl [(19, (.int .i64 z54))] K ?_
   obtain ⟨x66, hp67, hq68, hx69, H⟩ := idx_elim H
   refine In.step (k' := 6) rfl K ?_
   refine Step.elem (e := (eInt .i64)) (l := q11) (A := A58) (c := c59) (T := 64) (E := 3) (x := (.tmp 18)) (ix := (.tmp 19)) (ki := .i64) (iz := z54) (d := (some 20)) (k := 5) K rfl K K K K (rowT_rd (SP.get hs63 (i := 1) rfl)) hp67 hq68 ?_
   intro b70 o71 hA73 hb74 hc72
   refine In.step (k' := 7) rfl K ?_
   refine Step.cell (t := 3) (x := (.tmp 20)) (b := b70) (off := (o71 + Int.toNat z54 * (eInt .i64).sz)) (v := (.int .i64 x66)) (d := (some 21)) (k := 6) K rfl K K (elem_cell (e := (eInt .i64)) (rdt_cells (rowT_rd (SP.get hs63 (i := 1) rfl)) hA73 hp67 hq68) hx69 (j := 0) rfl) ?_
   refine In.run' 1 (k' := 8) rfl [(6, (.int .i64 x66))] K ?_
   refine In.fin K ?_
   refine At.ret K ?_
   refine ⟨(.int .i64 x66), K, ?_⟩
   obtain rfl := some_elim H
   exact ⟨A58, c59, A60, c61, rfl, SP.sel hs63 [0,1,2] rfl rfl⟩
  ·have H := cf H hb65
   refine At.skip K ?_
   refine At.sq K ?_
   refine At.sq K ?_
   refine At.region K K ?_
   refine In.run' 2 (k' := 2) rfl [(22, (.int .i64 p18)), (23, (.bool (p18 == 2)))] K ?_
   refine In.fin K ?_
   refine At.cd K (o := (.tmp 23)) K (b := (p18 == 2)) K (fun hb75 => ?_) (fun hb75 => ?_)
   ·have H := ct H hb75
    refine At.sq K ?_
    refine At.region K K ?_
    refine In.run' 3 (k' := 3) rfl [(24, (pt g1 0)), (25, (pt g1 0)), (26, (pt g1 6))] K ?_
    refine In.step (k' := 4) rfl K ?_
    refine Step.load (t := 64) (x := (.tmp 26)) (g := g1) (off := 6) (i := 0) (v := (.slice A60 (List.length q14) c61)) (d := (some 27)) (k := 3) K rfl K hs63 rfl K ?_
    refine In.run' 1 (k' := 5) rfl [(28, (.int .i64 z54))] K ?_
    obtain ⟨x76, hp77, hq78, hx79, H⟩ := idx_elim H
    refine In.step (k' := 6) rfl K ?_
    refine Step.elem (e := (eInt .i64)) (l := q14) (A := A60) (c := c61) (T := 64) (E := 3) (x := (.tmp 27)) (ix := (.tmp 28)) (ki := .i64) (iz := z54) (d := (some 29)) (k := 5) K rfl K K K K (rowT_rd (SP.get hs63 (i := 2) rfl)) hp77 hq78 ?_
    intro b80 o81 hA83 hb84 hc82
    refine In.step (k' := 7) rfl K ?_
    refine Step.cell (t := 3) (x := (.tmp 29)) (b := b80) (off := (o81 + Int.toNat z54 * (eInt .i64).sz)) (v := (.int .i64 x76)) (d := (some 30)) (k := 6) K rfl K K (elem_cell (e := (eInt .i64)) (rdt_cells (rowT_rd (SP.get hs63 (i := 2) rfl)) hA83 hp77 hq78) hx79 (j := 0) rfl) ?_
    refine In.run' 1 (k' := 8) rfl [(6, (.int .i64 x76))] K ?_
    refine In.fin K ?_
    refine At.ret K ?_
    refine ⟨(.int .i64 x76), K, ?_⟩
    obtain rfl := some_elim H
    exact ⟨A58, c59, A60, c61, rfl, SP.sel hs63 [0,1,2] rfl rfl⟩
   ·have H := cf H hb75
    refine At.skip K ?_
    refine At.sq K ?_
    refine At.region K K ?_
    refine In.run' 1 (k' := 1) rfl [(6, (.int .i64 0))] K ?_
    refine In.fin K ?_
    refine At.ret K ?_
    refine ⟨(.int .i64 0), K, ?_⟩
    obtain rfl := some_elim H
    exact ⟨A58, c59, A60, c61, rfl, SP.sel hs63 [0,1,2] rfl rfl⟩
/-! L_subwayref11_Gate_Take -/
def L_subwayref11_Gate_Take_k2 (q2 : Int) (q3 : Int) (q4 : Int) (q5 : Int) (q6 : (List TenantL)) (q11 : (List Int)) (q14 : (List Int)) (p17 : (List UInt8)) (p18 : Int) (v101 : Int) : Option (Int × Int × Int × Int × Int × (List Int) × (List Int)) :=
  ((L_subwayref11_Gate_Used q2 q3 q4 q5 q6 q11 q14 p17 p18).bind fun z104 => (cond (decide (z104 ≥ v101)) (some (112, q2, q3, q4, q5, q11, q14)) ((L_subwayref11_Gate_add q2 q3 q4 q5 q6 q11 q14 p17 p18 1).bind fun z115 => (some (0, z115.1, z115.2.1, z115.2.2.1, z115.2.2.2.1, z115.2.2.2.2.1, z115.2.2.2.2.2)))))
def L_subwayref11_Gate_Take_k1 (q2 : Int) (q3 : Int) (q4 : Int) (q5 : Int) (q6 : (List TenantL)) (q11 : (List Int)) (q14 : (List Int)) (p17 : (List UInt8)) (p18 : Int) (v76 : Bool) : Option (Int × Int × Int × Int × Int × (List Int) × (List Int)) :=
  (cond v76 (some (1, q2, q3, q4, q5, q11, q14)) ((L_subwayref09_Find q2 q3 q4 q5 q6 p17).bind fun z80 => (cond (!z80.2.2.2.2.2) (some (3, q2, q3, q4, q5, q11, q14)) (cond (p18 == 2) (L_subwayref11_Gate_Take_k2 q2 q3 q4 q5 q6 q11 q14 p17 p18 z80.2.2.1) (L_subwayref11_Gate_Take_k2 q2 q3 q4 q5 q6 q11 q14 p17 p18 z80.2.1)))))
def L_subwayref11_Gate_Take (q2 : Int) (q3 : Int) (q4 : Int) (q5 : Int) (q6 : (List TenantL)) (q11 : (List Int)) (q14 : (List Int)) (p17 : (List UInt8)) (p18 : Int) : Option (Int × Int × Int × Int × Int × (List Int) × (List Int)) :=
  (cond (p18 != 1) (L_subwayref11_Gate_Take_k1 q2 q3 q4 q5 q6 q11 q14 p17 p18 (p18 != 2)) (L_subwayref11_Gate_Take_k1 q2 q3 q4 q5 q6 q11 q14 p17 p18 false))
set_option maxRecDepth 100000 in
set_option maxHeartbeats 4000000 in
theorem L_subwayref11_Gate_Take_walk {S : List Nat} (g1 : Nat) (A7 : Option Addr) (c8 : Nat) (A12 : Option Addr) (c13 : Nat) (A15 : Option Addr) (c16 : Nat) (q2 : Int) (q3 : Int) (q4 : Int) (q5 : Int) (d10 : (List TenantD)) (q11 : (List Int)) (q14 : (List Int)) (p17 : (List UInt8)) (p18 : Int) (w0 : World) (hO : SP S w0 w0 [boxE g1 66 #[(.int .i64 q2), (.int .i64 q3), (.int .i64 q4), (.int .i64 q5), (.slice A7 (List.length (List.map stT d10)) c8), (.slice A12 (List.length q11) c13), (.slice A15 (List.length q14) c16)], rowT 3 (eInt .i64) A12 c13 q11, rowT 3 (eInt .i64) A15 c16 q14]) (hr9 : ∀ w, Mod S w0 w → (dDS eTen dTen).ok w (A7, c8, d10)) (r : (Int × Int × Int × Int × Int × (List Int) × (List Int))) (H : L_subwayref11_Gate_Take q2 q3 q4 q5 (List.map stT d10) q11 q14 p17 p18 = some r) :
  Calls Tryd.prog 19 #[(pt g1 0), (.string ⟨List.toArray p17⟩), (.int .i64 p18)] w0 (fun e w' => ∃ (A71 : Option Addr) (c72 : Nat) (A73 : Option Addr) (c74 : Nat), e = .returned (.int .i64 r.1) ∧ SP S w0 w' [boxE g1 66 #[(.int .i64 r.2.1), (.int .i64 r.2.2.1), (.int .i64 r.2.2.2.1), (.int .i64 r.2.2.2.2.1), (.slice A7 (List.length (List.map stT d10)) c8), (.slice A71 (List.length r.2.2.2.2.2.1) c72), (.slice A73 (List.length r.2.2.2.2.2.2) c74)], rowT 3 (eInt .i64) A71 c72 r.2.2.2.2.2.1, rowT 3 (eInt .i64) A73 c74 r.2.2.2.2.2.2]) := by
 unfold L_subwayref11_Gate_Take at H
 refine calls_go (n := 43) Tryd.func19 K K K ?_
 have hs0 := hO
 refine At.sq K ?_
 refine At.region K K ?_
 refine In.run' 1 (k' := 1) rfl [(6, (.int .i64 0))] K ?_
 refine In.fin K ?_
 refine At.sq K ?_
 refine At.sq K ?_
 refine At.join (fun ρ w => ∃ (v76 : Bool), Known ρ [(0, (pt g1 0)), (1, (.string ⟨List.toArray p17⟩)), (2, (.int .i64 p18)), (15, (.bool v76))] ∧ SP S w0 w [rowT 3 (eInt .i64) A12 c13 q11, rowT 3 (eInt .i64) A15 c16 q14, boxE g1 66 #[(.int .i64 q2), (.int .i64 q3), (.int .i64 q4), (.int .i64 q5), (.slice A7 (List.length (List.map stT d10)) c8), (.slice A12 (List.length q11) c13), (.slice A15 (List.length q14) c16)]] ∧ L_subwayref11_Gate_Take_k1 q2 q3 q4 q5 (List.map stT d10) q11 q14 p17 p18 v76 = some r) ?_ ?_
 ·refine At.region K K ?_
  refine In.run' 3 (k' := 3) rfl [(10, (.int .i64 p18)), (11, (.bool (p18 != 1))), (12, (.bool (p18 != 1)))] K ?_
  refine In.guard (t := 12) (b := (p18 != 1)) K (fun hb126 => ?_) (fun hb126 => ?_)
  ·have H := ct H hb126
   refine In.run' 3 (k' := 6) rfl [(13, (.int .i64 p18)), (14, (.bool (p18 != 2))), (15, (.bool (p18 != 2)))] K ?_
   refine In.fin K ?_
   exact ⟨(p18 != 2), ⟨K, K, K, K, trivial⟩, SP.sel hs0 [1, 2, 0] rfl rfl, H⟩
  ·have H := cf H hb126
   refine In.run' 3 (k' := 6) rfl [(13, undef), (14, undef), (15, (.bool false))] K ?_
   refine In.fin K ?_
   exact ⟨false, ⟨K, K, K, K, trivial⟩, SP.sel hs0 [1, 2, 0] rfl rfl, H⟩
 ·rintro ρ w77 ⟨v76, hk, hs78, H⟩
  unfold L_subwayref11_Gate_Take_k1 at H
  first | refine At.known [(0, (pt g1 0)), (1, (.string ⟨List.toArray p17⟩)), (2, (.int .i64 p18)), (15, (.bool v76))] hk ?_ | rw [← known_updL (l := [(0, (pt g1 0)), (1, (.string ⟨List.toArray p17⟩)), (2, (.int .i64 p18)), (15, (.bool v76))]) hk]
  refine At.cd K (o := (.tmp 15)) K (b := v76) K (fun hb79 => ?_) (fun hb79 => ?_)
  ·have H := ct H hb79
   refine At.sq K ?_
   refine At.region K K ?_
   refine In.run' 1 (k' := 1) rfl [(6, (.int .i64 1))] K ?_
   refine In.fin K ?_
   refine At.ret K ?_
   refine ⟨(.int .i64 1), K, ?_⟩
   obtain rfl := some_elim H
   exact ⟨A12, c13, A15, c16, rfl, SP.sel hs78 [2,0,1] rfl rfl⟩
  ·have H := cf H hb79
   refine At.skip K ?_
   refine At.sq K ?_
   refine At.region K K ?_
   refine In.run' 3 (k' := 3) rfl [(17, (pt g1 0)), (18, (pt g1 0)), (19, (pt g1 0))] K ?_
   refine In.step (k' := 4) rfl K ?_
   refine Step.load (t := 24) (x := (.tmp 19)) (g := g1) (off := 0) (i := 2) (v := (.agg #[(.int .i64 q2), (.int .i64 q3), (.int .i64 q4), (.int .i64 q5), (.slice A7 (List.length (List.map stT d10)) c8)])) (d := (some 20)) (k := 3) K rfl K hs78 rfl K ?_
   refine In.run' 1 (k' := 5) rfl [(21, (.string ⟨List.toArray p17⟩))] K ?_
   obtain ⟨z80, hz81, H⟩ := bind_elim H
   refine In.step (k' := 6) rfl K ?_
   refine Step.callF (f := 22) (fo := (.func 22)) (xs := #[(.tmp 20), (.tmp 21)]) (tys := #[24, 9]) (first := #[]) (captured := #[]) (d := (some 22)) (k := 5) K rfl K K Tryd.call22 (L_subwayref09_Find_walk (R := fun w => Mod S w0 w) A7 c8 q2 q3 q4 q5 d10 p17 w77 (fun w hb => mod_then hs78 hb) hr9 z80 hz81) ?_
   rintro e w82 ⟨A84, c85, A87, c88, rfl, hr86, hr89, hs83⟩
   refine ⟨_, rfl, ?_⟩
   have hs91 : SP S w0 w82 [rowT 3 (eInt .i64) A12 c13 q11, rowT 3 (eInt .i64) A15 c16 q14, boxE g1 66 #[(.int .i64 q2), (.int .i64 q3), (.int .i64 q4), (.int .i64 q5), (.slice A7 (List.length (List.map stT d10)) c8), (.slice A12 (List.length q11) c13), (.slice A15 (List.length q14) c16)]] := SP.call hs78 hs83
   clear hs83
   refine In.run' 3 (k' := 9) rfl [(16, (.tuple #[(.agg #[(.string ⟨List.toArray z80.1⟩), (.int .i64 z80.2.1), (.int .i64 z80.2.2.1), (.slice A84 (List.length z80.2.2.2.1) c85), (.slice A87 (List.length z80.2.2.2.2.1) c88)]), (.bool z80.2.2.2.2.2)])), (23, (.agg #[(.string ⟨List.toArray z80.1⟩), (.int .i64 z80.2.1), (.int .i64 z80.2.2.1), (.slice A84 (List.length z80.2.2.2.1) c85), (.slice A87 (List.length z80.2.2.2.2.1) c88)])), (24, (.bool z80.2.2.2.2.2))] K ?_
   refine In.step (k' := 10) rfl K ?_
   refine Step.alloc (t := 45) (z := (.agg #[(.string ⟨List.toArray ([] : List UInt8)⟩), (.int .i64 0), (.int .i64 0), (.slice none (List.length ([] : List (Int × Int))) 0), (.slice none (List.length ([] : List ((List UInt8) × (List UInt8) × Int))) 0)])) (d := (some 7)) (k := 9) K rfl K hs91 ?_
   intro g92 w93 (hs95 : SP S w0 w93 [rowT 3 (eInt .i64) A12 c13 q11, rowT 3 (eInt .i64) A15 c16 q14, boxE g1 66 #[(.int .i64 q2), (.int .i64 q3), (.int .i64 q4), (.int .i64 q5), (.slice A7 (List.length (List.map stT d10)) c8), (.slice A12 (List.length q11) c13), (.slice A15 (List.length q14) c16)], boxE g92 45 #[(.string ⟨List.toArray ([] : List UInt8)⟩), (.int .i64 0), (.int .i64 0), (.slice none (List.length ([] : List (Int × Int))) 0), (.slice none (List.length ([] : List ((List UInt8) × (List UInt8) × Int))) 0)]])
   refine In.step (k' := 11) rfl K ?_
   refine Step.store (t := 45) (x := (.tmp 7)) (y := (.tmp 23)) (g := g92) (off := 0) (i := 3) (v := (.agg #[(.string ⟨List.toArray z80.1⟩), (.int .i64 z80.2.1), (.int .i64 z80.2.2.1), (.slice A84 (List.length z80.2.2.2.1) c85), (.slice A87 (List.length z80.2.2.2.2.1) c88)])) (cs' := #[(.string ⟨List.toArray z80.1⟩), (.int .i64 z80.2.1), (.int .i64 z80.2.2.1), (.slice A84 (List.length z80.2.2.2.1) c85), (.slice A87 (List.length z80.2.2.2.2.1) c88)]) (d := none) (k := 10) K rfl K K hs95 rfl K ?_
   intro w96 (hs98 : SP S w0 w96 [rowT 3 (eInt .i64) A12 c13 q11, rowT 3 (eInt .i64) A15 c16 q14, boxE g1 66 #[(.int .i64 q2), (.int .i64 q3), (.int .i64 q4), (.int .i64 q5), (.slice A7 (List.length (List.map stT d10)) c8), (.slice A12 (List.length q11) c13), (.slice A15 (List.length q14) c16)], boxE g92 45 #[(.string ⟨List.toArray z80.1⟩), (.int .i64 z80.2.1), (.int .i64 z80.2.2.1), (.slice A84 (List.length z80.2.2.2.1) c85), (.slice A87 (List.length z80.2.2.2.2.1) c88)]])
   refine In.run' 1 (k' := 12) rfl [(8, (.bool z80.2.2.2.2.2))] K ?_
   refine In.fin K ?_
   refine At.sq K ?_
   refine At.sq K ?_
   refine At.region K K ?_
   refine In.run' 2 (k' := 2) rfl [(25, (.bool z80.2.2.2.2.2)), (26, (.bool (!z80.2.2.2.2.2)))] K ?_
   refine In.fin K ?_
   refine At.cd K (o := (.tmp 26)) K (b := (!z80.2.2.2.2.2)) K (fun hb99 => ?_) (fun hb99 => ?_)
   ·have H := ct H hb99
    refine At.sq K ?_
    refine At.region K K ?_
    refine In.run' 1 (k' := 1) rfl [(6, (.int .i64 3))] K ?_
    refine In.fin K ?_
    refine At.ret K ?_
    refine ⟨(.int .i64 3), K, ?_⟩
    obtain rfl := some_elim H
    exact ⟨A12, c13, A15, c16, rfl, SP.sel hs98 [2,0,1] rfl rfl⟩
   ·have H := cf H hb99
    refine At.skip K ?_
    refine At.sq K ?_
    refine At.region K K ?_
    refine In.run' 1 (k' := 1) rfl [(27, (pt g92 1))] K ?_
    refine In.step (k' := 2) rfl K ?_
    refine Step.load (t := 3) (x := (.tmp 27)) (g := g92) (off := 1) (i := 3) (v := (.int .i64 z80.2.1)) (d := (some 28)) (k := 1) K rfl K hs98 rfl K ?_
    refine In.run' 1 (k' := 3) rfl [(9, (.int .i64 z80.2.1))] K ?_
    refine In.fin K ?_
    refine At.sq K ?_
    refine At.sq K ?_
    refine At.region K K ?_
    refine In.run' 2 (k' := 2) rfl [(29, (.int .i64 p18)), (30, (.bool (p18 == 2)))] K ?_
    refine In.fin K ?_
    refine At.join (fun ρ w => ∃ (v101 : Int), Known ρ [(0, (pt g1 0)), (1, (.string ⟨List.toArray p17⟩)), (2, (.int .i64 p18)), (9, (.int .i64 v101))] ∧ SP S w0 w [rowT 3 (eInt .i64) A12 c13 q11, rowT 3 (eInt .i64) A15 c16 q14, boxE g1 66 #[(.int .i64 q2), (.int .i64 q3), (.int .i64 q4), (.int .i64 q5), (.slice A7 (List.length (List.map stT d10)) c8), (.slice A12 (List.length q11) c13), (.slice A15 (List.length q14) c16)]] ∧ L_subwayref11_Gate_Take_k2 q2 q3 q4 q5 (List.map stT d10) q11 q14 p17 p18 v101 = some r) ?_ ?_
    ·refine At.cd K (o := (.tmp 30)) K (b := (p18 == 2)) K (fun hb125 => ?_) (fun hb125 => ?_)
     ·have H := ct H hb125
      refine At.region K K ?_
      refine In.run' 1 (k' := 1) rfl [(31, (pt g92 2))] K ?_
      refine In.step (k' := 2) rfl K ?_
      refine Step.load (t := 3) (x := (.tmp 31)) (g := g92) (off := 2) (i := 3) (v := (.int .i64 z80.2.2.1)) (d := (some 32)) (k := 1) K rfl K hs98 rfl K ?_
      refine In.run' 1 (k' := 3) rfl [(9, (.int .i64 z80.2.2.1))] K ?_
      refine In.fin K ?_
      exact ⟨z80.2.2.1, ⟨K, K, K, K, trivial⟩, SP.sel hs98 [0, 1, 2] rfl rfl, H⟩
     ·have H := cf H hb125
      refine At.skip K ?_
      exact ⟨z80.2.1, ⟨K, K, K, K, trivial⟩, SP.sel hs98 [0, 1, 2] rfl rfl, H⟩
    ·rintro ρ w102 ⟨v101, hk, hs103, H⟩
     unfold L_subwayref11_Gate_Take_k2 at H
     first | refine At.known [(0, (pt g1 0)), (1, (.string ⟨List.toArray p17⟩)), (2, (.int .i64 p18)), (9, (.int .i64 v101))] hk ?_ | rw [← known_updL (l := [(0, (pt g1 0)), (1, (.string ⟨List.toArray p17⟩)), (2, (.int .i64 p18)), (9, (.int .i64 v101))]) hk]
     refine At.sq K ?_
     refine At.sq K ?_
     refine At.region K K ?_
     refine In.run' 3 (k' := 3) rfl [(33, (pt g1 0)), (34, (.string ⟨List.toArray p17⟩)), (35, (.int .i64 p18))] K ?_
     obtain ⟨z104, hz105, H⟩ := bind_elim H
     refine In.step (k' := 4) rfl K ?_
     refine Step.callF (f := 21) (fo := (.func 21)) (xs := #[(.tmp 33), (.tmp 34), (.tmp 35)]) (tys := #[31, 9, 3]) (first := #[]) (captured := #[]) (d := (some 36)) (k := 3) K rfl K K Tryd.call21 (L_subwayref11_Gate_Used_walk g1 A7 c8 A12 c13 A15 c16 q2 q3 q4 q5 d10 q11 q14 p17 p18 w102 (SP.sub hs103 [2, 0, 1] rfl rfl) (fun w hm => hr9 w (SP.through hs103 (l := [2, 0, 1]) rfl hm)) z104 hz105) ?_
     rintro e w106 ⟨A108, c109, A110, c111, rfl, hs107⟩
     refine ⟨_, rfl, ?_⟩
     have hs113 : SP S w0 w106 [boxE g1 66 #[(.int .i64 q2), (.int .i64 q3), (.int .i64 q4), (.int .i64 q5), (.slice A7 (List.length (List.map stT d10)) c8), (.slice A108 (List.length q11) c109), (.slice A110 (List.length q14) c111)], rowT 3 (eInt .i64) A108 c109 q11, rowT 3 (eInt .i64) A110 c111 q14] := SP.callS hs103 [2, 0, 1] [] rfl rfl hs107 rfl
     clear hs107
     refine In.run' 2 (k' := 6) rfl [(37, (.int .i64 v101)), (38, (.bool (decide (z104 ≥ v101))))] K ?_
     refine In.fin K ?_
     refine At.cd K (o := (.tmp 38)) K (b := (decide (z104 ≥ v101))) K (fun hb114 => ?_) (fun hb114 => ?_)
     ·have H := ct H hb114
      refine At.sq K ?_
      refine At.region K K ?_
      refine In.run' 1 (k' := 1) rfl [(6, (.int .i64 112))] K ?_
      refine In.fin K ?_
      refine At.ret K ?_
      refine ⟨(.int .i64 112), K, ?_⟩
      obtain rfl := some_elim H
      exact ⟨A108, c109, A110, c111, rfl, SP.sel hs113 [0,1,2] rfl rfl⟩
     ·have H := cf H hb114
      refine At.skip K ?_
      refine At.sq K ?_
      refine At.region K K ?_
      refine In.run' 3 (k' := 3) rfl [(39, (pt g1 0)), (40, (.string ⟨List.toArray p17⟩)), (41, (.int .i64 p18))] K ?_
      obtain ⟨z115, hz116, H⟩ := bind_elim H
      refine In.step (k' := 4) rfl K ?_
      refine Step.callF (f := 25) (fo := (.func 25)) (xs := #[(.tmp 39), (.tmp 40), (.tmp 41), (.const (.int .i64 (1)))]) (tys := #[31, 9, 3, 3]) (first := #[]) (captured := #[]) (d := (some 42)) (k := 3) K rfl K K Tryd.call25 (L_subwayref11_Gate_add_walk g1 A7 c8 A108 c109 A110 c111 q2 q3 q4 q5 d10 q11 q14 p17 p18 1 w106 (SP.sub hs113 [0, 1, 2] rfl rfl) (fun w hm => hr9 w (SP.through hs113 (l := [0, 1, 2]) rfl hm)) z115 hz116) ?_
      rintro e w117 ⟨A119, c120, A121, c122, rfl, hs118⟩
      refine ⟨_, rfl, ?_⟩
      have hs124 : SP S w0 w117 [boxE g1 66 #[(.int .i64 z115.1), (.int .i64 z115.2.1), (.int .i64 z115.2.2.1), (.int .i64 z115.2.2.2.1), (.slice A7 (List.length (List.map stT d10)) c8), (.slice A119 (List.length z115.2.2.2.2.1) c120), (.slice A121 (List.length z115.2.2.2.2.2) c122)], rowT 3 (eInt .i64) A119 c120 z115.2.2.2.2.1, rowT 3 (eInt .i64) A121 c122 z115.2.2.2.2.2] := SP.callS hs113 [0, 1, 2] [] rfl rfl hs118 rfl
      clear hs118
      refine In.fin K ?_
      refine At.sq K ?_
      refine At.region K K ?_
      refine In.run' 1 (k' := 1) rfl [(6, (.int .i64 0))] K ?_
      refine In.fin K ?_
      refine At.ret K ?_
      refine ⟨(.int .i64 0), K, ?_⟩
      obtain rfl := some_elim H
      exact ⟨A119, c120, A121, c122, rfl, SP.sel hs124 [0,1,2] rfl rfl⟩
/-! L_subwayref11_Gate_Give -/
def L_subwayref11_Gate_Give (q2 : Int) (q3 : Int) (q4 : Int) (q5 : Int) (q6 : (List TenantL)) (q11 : (List Int)) (q14 : (List Int)) (p17 : (List UInt8)) (p18 : Int) : Option (Bool × Int × Int × Int × Int × (List Int) × (List Int)) :=
  ((L_subwayref11_Gate_Used q2 q3 q4 q5 q6 q11 q14 p17 p18).bind fun z44 => (cond (z44 == 0) (some (false, q2, q3, q4, q5, q11, q14)) ((L_subwayref11_Gate_add q2 q3 q4 q5 q6 q11 q14 p17 p18 (-1)).bind fun z55 => (some (true, z55.1, z55.2.1, z55.2.2.1, z55.2.2.2.1, z55.2.2.2.2.1, z55.2.2.2.2.2)))))
set_option maxRecDepth 100000 in
set_option maxHeartbeats 4000000 in
theorem L_subwayref11_Gate_Give_walk {S : List Nat} (g1 : Nat) (A7 : Option Addr) (c8 : Nat) (A12 : Option Addr) (c13 : Nat) (A15 : Option Addr) (c16 : Nat) (q2 : Int) (q3 : Int) (q4 : Int) (q5 : Int) (d10 : (List TenantD)) (q11 : (List Int)) (q14 : (List Int)) (p17 : (List UInt8)) (p18 : Int) (w0 : World) (hO : SP S w0 w0 [boxE g1 66 #[(.int .i64 q2), (.int .i64 q3), (.int .i64 q4), (.int .i64 q5), (.slice A7 (List.length (List.map stT d10)) c8), (.slice A12 (List.length q11) c13), (.slice A15 (List.length q14) c16)], rowT 3 (eInt .i64) A12 c13 q11, rowT 3 (eInt .i64) A15 c16 q14]) (hr9 : ∀ w, Mod S w0 w → (dDS eTen dTen).ok w (A7, c8, d10)) (r : (Bool × Int × Int × Int × Int × (List Int) × (List Int))) (H : L_subwayref11_Gate_Give q2 q3 q4 q5 (List.map stT d10) q11 q14 p17 p18 = some r) :
  Calls Tryd.prog 15 #[(pt g1 0), (.string ⟨List.toArray p17⟩), (.int .i64 p18)] w0 (fun e w' => ∃ (A40 : Option Addr) (c41 : Nat) (A42 : Option Addr) (c43 : Nat), e = .returned (.bool r.1) ∧ SP S w0 w' [boxE g1 66 #[(.int .i64 r.2.1), (.int .i64 r.2.2.1), (.int .i64 r.2.2.2.1), (.int .i64 r.2.2.2.2.1), (.slice A7 (List.length (List.map stT d10)) c8), (.slice A40 (List.length r.2.2.2.2.2.1) c41), (.slice A42 (List.length r.2.2.2.2.2.2) c43)], rowT 3 (eInt .i64) A40 c41 r.2.2.2.2.2.1, rowT 3 (eInt .i64) A42 c43 r.2.2.2.2.2.2]) := by
 unfold L_subwayref11_Gate_Give at H
 refine calls_go (n := 16) Tryd.func15 K K K ?_
 have hs0 := hO
 refine At.sq K ?_
 refine At.region K K ?_
 refine In.run' 1 (k' := 1) rfl [(6, (.bool false))] K ?_
 refine In.fin K ?_
 refine At.sq K ?_
 refine At.sq K ?_
 refine At.region K K ?_
 refine In.run' 3 (k' := 3) rfl [(7, (pt g1 0)), (8, (.string ⟨List.toArray p17⟩)), (9, (.int .i64 p18))] K ?_
 obtain ⟨z44, hz45, H⟩ := bind_elim H
 refine In.step (k' := 4) rfl K ?_
 refine Step.callF (f := 21) (fo := (.func 21)) (xs := #[(.tmp 7), (.tmp 8), (.tmp 9)]) (tys := #[31, 9, 3]) (first := #[]) (captured := #[]) (d := (some 10)) (k := 3) K rfl K K Tryd.call21 (L_subwayref11_Gate_Used_walk g1 A7 c8 A12 c13 A15 c16 q2 q3 q4 q5 d10 q11 q14 p17 p18 w0 (SP.sub hs0 [0, 1, 2] rfl rfl) (fun w hm => hr9 w (SP.through hs0 (l := [0, 1, 2]) rfl hm)) z44 hz45) ?_
 rintro e w46 ⟨A48, c49, A50, c51, rfl, hs47⟩
 refine ⟨_, rfl, ?_⟩
 have hs53 : SP S w0 w46 [boxE g1 66 #[(.int .i64 q2), (.int .i64 q3), (.int .i64 q4), (.int .i64 q5), (.slice A7 (List.length (List.map stT d10)) c8), (.slice A48 (List.length q11) c49), (.slice A50 (List.length q14) c51)], rowT 3 (eInt .i64) A48 c49 q11, rowT 3 (eInt .i64) A50 c51 q14] := SP.callS hs0 [0, 1, 2] [] rfl rfl hs47 rfl
 clear hs47
 refine In.run' 1 (k' := 5) rfl [(11, (.bool (z44 == 0)))] K ?_
 refine In.fin K ?_
 refine At.cd K (o := (.tmp 11)) K (b := (z44 == 0)) K (fun hb54 => ?_) (fun hb54 => ?_)
 ·have H := ct H hb54
  refine At.sq K ?_
  refine At.region K K ?_
  refine In.run' 1 (k' := 1) rfl [(6, (.bool false))] K ?_
  refine In.fin K ?_
  refine At.ret K ?_
  refine ⟨(.bool false), K, ?_⟩
  obtain rfl := some_elim H
  exact ⟨A48, c49, A50, c51, rfl, SP.sel hs53 [0,1,2] rfl rfl⟩
 ·have H := cf H hb54
  refine At.skip K ?_
  refine At.sq K ?_
  refine At.region K K ?_
  refine In.run' 3 (k' := 3) rfl [(12, (pt g1 0)), (13, (.string ⟨List.toArray p17⟩)), (14, (.int .i64 p18))] K ?_
  obtain ⟨z55, hz56, H⟩ := bind_elim H
  refine In.step (k' := 4) rfl K ?_
  refine Step.callF (f := 25) (fo := (.func 25)) (xs := #[(.tmp 12), (.tmp 13), (.tmp 14), (.const (.int .i64 (-1)))]) (tys := #[31, 9, 3, 3]) (first := #[]) (captured := #[]) (d := (some 15)) (k := 3) K rfl K K Tryd.call25 (L_subwayref11_Gate_add_walk g1 A7 c8 A48 c49 A50 c51 q2 q3 q4 q5 d10 q11 q14 p17 p18 (-1) w46 (SP.sub hs53 [0, 1, 2] rfl rfl) (fun w hm => hr9 w (SP.through hs53 (l := [0, 1, 2]) rfl hm)) z55 hz56) ?_
  rintro e w57 ⟨A59, c60, A61, c62, rfl, hs58⟩
  refine ⟨_, rfl, ?_⟩
  have hs64 : SP S w0 w57 [boxE g1 66 #[(.int .i64 z55.1), (.int .i64 z55.2.1), (.int .i64 z55.2.2.1), (.int .i64 z55.2.2.2.1), (.slice A7 (List.length (List.map stT d10)) c8), (.slice A59 (List.length z55.2.2.2.2.1) c60), (.slice A61 (List.length z55.2.2.2.2.2) c62)], rowT 3 (eInt .i64) A59 c60 z55.2.2.2.2.1, rowT 3 (eInt .i64) A61 c62 z55.2.2.2.2.2] := SP.callS hs53 [0, 1, 2] [] rfl rfl hs58 rfl
  clear hs58
  refine In.fin K ?_
  refine At.sq K ?_
  refine At.region K K ?_
  refine In.run' 1 (k' := 1) rfl [(6, (.bool true))] K ?_
  refine In.fin K ?_
  refine At.ret K ?_
  refine ⟨(.bool true), K, ?_⟩
  obtain rfl := some_elim H
  exact ⟨A59, c60, A61, c62, rfl, SP.sel hs64 [0,1,2] rfl rfl⟩
/-! L_subwayref11_Gate_Admit -/
def L_subwayref11_Gate_Admit_b1 (rec1 : Int → Option (Int)) (p18 : Int) (z101 : ((List UInt8) × Int × Int × (List (Int × Int)) × (List ((List UInt8) × (List UInt8) × Int)) × Bool)) (v142 : Int) : Option (Int) :=
  (cond (decide (v142 < ((List.length z101.2.2.2.1 : Nat) : Int))) ((idx z101.2.2.2.1 v142).bind fun x162 => ((L_subwayref04_In x162.1 x162.2 p18).bind fun z171 => (cond z171 (some (0)) (rec1 (IntKind.wrap .i64 (v142 + 1)))))) (cond (decide (((List.length z101.2.2.2.1 : Nat) : Int) > 0)) (some (111)) (some (0))))
def L_subwayref11_Gate_Admit_l1 (p18 : Int) (z101 : ((List UInt8) × Int × Int × (List (Int × Int)) × (List ((List UInt8) × (List UInt8) × Int)) × Bool)) : Nat → Int → Option (Int)
  | 0, _ => none
  | f + 1, v142 => L_subwayref11_Gate_Admit_b1  (L_subwayref11_Gate_Admit_l1 p18 z101 f) p18 z101 v142
def L_subwayref11_Gate_Admit (q2 : Int) (q3 : Int) (q4 : Int) (q5 : Int) (q6 : (List TenantL)) (q11 : (List Int)) (q14 : (List Int)) (p17 : (List UInt8)) (p18 : Int) : Option (Int) :=
  ((L_subwayref09_Find q2 q3 q4 q5 q6 p17).bind fun z101 => (cond (!z101.2.2.2.2.2) (some (3)) (L_subwayref11_Gate_Admit_l1 p18 z101 fuel 0)))
set_option maxRecDepth 100000 in
set_option maxHeartbeats 4000000 in
theorem L_subwayref11_Gate_Admit_walk {S : List Nat} (g1 : Nat) (A7 : Option Addr) (c8 : Nat) (A12 : Option Addr) (c13 : Nat) (A15 : Option Addr) (c16 : Nat) (q2 : Int) (q3 : Int) (q4 : Int) (q5 : Int) (d10 : (List TenantD)) (q11 : (List Int)) (q14 : (List Int)) (p17 : (List UInt8)) (p18 : Int) (w0 : World) (hO : SP S w0 w0 [boxE g1 66 #[(.int .i64 q2), (.int .i64 q3), (.int .i64 q4), (.int .i64 q5), (.slice A7 (List.length (List.map stT d10)) c8), (.slice A12 (List.length q11) c13), (.slice A15 (List.length q14) c16)], rowT 3 (eInt .i64) A12 c13 q11, rowT 3 (eInt .i64) A15 c16 q14]) (hr9 : ∀ w, Mod S w0 w → (dDS eTen dTen).ok w (A7, c8, d10)) (r : (Int)) (H : L_subwayref11_Gate_Admit q2 q3 q4 q5 (List.map stT d10) q11 q14 p17 p18 = some r) :
  Calls Tryd.prog 17 #[(pt g1 0), (.string ⟨List.toArray p17⟩), (.int .u32 p18)] w0 (fun e w' => ∃ (A97 : Option Addr) (c98 : Nat) (A99 : Option Addr) (c100 : Nat), e = .returned (.int .i64 r) ∧ SP S w0 w' [boxE g1 66 #[(.int .i64 q2), (.int .i64 q3), (.int .i64 q4), (.int .i64 q5), (.slice A7 (List.length (List.map stT d10)) c8), (.slice A97 (List.length q11) c98), (.slice A99 (List.length q14) c100)], rowT 3 (eInt .i64) A97 c98 q11, rowT 3 (eInt .i64) A99 c100 q14]) := by
 unfold L_subwayref11_Gate_Admit at H
 refine calls_go (n := 39) Tryd.func17 K K K ?_
 have hs0 := hO
 refine At.sq K ?_
 refine At.region K K ?_
 refine In.run' 1 (k' := 1) rfl [(6, (.int .i64 0))] K ?_
 refine In.fin K ?_
 refine At.sq K ?_
 refine At.region K K ?_
 refine In.run' 3 (k' := 3) rfl [(11, (pt g1 0)), (12, (pt g1 0)), (13, (pt g1 0))] K ?_
 refine In.step (k' := 4) rfl K ?_
 refine Step.load (t := 24) (x := (.tmp 13)) (g := g1) (off := 0) (i := 0) (v := (.agg #[(.int .i64 q2), (.int .i64 q3), (.int .i64 q4), (.int .i64 q5), (.slice A7 (List.length (List.map stT d10)) c8)])) (d := (some 14)) (k := 3) K rfl K hs0 rfl K ?_
 refine In.run' 1 (k' := 5) rfl [(15, (.string ⟨List.toArray p17⟩))] K ?_
 obtain ⟨z101, hz102, H⟩ := bind_elim H
 refine In.step (k' := 6) rfl K ?_
 refine Step.callF (f := 22) (fo := (.func 22)) (xs := #[(.tmp 14), (.tmp 15)]) (tys := #[24, 9]) (first := #[]) (captured := #[]) (d := (some 16)) (k := 5) K rfl K K Tryd.call22 (L_subwayref09_Find_walk (R := fun w => Mod S w0 w) A7 c8 q2 q3 q4 q5 d10 p17 w0 (fun w hb => mod_then hs0 hb) hr9 z101 hz102) ?_
 rintro e w103 ⟨A105, c106, A108, c109, rfl, hr107, hr110, hs104⟩
 refine ⟨_, rfl, ?_⟩
 have hs112 : SP S w0 w103 [boxE g1 66 #[(.int .i64 q2), (.int .i64 q3), (.int .i64 q4), (.int .i64 q5), (.slice A7 (List.length (List.map stT d10)) c8), (.slice A12 (List.length q11) c13), (.slice A15 (List.length q14) c16)], rowT 3 (eInt .i64) A12 c13 q11, rowT 3 (eInt .i64) A15 c16 q14] := SP.call hs0 hs104
 clear hs104
 refine In.run' 3 (k' := 9) rfl [(10, (.tuple #[(.agg #[(.string ⟨List.toArray z101.1⟩), (.int .i64 z101.2.1), (.int .i64 z101.2.2.1), (.slice A105 (List.length z101.2.2.2.1) c106), (.slice A108 (List.length z101.2.2.2.2.1) c109)]), (.bool z101.2.2.2.2.2)])), (17, (.agg #[(.string ⟨List.toArray z101.1⟩), (.int .i64 z101.2.1), (.int .i64 z101.2.2.1), (.slice A105 (List.length z101.2.2.2.1) c106), (.slice A108 (List.length z101.2.2.2.2.1) c109)])), (18, (.bool z101.2.2.2.2.2))] K ?_
 refine In.step (k' := 10) rfl K ?_
 refine Step.alloc (t := 45) (z := (.agg #[(.string ⟨List.toArray ([] : List UInt8)⟩), (.int .i64 0), (.int .i64 0), (.slice none (List.length ([] : List (Int × Int))) 0), (.slice none (List.length ([] : List ((List UInt8) × (List UInt8) × Int))) 0)])) (d := (some 7)) (k := 9) K rfl K hs112 ?_
 intro g113 w114 (hs116 : SP S w0 w114 [boxE g1 66 #[(.int .i64 q2), (.int .i64 q3), (.int .i64 q4), (.int .i64 q5), (.slice A7 (List.length (List.map stT d10)) c8), (.slice A12 (List.length q11) c13), (.slice A15 (List.length q14) c16)], rowT 3 (eInt .i64) A12 c13 q11, rowT 3 (eInt .i64) A15 c16 q14, boxE g113 45 #[(.string ⟨List.toArray ([] : List UInt8)⟩), (.int .i64 0), (.int .i64 0), (.slice none (List.length ([] : List (Int × Int))) 0), (.slice none (List.length ([] : List ((List UInt8) × (List UInt8) × Int))) 0)]])
 refine In.step (k' := 11) rfl K ?_
 refine Step.store (t := 45) (x := (.tmp 7)) (y := (.tmp 17)) (g := g113) (off := 0) (i := 3) (v := (.agg #[(.string ⟨List.toArray z101.1⟩), (.int .i64 z101.2.1), (.int .i64 z101.2.2.1), (.slice A105 (List.length z101.2.2.2.1) c106), (.slice A108 (List.length z101.2.2.2.2.1) c109)])) (cs' := #[(.string ⟨List.toArray z101.1⟩), (.int .i64 z101.2.1), (.int .i64 z101.2.2.1), (.slice A105 (List.length z101.2.2.2.1) c106), (.slice A108 (List.length z101.2.2.2.2.1) c109)]) (d := none) (k := 10) K rfl K K hs116 rfl K ?_
 intro w117 (hs119 : SP S w0 w117 [boxE g1 66 #[(.int .i64 q2), (.int .i64 q3), (.int .i64 q4), (.int .i64 q5), (.slice A7 (List.length (List.map stT d10)) c8), (.slice A12 (List.length q11) c13), (.slice A15 (List.length q14) c16)], rowT 3 (eInt .i64) A12 c13 q11, rowT 3 (eInt .i64) A15 c16 q14, boxE g113 45 #[(.string ⟨List.toArray z101.1⟩), (.int .i64 z101.2.1), (.int .i64 z101.2.2.1), (.slice A105 (List.length z101.2.2.2.1) c106), (.slice A108 (List.length z101.2.2.2.2.1) c109)]])
 refine In.run' 1 (k' := 12) rfl [(8, (.bool z101.2.2.2.2.2))] K ?_
 refine In.fin K ?_
 refine At.sq K ?_
 refine At.sq K ?_
 refine At.region K K ?_
 refine In.run' 2 (k' := 2) rfl [(19, (.bool z101.2.2.2.2.2)), (20, (.bool (!z101.2.2.2.2.2)))] K ?_
 refine In.fin K ?_
 refine At.cd K (o := (.tmp 20)) K (b := (!z101.2.2.2.2.2)) K (fun hb120 => ?_) (fun hb120 => ?_)
 ·have H := ct H hb120
  refine At.sq K ?_
  refine At.region K K ?_
  refine In.run' 1 (k' := 1) rfl [(6, (.int .i64 3))] K ?_
  refine In.fin K ?_
  refine At.ret K ?_
  refine ⟨(.int .i64 3), K, ?_⟩
  obtain rfl := some_elim H
  exact ⟨A12, c13, A15, c16, rfl, SP.sel hs119 [0,1,2] rfl rfl⟩
 ·have H := cf H hb120
  refine At.skip K ?_
  refine At.sq K ?_
  refine At.sq K ?_
  refine At.region K K ?_
  refine In.run' 1 (k' := 1) rfl [(9, (.int .i64 0))] K ?_
  refine In.fin K ?_
  refine At.bk K (id := 0) K ?_
  refine At.lp K (fun f1 ρ w => ∃ (v142 : Int), Known ρ [(2, (.int .u32 p18)), (7, (pt g113 0)), (9, (.int .i64 v142))] ∧ SP S w0 w [rowT 3 (eInt .i64) A12 c13 q11, rowT 3 (eInt .i64) A15 c16 q14, boxE g1 66 #[(.int .i64 q2), (.int .i64 q3), (.int .i64 q4), (.int .i64 q5), (.slice A7 (List.length (List.map stT d10)) c8), (.slice A12 (List.length q11) c13), (.slice A15 (List.length q14) c16)], boxE g113 45 #[(.string ⟨List.toArray z101.1⟩), (.int .i64 z101.2.1), (.int .i64 z101.2.2.1), (.slice A105 (List.length z101.2.2.2.1) c106), (.slice A108 (List.length z101.2.2.2.2.1) c109)]] ∧ L_subwayref11_Gate_Admit_l1 p18 z101 f1 v142 = some r) (by rintro ρ w ⟨v142, hk, hs, H⟩; cases H) ?_ fuel ?_
  ·rintro f1 ρ w140 ⟨v142, hk, hs141, H⟩
   refine At.known [(2, (.int .u32 p18)), (7, (pt g113 0)), (9, (.int .i64 v142))] hk ?_
   replace H := (show L_subwayref11_Gate_Admit_b1 (L_subwayref11_Gate_Admit_l1 p18 z101 f1) p18 z101 v142 = some r from H)
   unfold L_subwayref11_Gate_Admit_b1 at H
   refine At.sq K ?_
   refine At.sq K ?_
   refine At.region K K ?_
   refine In.run' 2 (k' := 2) rfl [(21, (.int .i64 v142)), (22, (pt g113 3))] K ?_
   refine In.step (k' := 3) rfl K ?_
   refine Step.load (t := 42) (x := (.tmp 22)) (g := g113) (off := 3) (i := 3) (v := (.slice A105 (List.length z101.2.2.2.1) c106)) (d := (some 23)) (k := 2) K rfl K hs141 rfl K ?_
   refine In.run' 2 (k' := 5) rfl [(24, (.int .i64 ((List.length z101.2.2.2.1 : Nat) : Int))), (25, (.bool (decide (v142 < ((List.length z101.2.2.2.1 : Nat) : Int)))))] K ?_
   refine In.fin K ?_
   refine At.cd K (o := (.tmp 25)) K (b := (decide (v142 < ((List.length z101.2.2.2.1 : Nat) : Int)))) K (fun hb161 => ?_) (fun hb161 => ?_)
   ·have H := ct H hb161
    refine At.skip K ?_
    refine At.sq K ?_
    refine At.bk K (id := 1) K ?_
    refine At.sq K ?_
    refine At.region K K ?_
    refine In.run' 1 (k' := 1) rfl [(28, (pt g113 3))] K ?_
    refine In.step (k' := 2) rfl K ?_
    refine Step.load (t := 42) (x := (.tmp 28)) (g := g113) (off := 3) (i := 3) (v := (.slice A105 (List.length z101.2.2.2.1) c106)) (d := (some 29)) (k := 1) K rfl K hs141 rfl K ?_
    refine In.run' 1 (k' := 3) rfl [(30, (.int .i64 v142))] K ?_
    obtain ⟨x162, hp163, hq164, hx165, H⟩ := idx_elim H
    refine In.step (k' := 4) rfl K ?_
    refine Step.elem (e := (ePair (eInt .u32) (eInt .i64))) (l := z101.2.2.2.1) (A := A105) (c := c106) (T := 42) (E := 51) (x := (.tmp 29)) (ix := (.tmp 30)) (ki := .i64) (iz := v142) (d := (some 31)) (k := 3) K rfl K K K K (hr107 w140 (SP.mod hs141)) hp163 hq164 ?_
    intro b166 o167 hA169 hb170 hc168
    refine In.step (k' := 5) rfl K ?_
    refine Step.cells (t := 51) (x := (.tmp 31)) (b := b166) (off := (o167 + Int.toNat v142 * (ePair (eInt .u32) (eInt .i64)).sz)) (xs := [(.int .u32 x162.1), (.int .i64 x162.2)]) (d := (some 32)) (k := 4) K rfl K K K (elem_cells0 (e := (ePair (eInt .u32) (eInt .i64))) (rdt_cells (hr107 w140 (SP.mod hs141)) hA169 hp163 hq164) hx165 rfl) ?_
    refine In.run' 1 (k' := 6) rfl [(33, (.int .u32 p18))] K ?_
    obtain ⟨z171, hz172, H⟩ := bind_elim H
    refine In.step (k' := 7) rfl K ?_
    refine Step.callF (f := 29) (fo := (.func 29)) (xs := #[(.tmp 32), (.tmp 33)]) (tys := #[51, 33]) (first := #[]) (captured := #[]) (d := (some 34)) (k := 6) K rfl K K Tryd.call29 (L_subwayref04_In_walk  x162.1 x162.2 p18 w140  z171 hz172) ?_
    rintro e w173 ⟨rfl, hs174⟩
    refine ⟨_, rfl, ?_⟩
    have hs176 : SP S w0 w173 [rowT 3 (eInt .i64) A12 c13 q11, rowT 3 (eInt .i64) A15 c16 q14, boxE g1 66 #[(.int .i64 q2), (.int .i64 q3), (.int .i64 q4), (.int .i64 q5), (.slice A7 (List.length (List.map stT d10)) c8), (.slice A12 (List.length q11) c13), (.slice A15 (List.length q14) c16)], boxE g113 45 #[(.string ⟨List.toArray z101.1⟩), (.int .i64 z101.2.1), (.int .i64 z101.2.2.1), (.slice A105 (List.length z101.2.2.2.1) c106), (.slice A108 (List.length z101.2.2.2.2.1) c109)]] := SP.call hs141 hs174
    clear hs174
    refine In.fin K ?_
    refine At.cd K (o := (.tmp 34)) K (b := z171) K (fun hb177 => ?_) (fun hb177 => ?_)
    ·have H := ct H hb177
     refine At.sq K ?_
     refine At.region K K ?_
     refine In.run' 1 (k' := 1) rfl [(6, (.int .i64 0))] K ?_
     refine In.fin K ?_
     refine At.ret K ?_
     refine ⟨(.int .i64 0), K, ?_⟩
     obtain rfl := some_elim H
     exact ⟨A12, c13, A15, c16, rfl, SP.sel hs176 [2,0,1] rfl rfl⟩
    ·have H := cf H hb177
     refine At.skip K ?_
     refine At.region K K ?_
     refine In.run' 3 (k' := 3) rfl [(26, (.int .i64 v142)), (27, (.int .i64 (IntKind.wrap .i64 (v142 + 1)))), (9, (.int .i64 (IntKind.wrap .i64 (v142 + 1))))] K ?_
     refine In.fin K ?_
     exact ⟨(IntKind.wrap .i64 (v142 + 1)), ⟨K, K, K, trivial⟩, SP.sel hs176 [0, 1, 2, 3] rfl rfl, H⟩
   ·have H := cf H hb161
    refine At.exit K (id := 0) K ?_
    refine At.sq K ?_
    refine At.sq K ?_
    refine At.region K K ?_
    refine In.run' 1 (k' := 1) rfl [(35, (pt g113 3))] K ?_
    refine In.step (k' := 2) rfl K ?_
    refine Step.load (t := 42) (x := (.tmp 35)) (g := g113) (off := 3) (i := 3) (v := (.slice A105 (List.length z101.2.2.2.1) c106)) (d := (some 36)) (k := 1) K rfl K hs141 rfl K ?_
    refine In.run' 2 (k' := 4) rfl [(37, (.int .i64 ((List.length z101.2.2.2.1 : Nat) : Int))), (38, (.bool (decide (((List.length z101.2.2.2.1 : Nat) : Int) > 0))))] K ?_
    refine In.fin K ?_
    refine At.cd K (o := (.tmp 38)) K (b := (decide (((List.length z101.2.2.2.1 : Nat) : Int) > 0))) K (fun hb178 => ?_) (fun hb178 => ?_)
    ·have H := ct H hb178
     refine At.sq K ?_
     refine At.region K K ?_
     refine In.run' 1 (k' := 1) rfl [(6, (.int .i64 111))] K ?_
     refine In.fin K ?_
     refine At.ret K ?_
     refine ⟨(.int .i64 111), K, ?_⟩
     obtain rfl := some_elim H
     exact ⟨A12, c13, A15, c16, rfl, SP.sel hs141 [2,0,1] rfl rfl⟩
    ·have H := cf H hb178
     refine At.skip K ?_
     refine At.sq K ?_
     refine At.region K K ?_
     refine In.run' 1 (k' := 1) rfl [(6, (.int .i64 0))] K ?_
     refine In.fin K ?_
     refine At.ret K ?_
     refine ⟨(.int .i64 0), K, ?_⟩
     obtain rfl := some_elim H
     exact ⟨A12, c13, A15, c16, rfl, SP.sel hs141 [2,0,1] rfl rfl⟩
  ·exact ⟨0, ⟨K, K, K, trivial⟩, SP.sel hs119 [1, 2, 0, 3] rfl rfl, H⟩
/-! L_subwaylaw11_great -/
def L_subwaylaw11_great_k4 (rec3 : Int → Option (Bool)) (p1 : (List (Int × (List UInt8) × Int × Int))) (v24 : Int) (v42 : Bool) : Option (Bool) :=
  (cond v42 ((idx p1 v24).bind fun x46 => (cond (decide (((List.length x46.2.1 : Nat) : Int) > 1000)) (some (true)) (rec3 (IntKind.wrap .i64 (v24 + 1))))) (some ((decide (((List.length p1 : Nat) : Int) > 200)))))
def L_subwaylaw11_great_b2 (rec3 : Int → Option (Bool)) (p1 : (List (Int × (List UInt8) × Int × Int))) (v24 : Int) : Option (Bool) :=
  (cond (decide (v24 < ((List.length p1 : Nat) : Int))) (L_subwaylaw11_great_k4 rec3 p1 v24 (decide (v24 < 300))) (L_subwaylaw11_great_k4 rec3 p1 v24 false))
def L_subwaylaw11_great_l2 (p1 : (List (Int × (List UInt8) × Int × Int))) : Nat → Int → Option (Bool)
  | 0, _ => none
  | f + 1, v24 => L_subwaylaw11_great_b2  (L_subwaylaw11_great_l2 p1 f) p1 v24
def L_subwaylaw11_great (p1 : (List (Int × (List UInt8) × Int × Int))) : Option (Bool) :=
  (L_subwaylaw11_great_l2 p1 fuel 0)
set_option maxRecDepth 100000 in
set_option maxHeartbeats 4000000 in
theorem L_subwaylaw11_great_walk (A2 : Option Addr) (c3 : Nat) (p1 : (List (Int × (List UInt8) × Int × Int))) (w0 : World) (hr4 : RdT (ePair (eInt .i64) (ePair eStr (ePair (eInt .i64) (eInt .u32)))) w0 A2 c3 p1) (r : (Bool)) (H : L_subwaylaw11_great p1 = some r) :
  Calls Tryd.prog 11 #[(.slice A2 (List.length p1) c3)] w0 (fun e w' => e = .returned (.bool r) ∧ SP [] w0 w' []) := by
 unfold L_subwaylaw11_great at H
 refine calls_go (n := 24) Tryd.func11 K K K ?_
 have hs0 := SP.start [] w0
 refine At.sq K ?_
 refine At.region K K ?_
 refine In.run' 1 (k' := 1) rfl [(2, (.bool false))] K ?_
 refine In.fin K ?_
 refine At.sq K ?_
 refine At.sq K ?_
 refine At.region K K ?_
 refine In.run' 1 (k' := 1) rfl [(3, (.int .i64 0))] K ?_
 refine In.fin K ?_
 refine At.bk K (id := 0) K ?_
 refine At.lp K (fun f3 ρ w => ∃ (v24 : Int), Known ρ [(0, (.slice A2 (List.length p1) c3)), (3, (.int .i64 v24))] ∧ SP [] w0 w [] ∧ L_subwaylaw11_great_l2 p1 f3 v24 = some r) (by rintro ρ w ⟨v24, hk, hs, H⟩; cases H) ?_ fuel ?_
 ·rintro f3 ρ w22 ⟨v24, hk, hs23, H⟩
  refine At.known [(0, (.slice A2 (List.length p1) c3)), (3, (.int .i64 v24))] hk ?_
  replace H := (show L_subwaylaw11_great_b2 (L_subwaylaw11_great_l2 p1 f3) p1 v24 = some r from H)
  unfold L_subwaylaw11_great_b2 at H
  refine At.sq K ?_
  refine At.sq K ?_
  refine At.join (fun ρ w => ∃ (v42 : Bool), Known ρ [(0, (.slice A2 (List.length p1) c3)), (3, (.int .i64 v24)), (11, (.bool v42))] ∧ SP [] w0 w [] ∧ L_subwaylaw11_great_k4 (L_subwaylaw11_great_l2 p1 f3) p1 v24 v42 = some r) ?_ ?_
  ·refine At.region K K ?_
   refine In.run' 5 (k' := 5) rfl [(4, (.int .i64 v24)), (5, (.slice A2 (List.length p1) c3)), (6, (.int .i64 ((List.length p1 : Nat) : Int))), (7, (.bool (decide (v24 < ((List.length p1 : Nat) : Int))))), (8, (.bool (decide (v24 < ((List.length p1 : Nat) : Int)))))] K ?_
   refine In.guard (t := 8) (b := (decide (v24 < ((List.length p1 : Nat) : Int)))) K (fun hb56 => ?_) (fun hb56 => ?_)
   ·have H := ct H hb56
    refine In.run' 3 (k' := 8) rfl [(9, (.int .i64 v24)), (10, (.bool (decide (v24 < 300)))), (11, (.bool (decide (v24 < 300))))] K ?_
    refine In.fin K ?_
    exact ⟨(decide (v24 < 300)), ⟨K, K, K, trivial⟩, SP.sel hs23 [] rfl rfl, H⟩
   ·have H := cf H hb56
    refine In.run' 3 (k' := 8) rfl [(9, undef), (10, undef), (11, (.bool false))] K ?_
    refine In.fin K ?_
    exact ⟨false, ⟨K, K, K, trivial⟩, SP.sel hs23 [] rfl rfl, H⟩
  ·rintro ρ w43 ⟨v42, hk, hs44, H⟩
   unfold L_subwaylaw11_great_k4 at H
   first | refine At.known [(0, (.slice A2 (List.length p1) c3)), (3, (.int .i64 v24)), (11, (.bool v42))] hk ?_ | rw [← known_updL (l := [(0, (.slice A2 (List.length p1) c3)), (3, (.int .i64 v24)), (11, (.bool v42))]) hk]
   refine At.cd K (o := (.tmp 11)) K (b := v42) K (fun hb45 => ?_) (fun hb45 => ?_)
   ·have H := ct H hb45
    refine At.skip K ?_
    refine At.sq K ?_
    refine At.bk K (id := 1) K ?_
    refine At.sq K ?_
    refine At.region K K ?_
    refine In.run' 2 (k' := 2) rfl [(14, (.slice A2 (List.length p1) c3)), (15, (.int .i64 v24))] K ?_
    obtain ⟨x46, hp47, hq48, hx49, H⟩ := idx_elim H
    refine In.step (k' := 3) rfl K ?_
    refine Step.elem (e := (ePair (eInt .i64) (ePair eStr (ePair (eInt .i64) (eInt .u32))))) (l := p1) (A := A2) (c := c3) (T := 25) (E := 35) (x := (.tmp 14)) (ix := (.tmp 15)) (ki := .i64) (iz := v24) (d := (some 16)) (k := 2) K rfl K K K K (RdT.sp hr4 hs44) hp47 hq48 ?_
    intro b50 o51 hA53 hb54 hc52
    refine In.run' 1 (k' := 4) rfl [(17, (.pointer (some ⟨b50, (o51 + Int.toNat v24 * (ePair (eInt .i64) (ePair eStr (ePair (eInt .i64) (eInt .u32)))).sz + 1), none⟩)))] K ?_
    refine In.step (k' := 5) rfl K ?_
    refine Step.cell (t := 9) (x := (.tmp 17)) (b := b50) (off := (o51 + Int.toNat v24 * (ePair (eInt .i64) (ePair eStr (ePair (eInt .i64) (eInt .u32)))).sz + 1)) (v := (.string ⟨List.toArray x46.2.1⟩)) (d := (some 18)) (k := 4) K rfl K K (elem_cell (e := (ePair (eInt .i64) (ePair eStr (ePair (eInt .i64) (eInt .u32))))) (rdt_cells (RdT.sp hr4 hs44) hA53 hp47 hq48) hx49 (j := 1) rfl) ?_
    refine In.run' 2 (k' := 7) rfl [(19, (.int .i64 ((List.length x46.2.1 : Nat) : Int))), (20, (.bool (decide (((List.length x46.2.1 : Nat) : Int) > 1000))))] K ?_
    refine In.fin K ?_
    refine At.cd K (o := (.tmp 20)) K (b := (decide (((List.length x46.2.1 : Nat) : Int) > 1000))) K (fun hb55 => ?_) (fun hb55 => ?_)
    ·have H := ct H hb55
     refine At.sq K ?_
     refine At.region K K ?_
     refine In.run' 1 (k' := 1) rfl [(2, (.bool true))] K ?_
     refine In.fin K ?_
     refine At.ret K ?_
     refine ⟨(.bool true), K, ?_⟩
     obtain rfl := some_elim H
     exact ⟨rfl, SP.sel hs44 [] rfl rfl⟩
    ·have H := cf H hb55
     refine At.skip K ?_
     refine At.region K K ?_
     refine In.run' 3 (k' := 3) rfl [(12, (.int .i64 v24)), (13, (.int .i64 (IntKind.wrap .i64 (v24 + 1)))), (3, (.int .i64 (IntKind.wrap .i64 (v24 + 1))))] K ?_
     refine In.fin K ?_
     exact ⟨(IntKind.wrap .i64 (v24 + 1)), ⟨K, K, trivial⟩, SP.sel hs44 [] rfl rfl, H⟩
   ·have H := cf H hb45
    refine At.exit K (id := 0) K ?_
    refine At.sq K ?_
    refine At.region K K ?_
    refine In.run' 4 (k' := 4) rfl [(21, (.slice A2 (List.length p1) c3)), (22, (.int .i64 ((List.length p1 : Nat) : Int))), (23, (.bool (decide (((List.length p1 : Nat) : Int) > 200)))), (2, (.bool (decide (((List.length p1 : Nat) : Int) > 200))))] K ?_
    refine In.fin K ?_
    refine At.ret K ?_
    refine ⟨(.bool (decide (((List.length p1 : Nat) : Int) > 200))), K, ?_⟩
    obtain rfl := some_elim H
    exact ⟨rfl, SP.sel hs44 [] rfl rfl⟩
 ·exact ⟨0, ⟨K, K, trivial⟩, SP.sel hs0 [] rfl rfl, H⟩
end Go.Proofs.YtfffjaijflbeaaaDoor
