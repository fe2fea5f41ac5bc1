/- LIFTED BY PROGRAM (tools/lift.py): what functions compute, and that they do. -/
import Derived.Test.YtfffjaijflbeaaaDoorLGT
import Derived.Test.YtfffjaijflbeaaaDoorLRG
import Derived.Test.YtfffjaijflbeaaaDoorLGN
namespace Go.Proofs.YtfffjaijflbeaaaDoor
set_option linter.unusedSimpArgs false
set_option linter.unusedVariables false
open Go.RowKit

/-! L_subwaylaw11_head -/
def L_subwaylaw11_head_k2 (v116 : Bool) : Option (Bool) :=
  (some (v116))
def L_subwaylaw11_head_k1 (o18 : ((List (List Int)))) (v43 : Bool) : Option (Bool) :=
  (cond v43 (some (false)) ((L_gate_Gate_Take ([(([97, 110, 110] : List UInt8), 0, 1, ([(167772160, 8)] : List (Int × Int)), ([] : List ((List UInt8) × (List UInt8) × Int)))] : List TenantL) o18 ([97, 110, 110] : List UInt8) 2).bind fun z47 => ((L_gate_Gate_Take ([(([97, 110, 110] : List UInt8), 0, 1, ([(167772160, 8)] : List (Int × Int)), ([] : List ((List UInt8) × (List UInt8) × Int)))] : List TenantL) z47.2 ([97, 110, 110] : List UInt8) 2).bind fun z53 => ((L_gate_Gate_Take ([(([97, 110, 110] : List UInt8), 0, 1, ([(167772160, 8)] : List (Int × Int)), ([] : List ((List UInt8) × (List UInt8) × Int)))] : List TenantL) z53.2 ([97, 110, 110] : List UInt8) 1).bind fun z59 => ((L_gate_Gate_Give ([(([97, 110, 110] : List UInt8), 0, 1, ([(167772160, 8)] : List (Int × Int)), ([] : List ((List UInt8) × (List UInt8) × Int)))] : List TenantL) z59.2 ([97, 110, 110] : List UInt8) 2).bind fun z65 => ((L_gate_Gate_Give ([(([97, 110, 110] : List UInt8), 0, 1, ([(167772160, 8)] : List (Int × Int)), ([] : List ((List UInt8) × (List UInt8) × Int)))] : List TenantL) z65.2 ([97, 110, 110] : List UInt8) 2).bind fun z71 => ((L_gate_Gate_Admit ([(([97, 110, 110] : List UInt8), 0, 1, ([(167772160, 8)] : List (Int × Int)), ([] : List ((List UInt8) × (List UInt8) × Int)))] : List TenantL) z71.2 ([97, 110, 110] : List UInt8) 167838211).bind fun z119 => (cond (z119 == 0) ((L_gate_Gate_Admit ([(([97, 110, 110] : List UInt8), 0, 1, ([(167772160, 8)] : List (Int × Int)), ([] : List ((List UInt8) × (List UInt8) × Int)))] : List TenantL) z71.2 ([97, 110, 110] : List UInt8) 184615427).bind fun z126 => (cond (z126 == 111) ((L_gate_Gate_Admit ([(([97, 110, 110] : List UInt8), 0, 1, ([(167772160, 8)] : List (Int × Int)), ([] : List ((List UInt8) × (List UInt8) × Int)))] : List TenantL) z71.2 ([98, 111, 98] : List UInt8) 0).bind fun z133 => (cond (z133 == 3) (cond (z47.1 == 0) (cond (z53.1 == 112) (cond (z59.1 == 112) (cond z65.1 (cond (!z71.1) ((L_gate_Gate_Used ([(([97, 110, 110] : List UInt8), 0, 1, ([(167772160, 8)] : List (Int × Int)), ([] : List ((List UInt8) × (List UInt8) × Int)))] : List TenantL) z71.2 ([97, 110, 110] : List UInt8) 2).bind fun z145 => (cond (z145 == 0) ((L_gate_Gate_Take ([(([97, 110, 110] : List UInt8), 0, 1, ([(167772160, 8)] : List (Int × Int)), ([] : List ((List UInt8) × (List UInt8) × Int)))] : List TenantL) z71.2 ([97, 110, 110] : List UInt8) 3).bind fun z152 => (L_subwaylaw11_head_k2 (z152.1 == 1))) (L_subwaylaw11_head_k2 false))) (L_subwaylaw11_head_k2 false)) (L_subwaylaw11_head_k2 false)) (L_subwaylaw11_head_k2 false)) (L_subwaylaw11_head_k2 false)) (L_subwaylaw11_head_k2 false)) (L_subwaylaw11_head_k2 false))) (L_subwaylaw11_head_k2 false))) (L_subwaylaw11_head_k2 false)))))))))
def L_subwaylaw11_head  : Option (Bool) :=
  ((L_gate_New 9 9 9 9 ([(([97, 110, 110] : List UInt8), 0, 1, ([(167772160, 8)] : List (Int × Int)), ([] : List ((List UInt8) × (List UInt8) × Int)))] : List TenantL)).bind fun z16 => (optE z16 (some (false)) (fun o18 => ((L_gate_New 0 0 0 0 ([] : List TenantL)).bind fun z158 => (optE z158 (L_subwaylaw11_head_k1 o18 false) (fun o160 => (L_subwaylaw11_head_k1 o18 true)))))))
set_option maxRecDepth 100000 in
set_option maxHeartbeats 4000000 in
theorem L_subwaylaw11_head_walk   (w0 : World) (hL : LaidW w0)  (r : (Bool)) (H : L_subwaylaw11_head  = some r) :
  Calls Tryd.prog 9 #[] w0 (fun e w' => e = .returned (.bool r) ∧ SP [] w0 w' []) := by
 unfold L_subwaylaw11_head at H
 refine calls_go (n := 74) Tryd.func9 K K K ?_
 have hs0 := SP.start [] w0
 refine At.sq K ?_
 refine At.region K K ?_
 refine In.run' 1 (k' := 1) rfl [(0, (.bool false))] K ?_
 refine In.fin K ?_
 refine At.sq K ?_
 refine At.region K K ?_
 refine In.run' 1 (k' := 1) rfl [(8, (.agg #[(.int .u32 167772160), (.int .i64 8)]))] K ?_
 refine In.step (k' := 2) rfl K ?_
 refine Step.newSlice (e := (ePair (eInt .u32) (eInt .i64))) (T := 42) (E := 51) (len := 1) (parts := #[(0, (.tmp 8))]) (cs := #[(.int .u32 167772160), (.int .i64 8)]) ([(167772160, 8)] : List (Int × Int)) (d := (some 9)) (k := 1) K rfl (fun _ => K) hs0 rfl rfl rfl rfl ?_
 intro g1 w2 (hs4 : SP [] w0 w2 [rowT 51 (ePair (eInt .u32) (eInt .i64)) (some ⟨g1, 0, none⟩) (List.length ([(167772160, 8)] : List (Int × Int))) ([(167772160, 8)] : List (Int × Int))])
 refine In.run' 1 (k' := 3) rfl [(10, (.agg #[(.string ⟨List.toArray ([97, 110, 110] : List UInt8)⟩), (.int .i64 0), (.int .i64 1), (.slice (some ⟨g1, 0, none⟩) (List.length ([(167772160, 8)] : List (Int × Int))) (List.length ([(167772160, 8)] : List (Int × Int)))), (.slice none (List.length ([] : List ((List UInt8) × (List UInt8) × Int))) 0)]))] K ?_
 refine In.step (k' := 4) rfl K ?_
 refine Step.newSlice (e := eTen) (T := 22) (E := 45) (len := 1) (parts := #[(0, (.tmp 10))]) (cs := #[(.string ⟨List.toArray ([97, 110, 110] : List UInt8)⟩), (.int .i64 0), (.int .i64 1), (.slice (some ⟨g1, 0, none⟩) (List.length ([(167772160, 8)] : List (Int × Int))) (List.length ([(167772160, 8)] : List (Int × Int)))), (.slice none (List.length ([] : List ((List UInt8) × (List UInt8) × Int))) 0)]) ([(([97, 110, 110] : List UInt8), 0, 1, ((some ⟨g1, 0, none⟩), (List.length ([(167772160, 8)] : List (Int × Int))), ([(167772160, 8)] : List (Int × Int))), (none, 0, ([] : List ((List UInt8) × (List UInt8) × Int))))] : List TenantD) (d := (some 11)) (k := 3) K rfl (fun _ => K) hs4 rfl rfl rfl rfl ?_
 intro g5 w6 (hs8 : SP [] w0 w6 [rowT 51 (ePair (eInt .u32) (eInt .i64)) (some ⟨g1, 0, none⟩) (List.length ([(167772160, 8)] : List (Int × Int))) ([(167772160, 8)] : List (Int × Int)), rowT 45 eTen (some ⟨g5, 0, none⟩) (List.length ([(([97, 110, 110] : List UInt8), 0, 1, ([(167772160, 8)] : List (Int × Int)), ([] : List ((List UInt8) × (List UInt8) × Int)))] : List TenantL)) ([(([97, 110, 110] : List UInt8), 0, 1, ((some ⟨g1, 0, none⟩), (List.length ([(167772160, 8)] : List (Int × Int))), ([(167772160, 8)] : List (Int × Int))), (none, 0, ([] : List ((List UInt8) × (List UInt8) × Int))))] : List TenantD)])
 refine In.run' 1 (k' := 5) rfl [(12, (.agg #[(.int .i64 9), (.int .i64 9), (.int .i64 9), (.int .i64 9), (.slice (some ⟨g5, 0, none⟩) (List.length ([(([97, 110, 110] : List UInt8), 0, 1, ([(167772160, 8)] : List (Int × Int)), ([] : List ((List UInt8) × (List UInt8) × Int)))] : List TenantL)) (List.length ([(([97, 110, 110] : List UInt8), 0, 1, ([(167772160, 8)] : List (Int × Int)), ([] : List ((List UInt8) × (List UInt8) × Int)))] : List TenantL)))]))] K ?_
 refine In.step (k' := 6) rfl K ?_
 refine Step.alloc (t := 24) (z := (.agg #[(.int .i64 0), (.int .i64 0), (.int .i64 0), (.int .i64 0), (.slice none (List.length ([] : List TenantL)) 0)])) (d := (some 1)) (k := 5) K rfl K hs8 ?_
 intro g9 w10 (hs12 : SP [] w0 w10 [rowT 51 (ePair (eInt .u32) (eInt .i64)) (some ⟨g1, 0, none⟩) (List.length ([(167772160, 8)] : List (Int × Int))) ([(167772160, 8)] : List (Int × Int)), rowT 45 eTen (some ⟨g5, 0, none⟩) (List.length ([(([97, 110, 110] : List UInt8), 0, 1, ([(167772160, 8)] : List (Int × Int)), ([] : List ((List UInt8) × (List UInt8) × Int)))] : List TenantL)) ([(([97, 110, 110] : List UInt8), 0, 1, ((some ⟨g1, 0, none⟩), (List.length ([(167772160, 8)] : List (Int × Int))), ([(167772160, 8)] : List (Int × Int))), (none, 0, ([] : List ((List UInt8) × (List UInt8) × Int))))] : List TenantD), boxE g9 24 #[(.int .i64 0), (.int .i64 0), (.int .i64 0), (.int .i64 0), (.slice none (List.length ([] : List TenantL)) 0)]])
 refine In.step (k' := 7) rfl K ?_
 refine Step.store (t := 24) (x := (.tmp 1)) (y := (.tmp 12)) (g := g9) (off := 0) (i := 2) (v := (.agg #[(.int .i64 9), (.int .i64 9), (.int .i64 9), (.int .i64 9), (.slice (some ⟨g5, 0, none⟩) (List.length ([(([97, 110, 110] : List UInt8), 0, 1, ([(167772160, 8)] : List (Int × Int)), ([] : List ((List UInt8) × (List UInt8) × Int)))] : List TenantL)) (List.length ([(([97, 110, 110] : List UInt8), 0, 1, ([(167772160, 8)] : List (Int × Int)), ([] : List ((List UInt8) × (List UInt8) × Int)))] : List TenantL)))])) (cs' := #[(.int .i64 9), (.int .i64 9), (.int .i64 9), (.int .i64 9), (.slice (some ⟨g5, 0, none⟩) (List.length ([(([97, 110, 110] : List UInt8), 0, 1, ([(167772160, 8)] : List (Int × Int)), ([] : List ((List UInt8) × (List UInt8) × Int)))] : List TenantL)) (List.length ([(([97, 110, 110] : List UInt8), 0, 1, ([(167772160, 8)] : List (Int × Int)), ([] : List ((List UInt8) × (List UInt8) × Int)))] : List TenantL)))]) (d := none) (k := 6) K rfl K K hs12 rfl K ?_
 intro w13 (hs15 : SP [] w0 w13 [rowT 51 (ePair (eInt .u32) (eInt .i64)) (some ⟨g1, 0, none⟩) (List.length ([(167772160, 8)] : List (Int × Int))) ([(167772160, 8)] : List (Int × Int)), rowT 45 eTen (some ⟨g5, 0, none⟩) (List.length ([(([97, 110, 110] : List UInt8), 0, 1, ([(167772160, 8)] : List (Int × Int)), ([] : List ((List UInt8) × (List UInt8) × Int)))] : List TenantL)) ([(([97, 110, 110] : List UInt8), 0, 1, ((some ⟨g1, 0, none⟩), (List.length ([(167772160, 8)] : List (Int × Int))), ([(167772160, 8)] : List (Int × Int))), (none, 0, ([] : List ((List UInt8) × (List UInt8) × Int))))] : List TenantD), boxE g9 24 #[(.int .i64 9), (.int .i64 9), (.int .i64 9), (.int .i64 9), (.slice (some ⟨g5, 0, none⟩) (List.length ([(([97, 110, 110] : List UInt8), 0, 1, ([(167772160, 8)] : List (Int × Int)), ([] : List ((List UInt8) × (List UInt8) × Int)))] : List TenantL)) (List.length ([(([97, 110, 110] : List UInt8), 0, 1, ([(167772160, 8)] : List (Int × Int)), ([] : List ((List UInt8) × (List UInt8) × Int)))] : List TenantL)))]])
 refine In.fin K ?_
 refine At.sq K ?_
 refine At.region K K ?_
 refine In.step (k' := 1) rfl K ?_
 refine Step.load (t := 24) (x := (.tmp 1)) (g := g9) (off := 0) (i := 2) (v := (.agg #[(.int .i64 9), (.int .i64 9), (.int .i64 9), (.int .i64 9), (.slice (some ⟨g5, 0, none⟩) (List.length ([(([97, 110, 110] : List UInt8), 0, 1, ([(167772160, 8)] : List (Int × Int)), ([] : List ((List UInt8) × (List UInt8) × Int)))] : List TenantL)) (List.length ([(([97, 110, 110] : List UInt8), 0, 1, ([(167772160, 8)] : List (Int × Int)), ([] : List ((List UInt8) × (List UInt8) × Int)))] : List TenantL)))])) (d := (some 13)) (k := 0) K rfl K hs15 rfl K ?_
 obtain ⟨z16, hz17, H⟩ := bind_elim H
 rcases z16 with _ | o18
 ·have H := optN H
  refine In.step (k' := 2) rfl K ?_
  refine Step.callF (f := 12) (fo := (.func 12)) (xs := #[(.tmp 13)]) (tys := #[24]) (first := #[]) (captured := #[]) (d := (some 14)) (k := 1) K rfl K K Tryd.call12 (L_gate_New_walk (some ⟨g5, 0, none⟩) (List.length ([(([97, 110, 110] : List UInt8), 0, 1, ([(167772160, 8)] : List (Int × Int)), ([] : List ((List UInt8) × (List UInt8) × Int)))] : List TenantL)) 9 9 9 9 ([(([97, 110, 110] : List UInt8), 0, 1, ((some ⟨g1, 0, none⟩), (List.length ([(167772160, 8)] : List (Int × Int))), ([(167772160, 8)] : List (Int × Int))), (none, 0, ([] : List ((List UInt8) × (List UInt8) × Int))))] : List TenantD) w13 (laid_below hL (SP.keeps hs15)) (ds_mk (rowT_rd (SP.get hs15 (i := 1) rfl)) (el_cons (dp_mk dT_ok (dp_mk dT_ok (dp_mk dT_ok (dp_mk (ds_flat (rowT_rd (SP.get hs15 (i := 0) rfl))) (ds_flat (RdT.nil (ePair eStr (ePair eStr (eInt .i64))) w13)))))) el_nil)) none hz17) ?_
  rintro e w19 ⟨rfl, hs20⟩
  refine ⟨_, rfl, ?_⟩
  have hs22 : SP [] w0 w19 [rowT 51 (ePair (eInt .u32) (eInt .i64)) (some ⟨g1, 0, none⟩) (List.length ([(167772160, 8)] : List (Int × Int))) ([(167772160, 8)] : List (Int × Int)), rowT 45 eTen (some ⟨g5, 0, none⟩) (List.length ([(([97, 110, 110] : List UInt8), 0, 1, ([(167772160, 8)] : List (Int × Int)), ([] : List ((List UInt8) × (List UInt8) × Int)))] : List TenantL)) ([(([97, 110, 110] : List UInt8), 0, 1, ((some ⟨g1, 0, none⟩), (List.length ([(167772160, 8)] : List (Int × Int))), ([(167772160, 8)] : List (Int × Int))), (none, 0, ([] : List ((List UInt8) × (List UInt8) × Int))))] : List TenantD), boxE g9 24 #[(.int .i64 9), (.int .i64 9), (.int .i64 9), (.int .i64 9), (.slice (some ⟨g5, 0, none⟩) (List.length ([(([97, 110, 110] : List UInt8), 0, 1, ([(167772160, 8)] : List (Int × Int)), ([] : List ((List UInt8) × (List UInt8) × Int)))] : List TenantL)) (List.length ([(([97, 110, 110] : List UInt8), 0, 1, ([(167772160, 8)] : List (Int × Int)), ([] : List ((List UInt8) × (List UInt8) × Int)))] : List TenantL)))]] := SP.call hs15 hs20
  clear hs20
  refine In.run' 1 (k' := 3) rfl [(2, (.pointer none))] K ?_
  refine In.fin K ?_
  refine At.sq K ?_
  refine At.sq K ?_
  refine At.region K K ?_
  refine In.run' 7 (k' := 7) rfl [(15, (.pointer none)), (16, (.bool true)), (17, (.bool true)), (18, undef), (19, undef), (20, undef), (21, (.bool true))] K ?_
  refine In.fin K ?_
  refine At.cd K (o := (.tmp 21)) K (b := true) K (fun hb23 => ?_) (fun hb23 => ?_)
  rotate_left
  ·cases hb23
  refine At.sq K ?_
  refine At.region K K ?_
  refine In.run' 1 (k' := 1) rfl [(0, (.bool false))] K ?_
  refine In.fin K ?_
  refine At.ret K ?_
  refine ⟨(.bool false), K, ?_⟩
  obtain rfl := some_elim H
  exact ⟨rfl, SP.sel hs22 [] rfl rfl⟩
 ·have H := optS H
  refine In.step (k' := 2) rfl K ?_
  refine Step.callF (f := 12) (fo := (.func 12)) (xs := #[(.tmp 13)]) (tys := #[24]) (first := #[]) (captured := #[]) (d := (some 14)) (k := 1) K rfl K K Tryd.call12 (L_gate_New_walk (some ⟨g5, 0, none⟩) (List.length ([(([97, 110, 110] : List UInt8), 0, 1, ([(167772160, 8)] : List (Int × Int)), ([] : List ((List UInt8) × (List UInt8) × Int)))] : List TenantL)) 9 9 9 9 ([(([97, 110, 110] : List UInt8), 0, 1, ((some ⟨g1, 0, none⟩), (List.length ([(167772160, 8)] : List (Int × Int))), ([(167772160, 8)] : List (Int × Int))), (none, 0, ([] : List ((List UInt8) × (List UInt8) × Int))))] : List TenantD) w13 (laid_below hL (SP.keeps hs15)) (ds_mk (rowT_rd (SP.get hs15 (i := 1) rfl)) (el_cons (dp_mk dT_ok (dp_mk dT_ok (dp_mk dT_ok (dp_mk (ds_flat (rowT_rd (SP.get hs15 (i := 0) rfl))) (ds_flat (RdT.nil (ePair eStr (ePair eStr (eInt .i64))) w13)))))) el_nil)) (some o18) hz17) ?_
  rintro e w24 ⟨g26, F27, rfl, hs25⟩
  refine ⟨_, rfl, ?_⟩
  have hs29 : SP [] w0 w24 [rowT 51 (ePair (eInt .u32) (eInt .i64)) (some ⟨g1, 0, none⟩) (List.length ([(167772160, 8)] : List (Int × Int))) ([(167772160, 8)] : List (Int × Int)), rowT 45 eTen (some ⟨g5, 0, none⟩) (List.length ([(([97, 110, 110] : List UInt8), 0, 1, ([(167772160, 8)] : List (Int × Int)), ([] : List ((List UInt8) × (List UInt8) × Int)))] : List TenantL)) ([(([97, 110, 110] : List UInt8), 0, 1, ((some ⟨g1, 0, none⟩), (List.length ([(167772160, 8)] : List (Int × Int))), ([(167772160, 8)] : List (Int × Int))), (none, 0, ([] : List ((List UInt8) × (List UInt8) × Int))))] : List TenantD), boxE g9 24 #[(.int .i64 9), (.int .i64 9), (.int .i64 9), (.int .i64 9), (.slice (some ⟨g5, 0, none⟩) (List.length ([(([97, 110, 110] : List UInt8), 0, 1, ([(167772160, 8)] : List (Int × Int)), ([] : List ((List UInt8) × (List UInt8) × Int)))] : List TenantL)) (List.length ([(([97, 110, 110] : List UInt8), 0, 1, ([(167772160, 8)] : List (Int × Int)), ([] : List ((List UInt8) × (List UInt8) × Int)))] : List TenantL)))], gateE g26 F27 ([(([97, 110, 110] : List UInt8), 0, 1, ((some ⟨g1, 0, none⟩), (List.length ([(167772160, 8)] : List (Int × Int))), ([(167772160, 8)] : List (Int × Int))), (none, 0, ([] : List ((List UInt8) × (List UInt8) × Int))))] : List TenantD) o18] := SP.call hs15 hs25
  clear hs25
  refine In.run' 1 (k' := 3) rfl [(2, (pt g26 0))] K ?_
  refine In.fin K ?_
  refine At.sq K ?_
  refine At.sq K ?_
  refine At.join (fun ρ w => ∃ (v43 : Bool), Known ρ [(2, (pt g26 0)), (21, (.bool v43))] ∧ SP [] w0 w [rowT 45 eTen (some ⟨g5, 0, none⟩) (List.length ([(([97, 110, 110] : List UInt8), 0, 1, ([(167772160, 8)] : List (Int × Int)), ([] : List ((List UInt8) × (List UInt8) × Int)))] : List TenantL)) ([(([97, 110, 110] : List UInt8), 0, 1, ((some ⟨g1, 0, none⟩), (List.length ([(167772160, 8)] : List (Int × Int))), ([(167772160, 8)] : List (Int × Int))), (none, 0, ([] : List ((List UInt8) × (List UInt8) × Int))))] : List TenantD), rowT 51 (ePair (eInt .u32) (eInt .i64)) (some ⟨g1, 0, none⟩) (List.length ([(167772160, 8)] : List (Int × Int))) ([(167772160, 8)] : List (Int × Int)), gateE g26 F27 ([(([97, 110, 110] : List UInt8), 0, 1, ((some ⟨g1, 0, none⟩), (List.length ([(167772160, 8)] : List (Int × Int))), ([(167772160, 8)] : List (Int × Int))), (none, 0, ([] : List ((List UInt8) × (List UInt8) × Int))))] : List TenantD) o18] ∧ L_subwaylaw11_head_k1 o18 v43 = some r) ?_ ?_
  ·refine At.region K K ?_
   refine In.run' 4 (k' := 4) rfl [(15, (pt g26 0)), (16, (.bool false)), (17, (.bool false)), (18, (.agg #[(.int .i64 0), (.int .i64 0), (.int .i64 0), (.int .i64 0), (.slice none (List.length ([] : List TenantL)) 0)]))] K ?_
   obtain ⟨z158, hz159, H⟩ := bind_elim H
   rcases z158 with _ | o160
   ·have H := optN H
    refine In.step (k' := 5) rfl K ?_
    refine Step.callF (f := 12) (fo := (.func 12)) (xs := #[(.tmp 18)]) (tys := #[24]) (first := #[]) (captured := #[]) (d := (some 19)) (k := 4) K rfl K K Tryd.call12 (L_gate_New_walk none 0 0 0 0 0 ([] : List TenantD) w24 (laid_below hL (SP.keeps hs29)) (ds_nil eTen dTen w24) none hz159) ?_
    rintro e w161 ⟨rfl, hs162⟩
    refine ⟨_, rfl, ?_⟩
    have hs164 : SP [] w0 w161 [rowT 51 (ePair (eInt .u32) (eInt .i64)) (some ⟨g1, 0, none⟩) (List.length ([(167772160, 8)] : List (Int × Int))) ([(167772160, 8)] : List (Int × Int)), rowT 45 eTen (some ⟨g5, 0, none⟩) (List.length ([(([97, 110, 110] : List UInt8), 0, 1, ([(167772160, 8)] : List (Int × Int)), ([] : List ((List UInt8) × (List UInt8) × Int)))] : List TenantL)) ([(([97, 110, 110] : List UInt8), 0, 1, ((some ⟨g1, 0, none⟩), (List.length ([(167772160, 8)] : List (Int × Int))), ([(167772160, 8)] : List (Int × Int))), (none, 0, ([] : List ((List UInt8) × (List UInt8) × Int))))] : List TenantD), boxE g9 24 #[(.int .i64 9), (.int .i64 9), (.int .i64 9), (.int .i64 9), (.slice (some ⟨g5, 0, none⟩) (List.length ([(([97, 110, 110] : List UInt8), 0, 1, ([(167772160, 8)] : List (Int × Int)), ([] : List ((List UInt8) × (List UInt8) × Int)))] : List TenantL)) (List.length ([(([97, 110, 110] : List UInt8), 0, 1, ([(167772160, 8)] : List (Int × Int)), ([] : List ((List UInt8) × (List UInt8) × Int)))] : List TenantL)))], gateE g26 F27 ([(([97, 110, 110] : List UInt8), 0, 1, ((some ⟨g1, 0, none⟩), (List.length ([(167772160, 8)] : List (Int × Int))), ([(167772160, 8)] : List (Int × Int))), (none, 0, ([] : List ((List UInt8) × (List UInt8) × Int))))] : List TenantD) o18] := SP.call hs29 hs162
    clear hs162
    refine In.run' 2 (k' := 7) rfl [(20, (.bool false)), (21, (.bool false))] K ?_
    refine In.fin K ?_
    exact ⟨false, ⟨K, K, trivial⟩, SP.sel hs164 [1, 0, 3] rfl rfl, H⟩
   ·have H := optS H
    refine In.step (k' := 5) rfl K ?_
    refine Step.callF (f := 12) (fo := (.func 12)) (xs := #[(.tmp 18)]) (tys := #[24]) (first := #[]) (captured := #[]) (d := (some 19)) (k := 4) K rfl K K Tryd.call12 (L_gate_New_walk none 0 0 0 0 0 ([] : List TenantD) w24 (laid_below hL (SP.keeps hs29)) (ds_nil eTen dTen w24) (some o160) hz159) ?_
    rintro e w165 ⟨g167, F168, rfl, hs166⟩
    refine ⟨_, rfl, ?_⟩
    have hs170 : SP [] w0 w165 [rowT 51 (ePair (eInt .u32) (eInt .i64)) (some ⟨g1, 0, none⟩) (List.length ([(167772160, 8)] : List (Int × Int))) ([(167772160, 8)] : List (Int × Int)), rowT 45 eTen (some ⟨g5, 0, none⟩) (List.length ([(([97, 110, 110] : List UInt8), 0, 1, ([(167772160, 8)] : List (Int × Int)), ([] : List ((List UInt8) × (List UInt8) × Int)))] : List TenantL)) ([(([97, 110, 110] : List UInt8), 0, 1, ((some ⟨g1, 0, none⟩), (List.length ([(167772160, 8)] : List (Int × Int))), ([(167772160, 8)] : List (Int × Int))), (none, 0, ([] : List ((List UInt8) × (List UInt8) × Int))))] : List TenantD), boxE g9 24 #[(.int .i64 9), (.int .i64 9), (.int .i64 9), (.int .i64 9), (.slice (some ⟨g5, 0, none⟩) (List.length ([(([97, 110, 110] : List UInt8), 0, 1, ([(167772160, 8)] : List (Int × Int)), ([] : List ((List UInt8) × (List UInt8) × Int)))] : List TenantL)) (List.length ([(([97, 110, 110] : List UInt8), 0, 1, ([(167772160, 8)] : List (Int × Int)), ([] : List ((List UInt8) × (List UInt8) × Int)))] : List TenantL)))], gateE g26 F27 ([(([97, 110, 110] : List UInt8), 0, 1, ((some ⟨g1, 0, none⟩), (List.length ([(167772160, 8)] : List (Int × Int))), ([(167772160, 8)] : List (Int × Int))), (none, 0, ([] : List ((List UInt8) × (List UInt8) × Int))))] : List TenantD) o18, gateE g167 F168 ([] : List TenantD) o160] := SP.call hs29 hs166
    clear hs166
    refine In.run' 2 (k' := 7) rfl [(20, (.bool true)), (21, (.bool true))] K ?_
    refine In.fin K ?_
    exact ⟨true, ⟨K, K, trivial⟩, SP.sel hs170 [1, 0, 3] rfl rfl, H⟩
  ·rintro ρ w44 ⟨v43, hk, hs45, H⟩
   unfold L_subwaylaw11_head_k1 at H
   first | refine At.known [(2, (pt g26 0)), (21, (.bool v43))] hk ?_ | rw [← known_updL (l := [(2, (pt g26 0)), (21, (.bool v43))]) hk]
   refine At.cd K (o := (.tmp 21)) K (b := v43) K (fun hb46 => ?_) (fun hb46 => ?_)
   ·have H := ct H hb46
    refine At.sq K ?_
    refine At.region K K ?_
    refine In.run' 1 (k' := 1) rfl [(0, (.bool false))] K ?_
    refine In.fin K ?_
    refine At.ret K ?_
    refine ⟨(.bool false), K, ?_⟩
    obtain rfl := some_elim H
    exact ⟨rfl, SP.sel hs45 [] rfl rfl⟩
   ·have H := cf H hb46
    refine At.skip K ?_
    refine At.sq K ?_
    refine At.region K K ?_
    refine In.run' 1 (k' := 1) rfl [(22, (pt g26 0))] K ?_
    obtain ⟨z47, hz48, H⟩ := bind_elim H
    refine In.step (k' := 2) rfl K ?_
    refine Step.callF (f := 18) (fo := (.func 18)) (xs := #[(.tmp 22), (.const (.string ⟨List.toArray ([97, 110, 110] : List UInt8)⟩)), (.const (.int .i64 (2)))]) (tys := #[29, 9, 3]) (first := #[]) (captured := #[]) (d := (some 23)) (k := 1) K rfl K K Tryd.call18 (L_gate_Gate_Take_walk g26 (some ⟨g5, 0, none⟩) (List.length ([(([97, 110, 110] : List UInt8), 0, 1, ([(167772160, 8)] : List (Int × Int)), ([] : List ((List UInt8) × (List UInt8) × Int)))] : List TenantL)) F27 ([(([97, 110, 110] : List UInt8), 0, 1, ((some ⟨g1, 0, none⟩), (List.length ([(167772160, 8)] : List (Int × Int))), ([(167772160, 8)] : List (Int × Int))), (none, 0, ([] : List ((List UInt8) × (List UInt8) × Int))))] : List TenantD) o18 ([97, 110, 110] : List UInt8) 2 w44 (SP.sub hs45 [2] rfl rfl) (fun w hm => ds_mk (rowT_rd (SP.still hs45 (l := [2]) (i := 0) rfl rfl rfl hm)) (el_cons (dp_mk dT_ok (dp_mk dT_ok (dp_mk dT_ok (dp_mk (ds_flat (rowT_rd (SP.still hs45 (l := [2]) (i := 1) rfl rfl rfl hm))) (ds_nil (ePair eStr (ePair eStr (eInt .i64))) dT w))))) el_nil)) z47 hz48) ?_
    rintro e w49 ⟨rfl, hs50⟩
    refine ⟨_, rfl, ?_⟩
    have hs52 : SP [] w0 w49 [rowT 45 eTen (some ⟨g5, 0, none⟩) (List.length ([(([97, 110, 110] : List UInt8), 0, 1, ([(167772160, 8)] : List (Int × Int)), ([] : List ((List UInt8) × (List UInt8) × Int)))] : List TenantL)) ([(([97, 110, 110] : List UInt8), 0, 1, ((some ⟨g1, 0, none⟩), (List.length ([(167772160, 8)] : List (Int × Int))), ([(167772160, 8)] : List (Int × Int))), (none, 0, ([] : List ((List UInt8) × (List UInt8) × Int))))] : List TenantD), rowT 51 (ePair (eInt .u32) (eInt .i64)) (some ⟨g1, 0, none⟩) (List.length ([(167772160, 8)] : List (Int × Int))) ([(167772160, 8)] : List (Int × Int)), gateE g26 F27 ([(([97, 110, 110] : List UInt8), 0, 1, ((some ⟨g1, 0, none⟩), (List.length ([(167772160, 8)] : List (Int × Int))), ([(167772160, 8)] : List (Int × Int))), (none, 0, ([] : List ((List UInt8) × (List UInt8) × Int))))] : List TenantD) z47.2] := SP.callS hs45 [2] [0, 1] rfl rfl hs50 rfl
    clear hs50
    refine In.run' 1 (k' := 3) rfl [(3, (.int .i64 z47.1))] K ?_
    refine In.fin K ?_
    refine At.sq K ?_
    refine At.region K K ?_
    refine In.run' 1 (k' := 1) rfl [(24, (pt g26 0))] K ?_
    obtain ⟨z53, hz54, H⟩ := bind_elim H
    refine In.step (k' := 2) rfl K ?_
    refine Step.callF (f := 18) (fo := (.func 18)) (xs := #[(.tmp 24), (.const (.string ⟨List.toArray ([97, 110, 110] : List UInt8)⟩)), (.const (.int .i64 (2)))]) (tys := #[29, 9, 3]) (first := #[]) (captured := #[]) (d := (some 25)) (k := 1) K rfl K K Tryd.call18 (L_gate_Gate_Take_walk g26 (some ⟨g5, 0, none⟩) (List.length ([(([97, 110, 110] : List UInt8), 0, 1, ([(167772160, 8)] : List (Int × Int)), ([] : List ((List UInt8) × (List UInt8) × Int)))] : List TenantL)) F27 ([(([97, 110, 110] : List UInt8), 0, 1, ((some ⟨g1, 0, none⟩), (List.length ([(167772160, 8)] : List (Int × Int))), ([(167772160, 8)] : List (Int × Int))), (none, 0, ([] : List ((List UInt8) × (List UInt8) × Int))))] : List TenantD) z47.2 ([97, 110, 110] : List UInt8) 2 w49 (SP.sub hs52 [2] rfl rfl) (fun w hm => ds_mk (rowT_rd (SP.still hs52 (l := [2]) (i := 0) rfl rfl rfl hm)) (el_cons (dp_mk dT_ok (dp_mk dT_ok (dp_mk dT_ok (dp_mk (ds_flat (rowT_rd (SP.still hs52 (l := [2]) (i := 1) rfl rfl rfl hm))) (ds_nil (ePair eStr (ePair eStr (eInt .i64))) dT w))))) el_nil)) z53 hz54) ?_
    rintro e w55 ⟨rfl, hs56⟩
    refine ⟨_, rfl, ?_⟩
    have hs58 : SP [] w0 w55 [rowT 45 eTen (some ⟨g5, 0, none⟩) (List.length ([(([97, 110, 110] : List UInt8), 0, 1, ([(167772160, 8)] : List (Int × Int)), ([] : List ((List UInt8) × (List UInt8) × Int)))] : List TenantL)) ([(([97, 110, 110] : List UInt8), 0, 1, ((some ⟨g1, 0, none⟩), (List.length ([(167772160, 8)] : List (Int × Int))), ([(167772160, 8)] : List (Int × Int))), (none, 0, ([] : List ((List UInt8) × (List UInt8) × Int))))] : List TenantD), rowT 51 (ePair (eInt .u32) (eInt .i64)) (some ⟨g1, 0, none⟩) (List.length ([(167772160, 8)] : List (Int × Int))) ([(167772160, 8)] : List (Int × Int)), gateE g26 F27 ([(([97, 110, 110] : List UInt8), 0, 1, ((some ⟨g1, 0, none⟩), (List.length ([(167772160, 8)] : List (Int × Int))), ([(167772160, 8)] : List (Int × Int))), (none, 0, ([] : List ((List UInt8) × (List UInt8) × Int))))] : List TenantD) z53.2] := SP.callS hs52 [2] [0, 1] rfl rfl hs56 rfl
    clear hs56
    refine In.run' 1 (k' := 3) rfl [(4, (.int .i64 z53.1))] K ?_
    refine In.fin K ?_
    refine At.sq K ?_
    refine At.region K K ?_
    refine In.run' 1 (k' := 1) rfl [(26, (pt g26 0))] K ?_
    obtain ⟨z59, hz60, H⟩ := bind_elim H
    refine In.step (k' := 2) rfl K ?_
    refine Step.callF (f := 18) (fo := (.func 18)) (xs := #[(.tmp 26), (.const (.string ⟨List.toArray ([97, 110, 110] : List UInt8)⟩)), (.const (.int .i64 (1)))]) (tys := #[29, 9, 3]) (first := #[]) (captured := #[]) (d := (some 27)) (k := 1) K rfl K K Tryd.call18 (L_gate_Gate_Take_walk g26 (some ⟨g5, 0, none⟩) (List.length ([(([97, 110, 110] : List UInt8), 0, 1, ([(167772160, 8)] : List (Int × Int)), ([] : List ((List UInt8) × (List UInt8) × Int)))] : List TenantL)) F27 ([(([97, 110, 110] : List UInt8), 0, 1, ((some ⟨g1, 0, none⟩), (List.length ([(167772160, 8)] : List (Int × Int))), ([(167772160, 8)] : List (Int × Int))), (none, 0, ([] : List ((List UInt8) × (List UInt8) × Int))))] : List TenantD) z53.2 ([97, 110, 110] : List UInt8) 1 w55 (SP.sub hs58 [2] rfl rfl) (fun w hm => ds_mk (rowT_rd (SP.still hs58 (l := [2]) (i := 0) rfl rfl rfl hm)) (el_cons (dp_mk dT_ok (dp_mk dT_ok (dp_mk dT_ok (dp_mk (ds_flat (rowT_rd (SP.still hs58 (l := [2]) (i := 1) rfl rfl rfl hm))) (ds_nil (ePair eStr (ePair eStr (eInt .i64))) dT w))))) el_nil)) z59 hz60) ?_
    rintro e w61 ⟨rfl, hs62⟩
    refine ⟨_, rfl, ?_⟩
    have hs64 : SP [] w0 w61 [rowT 45 eTen (some ⟨g5, 0, none⟩) (List.length ([(([97, 110, 110] : List UInt8), 0, 1, ([(167772160, 8)] : List (Int × Int)), ([] : List ((List UInt8) × (List UInt8) × Int)))] : List TenantL)) ([(([97, 110, 110] : List UInt8), 0, 1, ((some ⟨g1, 0, none⟩), (List.length ([(167772160, 8)] : List (Int × Int))), ([(167772160, 8)] : List (Int × Int))), (none, 0, ([] : List ((List UInt8) × (List UInt8) × Int))))] : List TenantD), rowT 51 (ePair (eInt .u32) (eInt .i64)) (some ⟨g1, 0, none⟩) (List.length ([(167772160, 8)] : List (Int × Int))) ([(167772160, 8)] : List (Int × Int)), gateE g26 F27 ([(([97, 110, 110] : List UInt8), 0, 1, ((some ⟨g1, 0, none⟩), (List.length ([(167772160, 8)] : List (Int × Int))), ([(167772160, 8)] : List (Int × Int))), (none, 0, ([] : List ((List UInt8) × (List UInt8) × Int))))] : List TenantD) z59.2] := SP.callS hs58 [2] [0, 1] rfl rfl hs62 rfl
    clear hs62
    refine In.run' 1 (k' := 3) rfl [(5, (.int .i64 z59.1))] K ?_
    refine In.fin K ?_
    refine At.sq K ?_
    refine At.region K K ?_
    refine In.run' 1 (k' := 1) rfl [(28, (pt g26 0))] K ?_
    obtain ⟨z65, hz66, H⟩ := bind_elim H
    refine In.step (k' := 2) rfl K ?_
    refine Step.callF (f := 14) (fo := (.func 14)) (xs := #[(.tmp 28), (.const (.string ⟨List.toArray ([97, 110, 110] : List UInt8)⟩)), (.const (.int .i64 (2)))]) (tys := #[29, 9, 3]) (first := #[]) (captured := #[]) (d := (some 29)) (k := 1) K rfl K K Tryd.call14 (L_gate_Gate_Give_walk g26 (some ⟨g5, 0, none⟩) (List.length ([(([97, 110, 110] : List UInt8), 0, 1, ([(167772160, 8)] : List (Int × Int)), ([] : List ((List UInt8) × (List UInt8) × Int)))] : List TenantL)) F27 ([(([97, 110, 110] : List UInt8), 0, 1, ((some ⟨g1, 0, none⟩), (List.length ([(167772160, 8)] : List (Int × Int))), ([(167772160, 8)] : List (Int × Int))), (none, 0, ([] : List ((List UInt8) × (List UInt8) × Int))))] : List TenantD) z59.2 ([97, 110, 110] : List UInt8) 2 w61 (SP.sub hs64 [2] rfl rfl) (fun w hm => ds_mk (rowT_rd (SP.still hs64 (l := [2]) (i := 0) rfl rfl rfl hm)) (el_cons (dp_mk dT_ok (dp_mk dT_ok (dp_mk dT_ok (dp_mk (ds_flat (rowT_rd (SP.still hs64 (l := [2]) (i := 1) rfl rfl rfl hm))) (ds_nil (ePair eStr (ePair eStr (eInt .i64))) dT w))))) el_nil)) z65 hz66) ?_
    rintro e w67 ⟨rfl, hs68⟩
    refine ⟨_, rfl, ?_⟩
    have hs70 : SP [] w0 w67 [rowT 45 eTen (some ⟨g5, 0, none⟩) (List.length ([(([97, 110, 110] : List UInt8), 0, 1, ([(167772160, 8)] : List (Int × Int)), ([] : List ((List UInt8) × (List UInt8) × Int)))] : List TenantL)) ([(([97, 110, 110] : List UInt8), 0, 1, ((some ⟨g1, 0, none⟩), (List.length ([(167772160, 8)] : List (Int × Int))), ([(167772160, 8)] : List (Int × Int))), (none, 0, ([] : List ((List UInt8) × (List UInt8) × Int))))] : List TenantD), rowT 51 (ePair (eInt .u32) (eInt .i64)) (some ⟨g1, 0, none⟩) (List.length ([(167772160, 8)] : List (Int × Int))) ([(167772160, 8)] : List (Int × Int)), gateE g26 F27 ([(([97, 110, 110] : List UInt8), 0, 1, ((some ⟨g1, 0, none⟩), (List.length ([(167772160, 8)] : List (Int × Int))), ([(167772160, 8)] : List (Int × Int))), (none, 0, ([] : List ((List UInt8) × (List UInt8) × Int))))] : List TenantD) z65.2] := SP.callS hs64 [2] [0, 1] rfl rfl hs68 rfl
    clear hs68
    refine In.run' 1 (k' := 3) rfl [(6, (.bool z65.1))] K ?_
    refine In.fin K ?_
    refine At.sq K ?_
    refine At.region K K ?_
    refine In.run' 1 (k' := 1) rfl [(30, (pt g26 0))] K ?_
    obtain ⟨z71, hz72, H⟩ := bind_elim H
    refine In.step (k' := 2) rfl K ?_
    refine Step.callF (f := 14) (fo := (.func 14)) (xs := #[(.tmp 30), (.const (.string ⟨List.toArray ([97, 110, 110] : List UInt8)⟩)), (.const (.int .i64 (2)))]) (tys := #[29, 9, 3]) (first := #[]) (captured := #[]) (d := (some 31)) (k := 1) K rfl K K Tryd.call14 (L_gate_Gate_Give_walk g26 (some ⟨g5, 0, none⟩) (List.length ([(([97, 110, 110] : List UInt8), 0, 1, ([(167772160, 8)] : List (Int × Int)), ([] : List ((List UInt8) × (List UInt8) × Int)))] : List TenantL)) F27 ([(([97, 110, 110] : List UInt8), 0, 1, ((some ⟨g1, 0, none⟩), (List.length ([(167772160, 8)] : List (Int × Int))), ([(167772160, 8)] : List (Int × Int))), (none, 0, ([] : List ((List UInt8) × (List UInt8) × Int))))] : List TenantD) z65.2 ([97, 110, 110] : List UInt8) 2 w67 (SP.sub hs70 [2] rfl rfl) (fun w hm => ds_mk (rowT_rd (SP.still hs70 (l := [2]) (i := 0) rfl rfl rfl hm)) (el_cons (dp_mk dT_ok (dp_mk dT_ok (dp_mk dT_ok (dp_mk (ds_flat (rowT_rd (SP.still hs70 (l := [2]) (i := 1) rfl rfl rfl hm))) (ds_nil (ePair eStr (ePair eStr (eInt .i64))) dT w))))) el_nil)) z71 hz72) ?_
    rintro e w73 ⟨rfl, hs74⟩
    refine ⟨_, rfl, ?_⟩
    have hs76 : SP [] w0 w73 [rowT 45 eTen (some ⟨g5, 0, none⟩) (List.length ([(([97, 110, 110] : List UInt8), 0, 1, ([(167772160, 8)] : List (Int × Int)), ([] : List ((List UInt8) × (List UInt8) × Int)))] : List TenantL)) ([(([97, 110, 110] : List UInt8), 0, 1, ((some ⟨g1, 0, none⟩), (List.length ([(167772160, 8)] : List (Int × Int))), ([(167772160, 8)] : List (Int × Int))), (none, 0, ([] : List ((List UInt8) × (List UInt8) × Int))))] : List TenantD), rowT 51 (ePair (eInt .u32) (eInt .i64)) (some ⟨g1, 0, none⟩) (List.length ([(167772160, 8)] : List (Int × Int))) ([(167772160, 8)] : List (Int × Int)), gateE g26 F27 ([(([97, 110, 110] : List UInt8), 0, 1, ((some ⟨g1, 0, none⟩), (List.length ([(167772160, 8)] : List (Int × Int))), ([(167772160, 8)] : List (Int × Int))), (none, 0, ([] : List ((List UInt8) × (List UInt8) × Int))))] : List TenantD) z71.2] := SP.callS hs70 [2] [0, 1] rfl rfl hs74 rfl
    clear hs74
    refine In.run' 1 (k' := 3) rfl [(7, (.bool z71.1))] K ?_
    refine In.fin K ?_
    refine At.sq K ?_
    refine At.join (fun ρ w => ∃ (v116 : Bool), Known ρ [(0, (.bool v116))] ∧ SP [] w0 w [] ∧ L_subwaylaw11_head_k2 v116 = some r) ?_ ?_
    ·refine At.region K K ?_
     refine In.run' 1 (k' := 1) rfl [(32, (pt g26 0))] K ?_
     obtain ⟨z119, hz120, H⟩ := bind_elim H
     refine In.step (k' := 2) rfl K ?_
     refine Step.callF (f := 16) (fo := (.func 16)) (xs := #[(.tmp 32), (.const (.string ⟨List.toArray ([97, 110, 110] : List UInt8)⟩)), (.const (.int .u32 (167838211)))]) (tys := #[29, 9, 33]) (first := #[]) (captured := #[]) (d := (some 33)) (k := 1) K rfl K K Tryd.call16 (L_gate_Gate_Admit_walk g26 (some ⟨g5, 0, none⟩) (List.length ([(([97, 110, 110] : List UInt8), 0, 1, ([(167772160, 8)] : List (Int × Int)), ([] : List ((List UInt8) × (List UInt8) × Int)))] : List TenantL)) F27 ([(([97, 110, 110] : List UInt8), 0, 1, ((some ⟨g1, 0, none⟩), (List.length ([(167772160, 8)] : List (Int × Int))), ([(167772160, 8)] : List (Int × Int))), (none, 0, ([] : List ((List UInt8) × (List UInt8) × Int))))] : List TenantD) z71.2 ([97, 110, 110] : List UInt8) 167838211 w73 (SP.sub hs76 [2] rfl rfl) (fun w hm => ds_mk (rowT_rd (SP.still hs76 (l := [2]) (i := 0) rfl rfl rfl hm)) (el_cons (dp_mk dT_ok (dp_mk dT_ok (dp_mk dT_ok (dp_mk (ds_flat (rowT_rd (SP.still hs76 (l := [2]) (i := 1) rfl rfl rfl hm))) (ds_nil (ePair eStr (ePair eStr (eInt .i64))) dT w))))) el_nil)) z119 hz120) ?_
     rintro e w121 ⟨rfl, hs122⟩
     refine ⟨_, rfl, ?_⟩
     have hs124 : SP [] w0 w121 [rowT 45 eTen (some ⟨g5, 0, none⟩) (List.length ([(([97, 110, 110] : List UInt8), 0, 1, ([(167772160, 8)] : List (Int × Int)), ([] : List ((List UInt8) × (List UInt8) × Int)))] : List TenantL)) ([(([97, 110, 110] : List UInt8), 0, 1, ((some ⟨g1, 0, none⟩), (List.length ([(167772160, 8)] : List (Int × Int))), ([(167772160, 8)] : List (Int × Int))), (none, 0, ([] : List ((List UInt8) × (List UInt8) × Int))))] : List TenantD), rowT 51 (ePair (eInt .u32) (eInt .i64)) (some ⟨g1, 0, none⟩) (List.length ([(167772160, 8)] : List (Int × Int))) ([(167772160, 8)] : List (Int × Int)), gateE g26 F27 ([(([97, 110, 110] : List UInt8), 0, 1, ((some ⟨g1, 0, none⟩), (List.length ([(167772160, 8)] : List (Int × Int))), ([(167772160, 8)] : List (Int × Int))), (none, 0, ([] : List ((List UInt8) × (List UInt8) × Int))))] : List TenantD) z71.2] := SP.callS hs76 [2] [0, 1] rfl rfl hs122 rfl
     clear hs122
     refine In.run' 2 (k' := 4) rfl [(34, (.bool (z119 == 0))), (35, (.bool (z119 == 0)))] K ?_
     refine In.guard (t := 35) (b := (z119 == 0)) K (fun hb125 => ?_) (fun hb125 => ?_)
     ·have H := ct H hb125
      refine In.run' 1 (k' := 5) rfl [(36, (pt g26 0))] K ?_
      obtain ⟨z126, hz127, H⟩ := bind_elim H
      refine In.step (k' := 6) rfl K ?_
      refine Step.callF (f := 16) (fo := (.func 16)) (xs := #[(.tmp 36), (.const (.string ⟨List.toArray ([97, 110, 110] : List UInt8)⟩)), (.const (.int .u32 (184615427)))]) (tys := #[29, 9, 33]) (first := #[]) (captured := #[]) (d := (some 37)) (k := 5) K rfl K K Tryd.call16 (L_gate_Gate_Admit_walk g26 (some ⟨g5, 0, none⟩) (List.length ([(([97, 110, 110] : List UInt8), 0, 1, ([(167772160, 8)] : List (Int × Int)), ([] : List ((List UInt8) × (List UInt8) × Int)))] : List TenantL)) F27 ([(([97, 110, 110] : List UInt8), 0, 1, ((some ⟨g1, 0, none⟩), (List.length ([(167772160, 8)] : List (Int × Int))), ([(167772160, 8)] : List (Int × Int))), (none, 0, ([] : List ((List UInt8) × (List UInt8) × Int))))] : List TenantD) z71.2 ([97, 110, 110] : List UInt8) 184615427 w121 (SP.sub hs124 [2] rfl rfl) (fun w hm => ds_mk (rowT_rd (SP.still hs124 (l := [2]) (i := 0) rfl rfl rfl hm)) (el_cons (dp_mk dT_ok (dp_mk dT_ok (dp_mk dT_ok (dp_mk (ds_flat (rowT_rd (SP.still hs124 (l := [2]) (i := 1) rfl rfl rfl hm))) (ds_nil (ePair eStr (ePair eStr (eInt .i64))) dT w))))) el_nil)) z126 hz127) ?_
      rintro e w128 ⟨rfl, hs129⟩
      refine ⟨_, rfl, ?_⟩
      have hs131 : SP [] w0 w128 [rowT 45 eTen (some ⟨g5, 0, none⟩) (List.length ([(([97, 110, 110] : List UInt8), 0, 1, ([(167772160, 8)] : List (Int × Int)), ([] : List ((List UInt8) × (List UInt8) × Int)))] : List TenantL)) ([(([97, 110, 110] : List UInt8), 0, 1, ((some ⟨g1, 0, none⟩), (List.length ([(167772160, 8)] : List (Int × Int))), ([(167772160, 8)] : List (Int × Int))), (none, 0, ([] : List ((List UInt8) × (List UInt8) × Int))))] : List TenantD), rowT 51 (ePair (eInt .u32) (eInt .i64)) (some ⟨g1, 0, none⟩) (List.length ([(167772160, 8)] : List (Int × Int))) ([(167772160, 8)] : List (Int × Int)), gateE g26 F27 ([(([97, 110, 110] : List UInt8), 0, 1, ((some ⟨g1, 0, none⟩), (List.length ([(167772160, 8)] : List (Int × Int))), ([(167772160, 8)] : List (Int × Int))), (none, 0, ([] : List ((List UInt8) × (List UInt8) × Int))))] : List TenantD) z71.2] := SP.callS hs124 [2] [0, 1] rfl rfl hs129 rfl
      clear hs129
      refine In.run' 3 (k' := 9) rfl [(38, (.bool (z126 == 111))), (39, (.bool (z126 == 111))), (40, (.bool (z126 == 111)))] K ?_
      refine In.guard (t := 40) (b := (z126 == 111)) K (fun hb132 => ?_) (fun hb132 => ?_)
      ·have H := ct H hb132
       refine In.run' 1 (k' := 10) rfl [(41, (pt g26 0))] K ?_
       obtain ⟨z133, hz134, H⟩ := bind_elim H
       refine In.step (k' := 11) rfl K ?_
       refine Step.callF (f := 16) (fo := (.func 16)) (xs := #[(.tmp 41), (.const (.string ⟨List.toArray ([98, 111, 98] : List UInt8)⟩)), (.const (.int .u32 (0)))]) (tys := #[29, 9, 33]) (first := #[]) (captured := #[]) (d := (some 42)) (k := 10) K rfl K K Tryd.call16 (L_gate_Gate_Admit_walk g26 (some ⟨g5, 0, none⟩) (List.length ([(([97, 110, 110] : List UInt8), 0, 1, ([(167772160, 8)] : List (Int × Int)), ([] : List ((List UInt8) × (List UInt8) × Int)))] : List TenantL)) F27 ([(([97, 110, 110] : List UInt8), 0, 1, ((some ⟨g1, 0, none⟩), (List.length ([(167772160, 8)] : List (Int × Int))), ([(167772160, 8)] : List (Int × Int))), (none, 0, ([] : List ((List UInt8) × (List UInt8) × Int))))] : List TenantD) z71.2 ([98, 111, 98] : List UInt8) 0 w128 (SP.sub hs131 [2] rfl rfl) (fun w hm => ds_mk (rowT_rd (SP.still hs131 (l := [2]) (i := 0) rfl rfl rfl hm)) (el_cons (dp_mk dT_ok (dp_mk dT_ok (dp_mk dT_ok (dp_mk (ds_flat (rowT_rd (SP.still hs131 (l := [2]) (i := 1) rfl rfl rfl hm))) (ds_nil (ePair eStr (ePair eStr (eInt .i64))) dT w))))) el_nil)) z133 hz134) ?_
       rintro e w135 ⟨rfl, hs136⟩
       refine ⟨_, rfl, ?_⟩
       have hs138 : SP [] w0 w135 [rowT 45 eTen (some ⟨g5, 0, none⟩) (List.length ([(([97, 110, 110] : List UInt8), 0, 1, ([(167772160, 8)] : List (Int × Int)), ([] : List ((List UInt8) × (List UInt8) × Int)))] : List TenantL)) ([(([97, 110, 110] : List UInt8), 0, 1, ((some ⟨g1, 0, none⟩), (List.length ([(167772160, 8)] : List (Int × Int))), ([(167772160, 8)] : List (Int × Int))), (none, 0, ([] : List ((List UInt8) × (List UInt8) × Int))))] : List TenantD), rowT 51 (ePair (eInt .u32) (eInt .i64)) (some ⟨g1, 0, none⟩) (List.length ([(167772160, 8)] : List (Int × Int))) ([(167772160, 8)] : List (Int × Int)), gateE g26 F27 ([(([97, 110, 110] : List UInt8), 0, 1, ((some ⟨g1, 0, none⟩), (List.length ([(167772160, 8)] : List (Int × Int))), ([(167772160, 8)] : List (Int × Int))), (none, 0, ([] : List ((List UInt8) × (List UInt8) × Int))))] : List TenantD) z71.2] := SP.callS hs131 [2] [0, 1] rfl rfl hs136 rfl
       clear hs136
       refine In.run' 3 (k' := 14) rfl [(43, (.bool (z133 == 3))), (44, (.bool (z133 == 3))), (45, (.bool (z133 == 3)))] K ?_
       refine In.guard (t := 45) (b := (z133 == 3)) K (fun hb139 => ?_) (fun hb139 => ?_)
       ·have H := ct H hb139
        refine In.run' 4 (k' := 18) rfl [(46, (.int .i64 z47.1)), (47, (.bool (z47.1 == 0))), (48, (.bool (z47.1 == 0))), (49, (.bool (z47.1 == 0)))] K ?_
        refine In.guard (t := 49) (b := (z47.1 == 0)) K (fun hb140 => ?_) (fun hb140 => ?_)
        ·have H := ct H hb140
         refine In.run' 4 (k' := 22) rfl [(50, (.int .i64 z53.1)), (51, (.bool (z53.1 == 112))), (52, (.bool (z53.1 == 112))), (53, (.bool (z53.1 == 112)))] K ?_
         refine In.guard (t := 53) (b := (z53.1 == 112)) K (fun hb141 => ?_) (fun hb141 => ?_)
         ·have H := ct H hb141
          refine In.run' 4 (k' := 26) rfl [(54, (.int .i64 z59.1)), (55, (.bool (z59.1 == 112))), (56, (.bool (z59.1 == 112))), (57, (.bool (z59.1 == 112)))] K ?_
          refine In.guard (t := 57) (b := (z59.1 == 112)) K (fun hb142 => ?_) (fun hb142 => ?_)
          ·have H := ct H hb142
           refine In.run' 3 (k' := 29) rfl [(58, (.bool z65.1)), (59, (.bool z65.1)), (60, (.bool z65.1))] K ?_
           refine In.guard (t := 60) (b := z65.1) K (fun hb143 => ?_) (fun hb143 => ?_)
           ·have H := ct H hb143
            refine In.run' 4 (k' := 33) rfl [(61, (.bool z71.1)), (62, (.bool (!z71.1))), (63, (.bool (!z71.1))), (64, (.bool (!z71.1)))] K ?_
            refine In.guard (t := 64) (b := (!z71.1)) K (fun hb144 => ?_) (fun hb144 => ?_)
            ·have H := ct H hb144
             refine In.run' 1 (k' := 34) rfl [(65, (pt g26 0))] K ?_
             obtain ⟨z145, hz146, H⟩ := bind_elim H
             refine In.step (k' := 35) rfl K ?_
             refine Step.callF (f := 20) (fo := (.func 20)) (xs := #[(.tmp 65), (.const (.string ⟨List.toArray ([97, 110, 110] : List UInt8)⟩)), (.const (.int .i64 (2)))]) (tys := #[29, 9, 3]) (first := #[]) (captured := #[]) (d := (some 66)) (k := 34) K rfl K K Tryd.call20 (L_gate_Gate_Used_walk g26 (some ⟨g5, 0, none⟩) (List.length ([(([97, 110, 110] : List UInt8), 0, 1, ([(167772160, 8)] : List (Int × Int)), ([] : List ((List UInt8) × (List UInt8) × Int)))] : List TenantL)) F27 ([(([97, 110, 110] : List UInt8), 0, 1, ((some ⟨g1, 0, none⟩), (List.length ([(167772160, 8)] : List (Int × Int))), ([(167772160, 8)] : List (Int × Int))), (none, 0, ([] : List ((List UInt8) × (List UInt8) × Int))))] : List TenantD) z71.2 ([97, 110, 110] : List UInt8) 2 w135 (SP.sub hs138 [2] rfl rfl) (fun w hm => ds_mk (rowT_rd (SP.still hs138 (l := [2]) (i := 0) rfl rfl rfl hm)) (el_cons (dp_mk dT_ok (dp_mk dT_ok (dp_mk dT_ok (dp_mk (ds_flat (rowT_rd (SP.still hs138 (l := [2]) (i := 1) rfl rfl rfl hm))) (ds_nil (ePair eStr (ePair eStr (eInt .i64))) dT w))))) el_nil)) z145 hz146) ?_
             rintro e w147 ⟨rfl, hs148⟩
             refine ⟨_, rfl, ?_⟩
             have hs150 : SP [] w0 w147 [rowT 45 eTen (some ⟨g5, 0, none⟩) (List.length ([(([97, 110, 110] : List UInt8), 0, 1, ([(167772160, 8)] : List (Int × Int)), ([] : List ((List UInt8) × (List UInt8) × Int)))] : List TenantL)) ([(([97, 110, 110] : List UInt8), 0, 1, ((some ⟨g1, 0, none⟩), (List.length ([(167772160, 8)] : List (Int × Int))), ([(167772160, 8)] : List (Int × Int))), (none, 0, ([] : List ((List UInt8) × (List UInt8) × Int))))] : List TenantD), rowT 51 (ePair (eInt .u32) (eInt .i64)) (some ⟨g1, 0, none⟩) (List.length ([(167772160, 8)] : List (Int × Int))) ([(167772160, 8)] : List (Int × Int)), gateE g26 F27 ([(([97, 110, 110] : List UInt8), 0, 1, ((some ⟨g1, 0, none⟩), (List.length ([(167772160, 8)] : List (Int × Int))), ([(167772160, 8)] : List (Int × Int))), (none, 0, ([] : List ((List UInt8) × (List UInt8) × Int))))] : List TenantD) z71.2] := SP.callS hs138 [2] [0, 1] rfl rfl hs148 rfl
             clear hs148
             refine In.run' 3 (k' := 38) rfl [(67, (.bool (z145 == 0))), (68, (.bool (z145 == 0))), (69, (.bool (z145 == 0)))] K ?_
             refine In.guard (t := 69) (b := (z145 == 0)) K (fun hb151 => ?_) (fun hb151 => ?_)
             ·have H := ct H hb151
              refine In.run' 1 (k' := 39) rfl [(70, (pt g26 0))] K ?_
              obtain ⟨z152, hz153, H⟩ := bind_elim H
              refine In.step (k' := 40) rfl K ?_
              refine Step.callF (f := 18) (fo := (.func 18)) (xs := #[(.tmp 70), (.const (.string ⟨List.toArray ([97, 110, 110] : List UInt8)⟩)), (.const (.int .i64 (3)))]) (tys := #[29, 9, 3]) (first := #[]) (captured := #[]) (d := (some 71)) (k := 39) K rfl K K Tryd.call18 (L_gate_Gate_Take_walk g26 (some ⟨g5, 0, none⟩) (List.length ([(([97, 110, 110] : List UInt8), 0, 1, ([(167772160, 8)] : List (Int × Int)), ([] : List ((List UInt8) × (List UInt8) × Int)))] : List TenantL)) F27 ([(([97, 110, 110] : List UInt8), 0, 1, ((some ⟨g1, 0, none⟩), (List.length ([(167772160, 8)] : List (Int × Int))), ([(167772160, 8)] : List (Int × Int))), (none, 0, ([] : List ((List UInt8) × (List UInt8) × Int))))] : List TenantD) z71.2 ([97, 110, 110] : List UInt8) 3 w147 (SP.sub hs150 [2] rfl rfl) (fun w hm => ds_mk (rowT_rd (SP.still hs150 (l := [2]) (i := 0) rfl rfl rfl hm)) (el_cons (dp_mk dT_ok (dp_mk dT_ok (dp_mk dT_ok (dp_mk (ds_flat (rowT_rd (SP.still hs150 (l := [2]) (i := 1) rfl rfl rfl hm))) (ds_nil (ePair eStr (ePair eStr (eInt .i64))) dT w))))) el_nil)) z152 hz153) ?_
              rintro e w154 ⟨rfl, hs155⟩
              refine ⟨_, rfl, ?_⟩
              have hs157 : SP [] w0 w154 [rowT 45 eTen (some ⟨g5, 0, none⟩) (List.length ([(([97, 110, 110] : List UInt8), 0, 1, ([(167772160, 8)] : List (Int × Int)), ([] : List ((List UInt8) × (List UInt8) × Int)))] : List TenantL)) ([(([97, 110, 110] : List UInt8), 0, 1, ((some ⟨g1, 0, none⟩), (List.length ([(167772160, 8)] : List (Int × Int))), ([(167772160, 8)] : List (Int × Int))), (none, 0, ([] : List ((List UInt8) × (List UInt8) × Int))))] : List TenantD), rowT 51 (ePair (eInt .u32) (eInt .i64)) (some ⟨g1, 0, none⟩) (List.length ([(167772160, 8)] : List (Int × Int))) ([(167772160, 8)] : List (Int × Int)), gateE g26 F27 ([(([97, 110, 110] : List UInt8), 0, 1, ((some ⟨g1, 0, none⟩), (List.length ([(167772160, 8)] : List (Int × Int))), ([(167772160, 8)] : List (Int × Int))), (none, 0, ([] : List ((List UInt8) × (List UInt8) × Int))))] : List TenantD) z152.2] := SP.callS hs150 [2] [0, 1] rfl rfl hs155 rfl
              clear hs155
              refine In.run' 3 (k' := 43) rfl [(72, (.bool (z152.1 == 1))), (73, (.bool (z152.1 == 1))), (0, (.bool (z152.1 == 1)))] K ?_
              refine In.fin K ?_
              exact ⟨(z152.1 == 1), ⟨K, trivial⟩, SP.sel hs157 [] rfl rfl, H⟩
             ·have H := cf H hb151
              refine In.run' 5 (k' := 43) rfl [(70, undef), (71, undef), (72, undef), (73, (.bool false)), (0, (.bool false))] K ?_
              refine In.fin K ?_
              exact ⟨false, ⟨K, trivial⟩, SP.sel hs150 [] rfl rfl, H⟩
            ·have H := cf H hb144
             refine In.run' 10 (k' := 43) rfl [(65, undef), (66, undef), (67, undef), (68, (.bool false)), (69, (.bool false)), (70, undef), (71, undef), (72, undef), (73, (.bool false)), (0, (.bool false))] K ?_
             refine In.fin K ?_
             exact ⟨false, ⟨K, trivial⟩, SP.sel hs138 [] rfl rfl, H⟩
           ·have H := cf H hb143
            refine In.run' 14 (k' := 43) rfl [(61, undef), (62, undef), (63, (.bool false)), (64, (.bool false)), (65, undef), (66, undef), (67, undef), (68, (.bool false)), (69, (.bool false)), (70, undef), (71, undef), (72, undef), (73, (.bool false)), (0, (.bool false))] K ?_
            refine In.fin K ?_
            exact ⟨false, ⟨K, trivial⟩, SP.sel hs138 [] rfl rfl, H⟩
          ·have H := cf H hb142
           refine In.run' 17 (k' := 43) rfl [(58, undef), (59, (.bool false)), (60, (.bool false)), (61, undef), (62, undef), (63, (.bool false)), (64, (.bool false)), (65, undef), (66, undef), (67, undef), (68, (.bool false)), (69, (.bool false)), (70, undef), (71, undef), (72, undef), (73, (.bool false)), (0, (.bool false))] K ?_
           refine In.fin K ?_
           exact ⟨false, ⟨K, trivial⟩, SP.sel hs138 [] rfl rfl, H⟩
         ·have H := cf H hb141
          refine In.run' 21 (k' := 43) rfl [(54, undef), (55, undef), (56, (.bool false)), (57, (.bool false)), (58, undef), (59, (.bool false)), (60, (.bool false)), (61, undef), (62, undef), (63, (.bool false)), (64, (.bool false)), (65, undef), (66, undef), (67, undef), (68, (.bool false)), (69, (.bool false)), (70, undef), (71, undef), (72, undef), (73, (.bool false)), (0, (.bool false))] K ?_
          refine In.fin K ?_
          exact ⟨false, ⟨K, trivial⟩, SP.sel hs138 [] rfl rfl, H⟩
        ·have H := cf H hb140
         refine In.run' 25 (k' := 43) rfl [(50, undef), (51, undef), (52, (.bool false)), (53, (.bool false)), (54, undef), (55, undef), (56, (.bool false)), (57, (.bool false)), (58, undef), (59, (.bool false)), (60, (.bool false)), (61, undef), (62, undef), (63, (.bool false)), (64, (.bool false)), (65, undef), (66, undef), (67, undef), (68, (.bool false)), (69, (.bool false)), (70, undef), (71, undef), (72, undef), (73, (.bool false)), (0, (.bool false))] K ?_
         refine In.fin K ?_
         exact ⟨false, ⟨K, trivial⟩, SP.sel hs138 [] rfl rfl, H⟩
       ·have H := cf H hb139
        refine In.run' 29 (k' := 43) rfl [(46, undef), (47, undef), (48, (.bool false)), (49, (.bool false)), (50, undef), (51, undef), (52, (.bool false)), (53, (.bool false)), (54, undef), (55, undef), (56, (.bool false)), (57, (.bool false)), (58, undef), (59, (.bool false)), (60, (.bool false)), (61, undef), (62, undef), (63, (.bool false)), (64, (.bool false)), (65, undef), (66, undef), (67, undef), (68, (.bool false)), (69, (.bool false)), (70, undef), (71, undef), (72, undef), (73, (.bool false)), (0, (.bool false))] K ?_
        refine In.fin K ?_
        exact ⟨false, ⟨K, trivial⟩, SP.sel hs138 [] rfl rfl, H⟩
      ·have H := cf H hb132
       refine In.run' 34 (k' := 43) rfl [(41, undef), (42, undef), (43, undef), (44, (.bool false)), (45, (.bool false)), (46, undef), (47, undef), (48, (.bool false)), (49, (.bool false)), (50, undef), (51, undef), (52, (.bool false)), (53, (.bool false)), (54, undef), (55, undef), (56, (.bool false)), (57, (.bool false)), (58, undef), (59, (.bool false)), (60, (.bool false)), (61, undef), (62, undef), (63, (.bool false)), (64, (.bool false)), (65, undef), (66, undef), (67, undef), (68, (.bool false)), (69, (.bool false)), (70, undef), (71, undef), (72, undef), (73, (.bool false)), (0, (.bool false))] K ?_
       refine In.fin K ?_
       exact ⟨false, ⟨K, trivial⟩, SP.sel hs131 [] rfl rfl, H⟩
     ·have H := cf H hb125
      refine In.run' 39 (k' := 43) rfl [(36, undef), (37, undef), (38, undef), (39, (.bool false)), (40, (.bool false)), (41, undef), (42, undef), (43, undef), (44, (.bool false)), (45, (.bool false)), (46, undef), (47, undef), (48, (.bool false)), (49, (.bool false)), (50, undef), (51, undef), (52, (.bool false)), (53, (.bool false)), (54, undef), (55, undef), (56, (.bool false)), (57, (.bool false)), (58, undef), (59, (.bool false)), (60, (.bool false)), (61, undef), (62, undef), (63, (.bool false)), (64, (.bool false)), (65, undef), (66, undef), (67, undef), (68, (.bool false)), (69, (.bool false)), (70, undef), (71, undef), (72, undef), (73, (.bool false)), (0, (.bool false))] K ?_
      refine In.fin K ?_
      exact ⟨false, ⟨K, trivial⟩, SP.sel hs124 [] rfl rfl, H⟩
    ·rintro ρ w117 ⟨v116, hk, hs118, H⟩
     unfold L_subwaylaw11_head_k2 at H
     first | refine At.known [(0, (.bool v116))] hk ?_ | rw [← known_updL (l := [(0, (.bool v116))]) hk]
     refine At.ret K ?_
     refine ⟨(.bool v116), K, ?_⟩
     obtain rfl := some_elim H
     exact ⟨rfl, SP.sel hs118 [] rfl rfl⟩
end Go.Proofs.YtfffjaijflbeaaaDoor
