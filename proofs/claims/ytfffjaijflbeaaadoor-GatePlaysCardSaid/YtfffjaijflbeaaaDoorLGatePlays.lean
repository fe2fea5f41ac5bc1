/- LIFTED BY PROGRAM (tools/lift.py): what functions compute, and that they do. -/
import Derived.Test.YtfffjaijflbeaaaDoorLGH
namespace Go.Proofs.YtfffjaijflbeaaaDoor
set_option linter.unusedSimpArgs false
set_option linter.unusedVariables false
open Go.RowKit

/-! L_subwaylaw11_GatePlays -/
def L_subwaylaw11_GatePlays_k2 (v57 : Bool) : Option (Bool) :=
  (some (v57))
def L_subwaylaw11_GatePlays_k3 (v72 : Bool) : Option (Bool) :=
  (some (v72))
def L_subwaylaw11_GatePlays_k4 (v91 : Bool) : Option (Bool) :=
  (some (v91))
def L_subwaylaw11_GatePlays_k16 (rec14 : (List (List Int)) → Int → Int → Int → Int → (List Int) → (List Int) → Int → Option (Bool)) (pTenants5 : (List TenantL)) (v1149 : Int) (x1660 : (Int × (List UInt8) × Int × Int)) (v1881 : (List (List Int))) (v1882 : Int) (v1883 : Int) (v1884 : Int) (v1885 : Int) (v1888 : (List Int)) (v1891 : (List Int)) : Option (Bool) :=
  ((L_gate_Gate_Used pTenants5 v1881 x1660.2.1 x1660.2.2.1).bind fun z1894 => ((L_subwayref11_Gate_Used v1882 v1883 v1884 v1885 pTenants5 v1888 v1891 x1660.2.1 x1660.2.2.1).bind fun z1900 => (cond (z1894 != z1900) (some (false)) (rec14 v1881 v1882 v1883 v1884 v1885 v1888 v1891 (IntKind.wrap .i64 (v1149 + 1))))))
def L_subwaylaw11_GatePlays_k17 (rec14 : (List (List Int)) → Int → Int → Int → Int → (List Int) → (List Int) → Int → Option (Bool)) (pTenants5 : (List TenantL)) (v1149 : Int) (x1660 : (Int × (List UInt8) × Int × Int)) (v2068 : (List (List Int))) (v2069 : Int) (v2070 : Int) (v2071 : Int) (v2072 : Int) (v2075 : (List Int)) (v2078 : (List Int)) : Option (Bool) :=
  (L_subwaylaw11_GatePlays_k16 rec14 pTenants5 v1149 x1660 v2068 v2069 v2070 v2071 v2072 v2075 v2078)
def L_subwaylaw11_GatePlays_b11 (rec14 : (List (List Int)) → Int → Int → Int → Int → (List Int) → (List Int) → Int → Option (Bool)) (pTenants5 : (List TenantL)) (p10 : (List (Int × (List UInt8) × Int × Int))) (z18 : (Bool)) (v1138 : (List (List Int))) (v1139 : Int) (v1140 : Int) (v1141 : Int) (v1142 : Int) (v1145 : (List Int)) (v1148 : (List Int)) (v1149 : Int) : Option (Bool) :=
  (cond (decide (v1149 < ((List.length p10 : Nat) : Int))) ((idx p10 v1149).bind fun x1660 => (cond (x1660.1 == 2) ((L_gate_Gate_Give pTenants5 v1138 x1660.2.1 x1660.2.2.1).bind fun z1964 => ((L_subwayref11_Gate_Give v1139 v1140 v1141 v1142 pTenants5 v1145 v1148 x1660.2.1 x1660.2.2.1).bind fun z1970 => (cond (!(z1964.1 == z1970.1)) (some (false)) (L_subwaylaw11_GatePlays_k16 rec14 pTenants5 v1149 x1660 z1964.2 z1970.2.1 z1970.2.2.1 z1970.2.2.2.1 z1970.2.2.2.2.1 z1970.2.2.2.2.2.1 z1970.2.2.2.2.2.2)))) (cond (x1660.1 == 3) ((L_gate_Gate_Admit pTenants5 v1138 x1660.2.1 x1660.2.2.2).bind fun z2082 => ((L_subwayref11_Gate_Admit v1139 v1140 v1141 v1142 pTenants5 v1145 v1148 x1660.2.1 x1660.2.2.2).bind fun z2088 => (cond (z2082 != z2088) (some (false)) (L_subwaylaw11_GatePlays_k17 rec14 pTenants5 v1149 x1660 v1138 v1139 v1140 v1141 v1142 v1145 v1148)))) ((L_gate_Gate_Take pTenants5 v1138 x1660.2.1 x1660.2.2.1).bind fun z2151 => ((L_subwayref11_Gate_Take v1139 v1140 v1141 v1142 pTenants5 v1145 v1148 x1660.2.1 x1660.2.2.1).bind fun z2157 => (cond (z2151.1 != z2157.1) (some (false)) (L_subwaylaw11_GatePlays_k17 rec14 pTenants5 v1149 x1660 z2151.2 z2157.2.1 z2157.2.2.1 z2157.2.2.2.1 z2157.2.2.2.2.1 z2157.2.2.2.2.2.1 z2157.2.2.2.2.2.2))))))) (some (z18)))
def L_subwaylaw11_GatePlays_l11 (pTenants5 : (List TenantL)) (p10 : (List (Int × (List UInt8) × Int × Int))) (z18 : (Bool)) : Nat → (List (List Int)) → Int → Int → Int → Int → (List Int) → (List Int) → Int → Option (Bool)
  | 0, _, _, _, _, _, _, _, _ => none
  | f + 1, v1138, v1139, v1140, v1141, v1142, v1145, v1148, v1149 => L_subwaylaw11_GatePlays_b11  (L_subwaylaw11_GatePlays_l11 pTenants5 p10 z18 f) pTenants5 p10 z18 v1138 v1139 v1140 v1141 v1142 v1145 v1148 v1149
def L_subwaylaw11_GatePlays_k1 (pWait1 : Int) (pGrace2 : Int) (pIdle3 : Int) (pLease4 : Int) (pTenants5 : (List TenantL)) (p10 : (List (Int × (List UInt8) × Int × Int))) (z18 : (Bool)) (v37 : Bool) : Option (Bool) :=
  (cond v37 (some (z18)) ((L_gate_New pWait1 pGrace2 pIdle3 pLease4 pTenants5).bind fun z41 => (optE z41 ((L_subwayref11_New pWait1 pGrace2 pIdle3 pLease4 pTenants5).bind fun z48 => (optE z48 (cond z18 (L_subwaylaw11_GatePlays_k2 (true == true)) (L_subwaylaw11_GatePlays_k2 false)) (fun o50 => (cond z18 (L_subwaylaw11_GatePlays_k3 (true == false)) (L_subwaylaw11_GatePlays_k3 false))))) (fun o43 => ((L_subwayref11_New pWait1 pGrace2 pIdle3 pLease4 pTenants5).bind fun z82 => (optE z82 (cond z18 (L_subwaylaw11_GatePlays_k4 (false == true)) (L_subwaylaw11_GatePlays_k4 false)) (fun o84 => (L_subwaylaw11_GatePlays_l11 pTenants5 p10 z18 fuel o43 o84.1 o84.2.1 o84.2.2.1 o84.2.2.2.1 o84.2.2.2.2.1 o84.2.2.2.2.2 0))))))))
def L_subwaylaw11_GatePlays (pWait1 : Int) (pGrace2 : Int) (pIdle3 : Int) (pLease4 : Int) (pTenants5 : (List TenantL)) (p10 : (List (Int × (List UInt8) × Int × Int))) : Option (Bool) :=
  ((L_subwaylaw11_head ).bind fun z18 => ((L_subwaylaw09_Great pWait1 pGrace2 pIdle3 pLease4 pTenants5).bind fun z2168 => (cond z2168 (L_subwaylaw11_GatePlays_k1 pWait1 pGrace2 pIdle3 pLease4 pTenants5 p10 z18 true) ((L_subwaylaw11_great p10).bind fun z2175 => (L_subwaylaw11_GatePlays_k1 pWait1 pGrace2 pIdle3 pLease4 pTenants5 p10 z18 z2175)))))
set_option maxRecDepth 100000 in
set_option maxHeartbeats 4000000 in
theorem L_subwaylaw11_GatePlays_walk (A6 : Option Addr) (c7 : Nat) (A11 : Option Addr) (c12 : Nat) (pWait1 : Int) (pGrace2 : Int) (pIdle3 : Int) (pLease4 : Int) (d9 : (List TenantD)) (p10 : (List (Int × (List UInt8) × Int × Int))) (w0 : World) (hL : LaidW w0) (hr8 : (dDS eTen dTen).ok w0 (A6, c7, d9)) (hr13 : RdT (ePair (eInt .i64) (ePair eStr (ePair (eInt .i64) (eInt .u32)))) w0 A11 c12 p10) (r : (Bool)) (H : L_subwaylaw11_GatePlays pWait1 pGrace2 pIdle3 pLease4 (List.map stT d9) p10 = some r) :
  Calls Tryd.prog 3 #[(.agg #[(.int .i64 pWait1), (.int .i64 pGrace2), (.int .i64 pIdle3), (.int .i64 pLease4), (.slice A6 (List.length (List.map stT d9)) c7)]), (.slice A11 (List.length p10) c12)] w0 (fun e w' => e = .returned (.bool r) ∧ SP [] w0 w' []) := by
 unfold L_subwaylaw11_GatePlays at H
 refine calls_go (n := 113) Tryd.func3 K K K ?_
 have hs0 := SP.start [] w0
 refine At.sq K ?_
 refine At.region K K ?_
 refine In.step (k' := 1) rfl K ?_
 refine Step.box (t := 24) (x := (.tmp 0)) (v := (.agg #[(.int .i64 pWait1), (.int .i64 pGrace2), (.int .i64 pIdle3), (.int .i64 pLease4), (.slice A6 (List.length (List.map stT d9)) c7)])) (d := (some 2)) (k := 0) K rfl K hs0 ?_
 intro g14 w15 (hs17 : SP [] w0 w15 [boxE g14 24 #[(.int .i64 pWait1), (.int .i64 pGrace2), (.int .i64 pIdle3), (.int .i64 pLease4), (.slice A6 (List.length (List.map stT d9)) c7)]])
 refine In.run' 1 (k' := 2) rfl [(4, (.bool false))] K ?_
 refine In.fin K ?_
 refine At.sq K ?_
 refine At.region K K ?_
 obtain ⟨z18, hz19, H⟩ := bind_elim H
 refine In.step (k' := 1) rfl K ?_
 refine Step.callF (f := 9) (fo := (.func 9)) (xs := #[]) (tys := #[]) (first := #[]) (captured := #[]) (d := (some 14)) (k := 0) K rfl K K Tryd.call9 (L_subwaylaw11_head_walk   w15 (laid_below hL (SP.keeps hs17)) z18 hz19) ?_
 rintro e w20 ⟨rfl, hs21⟩
 refine ⟨_, rfl, ?_⟩
 have hs23 : SP [] w0 w20 [boxE g14 24 #[(.int .i64 pWait1), (.int .i64 pGrace2), (.int .i64 pIdle3), (.int .i64 pLease4), (.slice A6 (List.length (List.map stT d9)) c7)]] := SP.call hs17 hs21
 clear hs21
 refine In.run' 1 (k' := 2) rfl [(5, (.bool z18))] K ?_
 refine In.fin K ?_
 refine At.sq K ?_
 refine At.sq K ?_
 refine At.join (fun ρ w => ∃ (v37 : Bool), Known ρ [(1, (.slice A11 (List.length p10) c12)), (2, (pt g14 0)), (5, (.bool z18)), (20, (.bool v37))] ∧ SP [] w0 w [boxE g14 24 #[(.int .i64 pWait1), (.int .i64 pGrace2), (.int .i64 pIdle3), (.int .i64 pLease4), (.slice A6 (List.length (List.map stT d9)) c7)]] ∧ L_subwaylaw11_GatePlays_k1 pWait1 pGrace2 pIdle3 pLease4 (List.map stT d9) p10 z18 v37 = some r) ?_ ?_
 ·refine At.region K K ?_
  refine In.step (k' := 1) rfl K ?_
  refine Step.load (t := 24) (x := (.tmp 2)) (g := g14) (off := 0) (i := 0) (v := (.agg #[(.int .i64 pWait1), (.int .i64 pGrace2), (.int .i64 pIdle3), (.int .i64 pLease4), (.slice A6 (List.length (List.map stT d9)) c7)])) (d := (some 15)) (k := 0) K rfl K hs23 rfl K ?_
  obtain ⟨z2168, hz2169, H⟩ := bind_elim H
  refine In.step (k' := 2) rfl K ?_
  refine Step.callF (f := 10) (fo := (.func 10)) (xs := #[(.tmp 15)]) (tys := #[24]) (first := #[]) (captured := #[]) (d := (some 16)) (k := 1) K rfl K K Tryd.call10 (L_subwaylaw09_Great_walk A6 c7 pWait1 pGrace2 pIdle3 pLease4 d9 w20 (Dp.sp hr8 hs23) z2168 hz2169) ?_
  rintro e w2170 ⟨rfl, hs2171⟩
  refine ⟨_, rfl, ?_⟩
  have hs2173 : SP [] w0 w2170 [boxE g14 24 #[(.int .i64 pWait1), (.int .i64 pGrace2), (.int .i64 pIdle3), (.int .i64 pLease4), (.slice A6 (List.length (List.map stT d9)) c7)]] := SP.call hs23 hs2171
  clear hs2171
  refine In.run' 1 (k' := 3) rfl [(17, (.bool z2168))] K ?_
  refine In.guard (t := 17) (b := z2168) K (fun hb2174 => ?_) (fun hb2174 => ?_)
  ·have H := ct H hb2174
   refine In.run' 3 (k' := 6) rfl [(18, undef), (19, undef), (20, (.bool true))] K ?_
   refine In.fin K ?_
   exact ⟨true, ⟨K, K, K, K, trivial⟩, SP.sel hs2173 [0] rfl rfl, H⟩
  ·have H := cf H hb2174
   refine In.run' 1 (k' := 4) rfl [(18, (.slice A11 (List.length p10) c12))] K ?_
   obtain ⟨z2175, hz2176, H⟩ := bind_elim H
   refine In.step (k' := 5) rfl K ?_
   refine Step.callF (f := 11) (fo := (.func 11)) (xs := #[(.tmp 18)]) (tys := #[25]) (first := #[]) (captured := #[]) (d := (some 19)) (k := 4) K rfl K K Tryd.call11 (L_subwaylaw11_great_walk A11 c12 p10 w2170 (RdT.sp hr13 hs2173) z2175 hz2176) ?_
   rintro e w2177 ⟨rfl, hs2178⟩
   refine ⟨_, rfl, ?_⟩
   have hs2180 : SP [] w0 w2177 [boxE g14 24 #[(.int .i64 pWait1), (.int .i64 pGrace2), (.int .i64 pIdle3), (.int .i64 pLease4), (.slice A6 (List.length (List.map stT d9)) c7)]] := SP.call hs2173 hs2178
   clear hs2178
   refine In.run' 1 (k' := 6) rfl [(20, (.bool z2175))] K ?_
   refine In.fin K ?_
   exact ⟨z2175, ⟨K, K, K, K, trivial⟩, SP.sel hs2180 [0] rfl rfl, H⟩
 ·rintro ρ w38 ⟨v37, hk, hs39, H⟩
  unfold L_subwaylaw11_GatePlays_k1 at H
  first | refine At.known [(1, (.slice A11 (List.length p10) c12)), (2, (pt g14 0)), (5, (.bool z18)), (20, (.bool v37))] hk ?_ | rw [← known_updL (l := [(1, (.slice A11 (List.length p10) c12)), (2, (pt g14 0)), (5, (.bool z18)), (20, (.bool v37))]) hk]
  refine At.cd K (o := (.tmp 20)) K (b := v37) K (fun hb40 => ?_) (fun hb40 => ?_)
  ·have H := ct H hb40
   refine At.sq K ?_
   refine At.region K K ?_
   refine In.run' 2 (k' := 2) rfl [(21, (.bool z18)), (4, (.bool z18))] K ?_
   refine In.fin K ?_
   refine At.ret K ?_
   refine ⟨(.bool z18), K, ?_⟩
   obtain rfl := some_elim H
   exact ⟨rfl, SP.sel hs39 [] rfl rfl⟩
  ·have H := cf H hb40
   refine At.skip K ?_
   refine At.sq K ?_
   refine At.region K K ?_
   refine In.step (k' := 1) rfl K ?_
   refine Step.load (t := 24) (x := (.tmp 2)) (g := g14) (off := 0) (i := 0) (v := (.agg #[(.int .i64 pWait1), (.int .i64 pGrace2), (.int .i64 pIdle3), (.int .i64 pLease4), (.slice A6 (List.length (List.map stT d9)) c7)])) (d := (some 22)) (k := 0) K rfl K hs39 rfl K ?_
   obtain ⟨z41, hz42, H⟩ := bind_elim H
   rcases z41 with _ | o43
   ·have H := optN H
    refine In.step (k' := 2) rfl K ?_
    refine Step.callF (f := 12) (fo := (.func 12)) (xs := #[(.tmp 22)]) (tys := #[24]) (first := #[]) (captured := #[]) (d := (some 23)) (k := 1) K rfl K K Tryd.call12 (L_gate_New_walk A6 c7 pWait1 pGrace2 pIdle3 pLease4 d9 w38 (laid_below hL (SP.keeps hs39)) (Dp.sp hr8 hs39) none hz42) ?_
    rintro e w44 ⟨rfl, hs45⟩
    refine ⟨_, rfl, ?_⟩
    have hs47 : SP [] w0 w44 [boxE g14 24 #[(.int .i64 pWait1), (.int .i64 pGrace2), (.int .i64 pIdle3), (.int .i64 pLease4), (.slice A6 (List.length (List.map stT d9)) c7)]] := SP.call hs39 hs45
    clear hs45
    refine In.run' 1 (k' := 3) rfl [(6, (.pointer none))] K ?_
    refine In.fin K ?_
    refine At.sq K ?_
    refine At.region K K ?_
    refine In.step (k' := 1) rfl K ?_
    refine Step.load (t := 24) (x := (.tmp 2)) (g := g14) (off := 0) (i := 0) (v := (.agg #[(.int .i64 pWait1), (.int .i64 pGrace2), (.int .i64 pIdle3), (.int .i64 pLease4), (.slice A6 (List.length (List.map stT d9)) c7)])) (d := (some 24)) (k := 0) K rfl K hs47 rfl K ?_
    obtain ⟨z48, hz49, H⟩ := bind_elim H
    rcases z48 with _ | o50
    ·have H := optN H
     refine In.step (k' := 2) rfl K ?_
     refine Step.callF (f := 13) (fo := (.func 13)) (xs := #[(.tmp 24)]) (tys := #[24]) (first := #[]) (captured := #[]) (d := (some 25)) (k := 1) K rfl K K Tryd.call13 (L_subwayref11_New_walk A6 c7 pWait1 pGrace2 pIdle3 pLease4 d9 w44 (Dp.sp hr8 hs47) none hz49) ?_
     rintro e w51 ⟨rfl, hs52⟩
     refine ⟨_, rfl, ?_⟩
     have hs54 : SP [] w0 w51 [boxE g14 24 #[(.int .i64 pWait1), (.int .i64 pGrace2), (.int .i64 pIdle3), (.int .i64 pLease4), (.slice A6 (List.length (List.map stT d9)) c7)]] := SP.call hs47 hs52
     clear hs52
     refine In.run' 1 (k' := 3) rfl [(7, (.pointer none))] K ?_
     refine In.fin K ?_
     refine At.sq K ?_
     refine At.sq K ?_
     refine At.region K K ?_
     refine In.run' 6 (k' := 6) rfl [(26, (.pointer none)), (27, (.bool true)), (28, (.bool true)), (29, undef), (30, undef), (31, (.bool true))] K ?_
     refine In.fin K ?_
     refine At.cd K (o := (.tmp 31)) K (b := true) K (fun hb55 => ?_) (fun hb55 => ?_)
     rotate_left
     ·cases hb55
     refine At.sq K ?_
     refine At.join (fun ρ w => ∃ (v57 : Bool), Known ρ [(4, (.bool v57))] ∧ SP [] w0 w [] ∧ L_subwaylaw11_GatePlays_k2 v57 = some r) ?_ ?_
     ·refine At.region K K ?_
      refine In.run' 2 (k' := 2) rfl [(32, (.bool z18)), (33, (.bool z18))] K ?_
      refine In.guard (t := 33) (b := z18) K (fun hb60 => ?_) (fun hb60 => ?_)
      ·have H := ct H hb60
       refine In.run' 7 (k' := 9) rfl [(34, (.pointer none)), (35, (.bool true)), (36, (.pointer none)), (37, (.bool true)), (38, (.bool (true == true))), (39, (.bool (true == true))), (4, (.bool (true == true)))] K ?_
       refine In.fin K ?_
       exact ⟨(true == true), ⟨K, trivial⟩, SP.sel hs54 [] rfl rfl, H⟩
      ·have H := cf H hb60
       refine In.run' 7 (k' := 9) rfl [(34, undef), (35, undef), (36, undef), (37, undef), (38, undef), (39, (.bool false)), (4, (.bool false))] K ?_
       refine In.fin K ?_
       exact ⟨false, ⟨K, trivial⟩, SP.sel hs54 [] rfl rfl, H⟩
     ·rintro ρ w58 ⟨v57, hk, hs59, H⟩
      unfold L_subwaylaw11_GatePlays_k2 at H
      first | refine At.known [(4, (.bool v57))] hk ?_ | rw [← known_updL (l := [(4, (.bool v57))]) hk]
      refine At.ret K ?_
      refine ⟨(.bool v57), K, ?_⟩
      obtain rfl := some_elim H
      exact ⟨rfl, SP.sel hs59 [] rfl rfl⟩
    ·have H := optS H
     refine In.step (k' := 2) rfl K ?_
     refine Step.callF (f := 13) (fo := (.func 13)) (xs := #[(.tmp 24)]) (tys := #[24]) (first := #[]) (captured := #[]) (d := (some 25)) (k := 1) K rfl K K Tryd.call13 (L_subwayref11_New_walk A6 c7 pWait1 pGrace2 pIdle3 pLease4 d9 w44 (Dp.sp hr8 hs47) (some o50) hz49) ?_
     rintro e w61 ⟨g63, A64, c65, A66, c67, rfl, hs62⟩
     refine ⟨_, rfl, ?_⟩
     have hs69 : SP [] w0 w61 [boxE g14 24 #[(.int .i64 pWait1), (.int .i64 pGrace2), (.int .i64 pIdle3), (.int .i64 pLease4), (.slice A6 (List.length (List.map stT d9)) c7)], boxE g63 66 #[(.int .i64 o50.1), (.int .i64 o50.2.1), (.int .i64 o50.2.2.1), (.int .i64 o50.2.2.2.1), (.slice A6 (List.length (List.map stT d9)) c7), (.slice A64 (List.length o50.2.2.2.2.1) c65), (.slice A66 (List.length o50.2.2.2.2.2) c67)], rowT 3 (eInt .i64) A64 c65 o50.2.2.2.2.1, rowT 3 (eInt .i64) A66 c67 o50.2.2.2.2.2] := SP.call hs47 hs62
     clear hs62
     refine In.run' 1 (k' := 3) rfl [(7, (pt g63 0))] K ?_
     refine In.fin K ?_
     refine At.sq K ?_
     refine At.sq K ?_
     refine At.region K K ?_
     refine In.run' 6 (k' := 6) rfl [(26, (.pointer none)), (27, (.bool true)), (28, (.bool true)), (29, undef), (30, undef), (31, (.bool true))] K ?_
     refine In.fin K ?_
     refine At.cd K (o := (.tmp 31)) K (b := true) K (fun hb70 => ?_) (fun hb70 => ?_)
     rotate_left
     ·cases hb70
     refine At.sq K ?_
     refine At.join (fun ρ w => ∃ (v72 : Bool), Known ρ [(4, (.bool v72))] ∧ SP [] w0 w [] ∧ L_subwaylaw11_GatePlays_k3 v72 = some r) ?_ ?_
     ·refine At.region K K ?_
      refine In.run' 2 (k' := 2) rfl [(32, (.bool z18)), (33, (.bool z18))] K ?_
      refine In.guard (t := 33) (b := z18) K (fun hb75 => ?_) (fun hb75 => ?_)
      ·have H := ct H hb75
       refine In.run' 7 (k' := 9) rfl [(34, (.pointer none)), (35, (.bool true)), (36, (pt g63 0)), (37, (.bool false)), (38, (.bool (true == false))), (39, (.bool (true == false))), (4, (.bool (true == false)))] K ?_
       refine In.fin K ?_
       exact ⟨(true == false), ⟨K, trivial⟩, SP.sel hs69 [] rfl rfl, H⟩
      ·have H := cf H hb75
       refine In.run' 7 (k' := 9) rfl [(34, undef), (35, undef), (36, undef), (37, undef), (38, undef), (39, (.bool false)), (4, (.bool false))] K ?_
       refine In.fin K ?_
       exact ⟨false, ⟨K, trivial⟩, SP.sel hs69 [] rfl rfl, H⟩
     ·rintro ρ w73 ⟨v72, hk, hs74, H⟩
      unfold L_subwaylaw11_GatePlays_k3 at H
      first | refine At.known [(4, (.bool v72))] hk ?_ | rw [← known_updL (l := [(4, (.bool v72))]) hk]
      refine At.ret K ?_
      refine ⟨(.bool v72), K, ?_⟩
      obtain rfl := some_elim H
      exact ⟨rfl, SP.sel hs74 [] rfl rfl⟩
   ·have H := optS H
    refine In.step (k' := 2) rfl K ?_
    refine Step.callF (f := 12) (fo := (.func 12)) (xs := #[(.tmp 22)]) (tys := #[24]) (first := #[]) (captured := #[]) (d := (some 23)) (k := 1) K rfl K K Tryd.call12 (L_gate_New_walk A6 c7 pWait1 pGrace2 pIdle3 pLease4 d9 w38 (laid_below hL (SP.keeps hs39)) (Dp.sp hr8 hs39) (some o43) hz42) ?_
    rintro e w76 ⟨g78, F79, rfl, hs77⟩
    refine ⟨_, rfl, ?_⟩
    have hs81 : SP [] w0 w76 [boxE g14 24 #[(.int .i64 pWait1), (.int .i64 pGrace2), (.int .i64 pIdle3), (.int .i64 pLease4), (.slice A6 (List.length (List.map stT d9)) c7)], gateE g78 F79 d9 o43] := SP.call hs39 hs77
    clear hs77
    refine In.run' 1 (k' := 3) rfl [(6, (pt g78 0))] K ?_
    refine In.fin K ?_
    refine At.sq K ?_
    refine At.region K K ?_
    refine In.step (k' := 1) rfl K ?_
    refine Step.load (t := 24) (x := (.tmp 2)) (g := g14) (off := 0) (i := 0) (v := (.agg #[(.int .i64 pWait1), (.int .i64 pGrace2), (.int .i64 pIdle3), (.int .i64 pLease4), (.slice A6 (List.length (List.map stT d9)) c7)])) (d := (some 24)) (k := 0) K rfl K hs81 rfl K ?_
    obtain ⟨z82, hz83, H⟩ := bind_elim H
    rcases z82 with _ | o84
    ·have H := optN H
     refine In.step (k' := 2) rfl K ?_
     refine Step.callF (f := 13) (fo := (.func 13)) (xs := #[(.tmp 24)]) (tys := #[24]) (first := #[]) (captured := #[]) (d := (some 25)) (k := 1) K rfl K K Tryd.call13 (L_subwayref11_New_walk A6 c7 pWait1 pGrace2 pIdle3 pLease4 d9 w76 (Dp.sp hr8 hs81) none hz83) ?_
     rintro e w85 ⟨rfl, hs86⟩
     refine ⟨_, rfl, ?_⟩
     have hs88 : SP [] w0 w85 [boxE g14 24 #[(.int .i64 pWait1), (.int .i64 pGrace2), (.int .i64 pIdle3), (.int .i64 pLease4), (.slice A6 (List.length (List.map stT d9)) c7)], gateE g78 F79 d9 o43] := SP.call hs81 hs86
     clear hs86
     refine In.run' 1 (k' := 3) rfl [(7, (.pointer none))] K ?_
     refine In.fin K ?_
     refine At.sq K ?_
     refine At.sq K ?_
     refine At.region K K ?_
     refine In.run' 6 (k' := 6) rfl [(26, (pt g78 0)), (27, (.bool false)), (28, (.bool false)), (29, (.pointer none)), (30, (.bool true)), (31, (.bool true))] K ?_
     refine In.fin K ?_
     refine At.cd K (o := (.tmp 31)) K (b := true) K (fun hb89 => ?_) (fun hb89 => ?_)
     rotate_left
     ·cases hb89
     refine At.sq K ?_
     refine At.join (fun ρ w => ∃ (v91 : Bool), Known ρ [(4, (.bool v91))] ∧ SP [] w0 w [] ∧ L_subwaylaw11_GatePlays_k4 v91 = some r) ?_ ?_
     ·refine At.region K K ?_
      refine In.run' 2 (k' := 2) rfl [(32, (.bool z18)), (33, (.bool z18))] K ?_
      refine In.guard (t := 33) (b := z18) K (fun hb94 => ?_) (fun hb94 => ?_)
      ·have H := ct H hb94
       refine In.run' 7 (k' := 9) rfl [(34, (pt g78 0)), (35, (.bool false)), (36, (.pointer none)), (37, (.bool true)), (38, (.bool (false == true))), (39, (.bool (false == true))), (4, (.bool (false == true)))] K ?_
       refine In.fin K ?_
       exact ⟨(false == true), ⟨K, trivial⟩, SP.sel hs88 [] rfl rfl, H⟩
      ·have H := cf H hb94
       refine In.run' 7 (k' := 9) rfl [(34, undef), (35, undef), (36, undef), (37, undef), (38, undef), (39, (.bool false)), (4, (.bool false))] K ?_
       refine In.fin K ?_
       exact ⟨false, ⟨K, trivial⟩, SP.sel hs88 [] rfl rfl, H⟩
     ·rintro ρ w92 ⟨v91, hk, hs93, H⟩
      unfold L_subwaylaw11_GatePlays_k4 at H
      first | refine At.known [(4, (.bool v91))] hk ?_ | rw [← known_updL (l := [(4, (.bool v91))]) hk]
      refine At.ret K ?_
      refine ⟨(.bool v91), K, ?_⟩
      obtain rfl := some_elim H
      exact ⟨rfl, SP.sel hs93 [] rfl rfl⟩
    ·have H := optS H
     refine In.step (k' := 2) rfl K ?_
     refine Step.callF (f := 13) (fo := (.func 13)) (xs := #[(.tmp 24)]) (tys := #[24]) (first := #[]) (captured := #[]) (d := (some 25)) (k := 1) K rfl K K Tryd.call13 (L_subwayref11_New_walk A6 c7 pWait1 pGrace2 pIdle3 pLease4 d9 w76 (Dp.sp hr8 hs81) (some o84) hz83) ?_
     rintro e w95 ⟨g97, A98, c99, A100, c101, rfl, hs96⟩
     refine ⟨_, rfl, ?_⟩
     have hs103 : SP [] w0 w95 [boxE g14 24 #[(.int .i64 pWait1), (.int .i64 pGrace2), (.int .i64 pIdle3), (.int .i64 pLease4), (.slice A6 (List.length (List.map stT d9)) c7)], gateE g78 F79 d9 o43, boxE g97 66 #[(.int .i64 o84.1), (.int .i64 o84.2.1), (.int .i64 o84.2.2.1), (.int .i64 o84.2.2.2.1), (.slice A6 (List.length (List.map stT d9)) c7), (.slice A98 (List.length o84.2.2.2.2.1) c99), (.slice A100 (List.length o84.2.2.2.2.2) c101)], rowT 3 (eInt .i64) A98 c99 o84.2.2.2.2.1, rowT 3 (eInt .i64) A100 c101 o84.2.2.2.2.2] := SP.call hs81 hs96
     clear hs96
     refine In.run' 1 (k' := 3) rfl [(7, (pt g97 0))] K ?_
     refine In.fin K ?_
     refine At.sq K ?_
     refine At.sq K ?_
     refine At.region K K ?_
     refine In.run' 6 (k' := 6) rfl [(26, (pt g78 0)), (27, (.bool false)), (28, (.bool false)), (29, (pt g97 0)), (30, (.bool false)), (31, (.bool false))] K ?_
     refine In.fin K ?_
     refine At.cd K (o := (.tmp 31)) K (b := false) K (fun hb104 => ?_) (fun hb104 => ?_)
     ·cases hb104
     refine At.skip K ?_
     refine At.sq K ?_
     refine At.sq K ?_
     refine At.region K K ?_
     refine In.run' 1 (k' := 1) rfl [(8, (.int .i64 0))] K ?_
     refine In.fin K ?_
     refine At.bk K (id := 0) K ?_
     refine At.lp K (fun f14 ρ w => ∃ (v1138 : (List (List Int))) (v1139 : Int) (v1140 : Int) (v1141 : Int) (v1142 : Int) (v1145 : (List Int)) (v1148 : (List Int)) (v1149 : Int) (A1143 : Option Addr) (c1144 : Nat) (A1146 : Option Addr) (c1147 : Nat), Known ρ [(1, (.slice A11 (List.length p10) c12)), (5, (.bool z18)), (6, (pt g78 0)), (7, (pt g97 0)), (8, (.int .i64 v1149))] ∧ SP [] w0 w [gateE g78 F79 d9 v1138, rowT 3 (eInt .i64) A1143 c1144 v1145, rowT 3 (eInt .i64) A1146 c1147 v1148, boxE g97 66 #[(.int .i64 v1139), (.int .i64 v1140), (.int .i64 v1141), (.int .i64 v1142), (.slice A6 (List.length (List.map stT d9)) c7), (.slice A1143 (List.length v1145) c1144), (.slice A1146 (List.length v1148) c1147)]] ∧ L_subwaylaw11_GatePlays_l11 (List.map stT d9) p10 z18 f14 v1138 v1139 v1140 v1141 v1142 v1145 v1148 v1149 = some r) (by rintro ρ w ⟨v1138, v1139, v1140, v1141, v1142, v1145, v1148, v1149, A1143, c1144, A1146, c1147, hk, hs, H⟩; cases H) ?_ fuel ?_
     ·rintro f14 ρ w1136 ⟨v1138, v1139, v1140, v1141, v1142, v1145, v1148, v1149, A1143, c1144, A1146, c1147, hk, hs1137, H⟩
      refine At.known [(1, (.slice A11 (List.length p10) c12)), (5, (.bool z18)), (6, (pt g78 0)), (7, (pt g97 0)), (8, (.int .i64 v1149))] hk ?_
      replace H := (show L_subwaylaw11_GatePlays_b11 (L_subwaylaw11_GatePlays_l11 (List.map stT d9) p10 z18 f14) (List.map stT d9) p10 z18 v1138 v1139 v1140 v1141 v1142 v1145 v1148 v1149 = some r from H)
      unfold L_subwaylaw11_GatePlays_b11 at H
      refine At.sq K ?_
      refine At.sq K ?_
      refine At.region K K ?_
      refine In.run' 4 (k' := 4) rfl [(40, (.int .i64 v1149)), (41, (.slice A11 (List.length p10) c12)), (42, (.int .i64 ((List.length p10 : Nat) : Int))), (43, (.bool (decide (v1149 < ((List.length p10 : Nat) : Int)))))] K ?_
      refine In.fin K ?_
      refine At.cd K (o := (.tmp 43)) K (b := (decide (v1149 < ((List.length p10 : Nat) : Int)))) K (fun hb1659 => ?_) (fun hb1659 => ?_)
      ·have H := ct H hb1659
       refine At.skip K ?_
       refine At.sq K ?_
       refine At.bk K (id := 1) K ?_
       refine At.sq K ?_
       refine At.region K K ?_
       refine In.run' 2 (k' := 2) rfl [(46, (.slice A11 (List.length p10) c12)), (47, (.int .i64 v1149))] K ?_
       obtain ⟨x1660, hp1661, hq1662, hx1663, H⟩ := idx_elim H
       refine In.step (k' := 3) rfl K ?_
       refine Step.elem (e := (ePair (eInt .i64) (ePair eStr (ePair (eInt .i64) (eInt .u32))))) (l := p10) (A := A11) (c := c12) (T := 25) (E := 35) (x := (.tmp 46)) (ix := (.tmp 47)) (ki := .i64) (iz := v1149) (d := (some 48)) (k := 2) K rfl K K K K (RdT.sp hr13 hs1137) hp1661 hq1662 ?_
       intro b1664 o1665 hA1667 hb1668 hc1666
       refine In.step (k' := 4) rfl K ?_
       refine Step.cells (t := 35) (x := (.tmp 48)) (b := b1664) (off := (o1665 + Int.toNat v1149 * (ePair (eInt .i64) (ePair eStr (ePair (eInt .i64) (eInt .u32)))).sz)) (xs := [(.int .i64 x1660.1), (.string ⟨List.toArray x1660.2.1⟩), (.int .i64 x1660.2.2.1), (.int .u32 x1660.2.2.2)]) (d := (some 49)) (k := 3) K rfl K K K (elem_cells0 (e := (ePair (eInt .i64) (ePair eStr (ePair (eInt .i64) (eInt .u32))))) (rdt_cells (RdT.sp hr13 hs1137) hA1667 hp1661 hq1662) hx1663 rfl) ?_
       refine In.step (k' := 5) rfl K ?_
       refine Step.alloc (t := 35) (z := (.agg #[(.int .i64 0), (.string ⟨List.toArray ([] : List UInt8)⟩), (.int .i64 0), (.int .u32 0)])) (d := (some 9)) (k := 4) K rfl K hs1137 ?_
       intro g1669 w1670 (hs1672 : SP [] w0 w1670 [gateE g78 F79 d9 v1138, rowT 3 (eInt .i64) A1143 c1144 v1145, rowT 3 (eInt .i64) A1146 c1147 v1148, boxE g97 66 #[(.int .i64 v1139), (.int .i64 v1140), (.int .i64 v1141), (.int .i64 v1142), (.slice A6 (List.length (List.map stT d9)) c7), (.slice A1143 (List.length v1145) c1144), (.slice A1146 (List.length v1148) c1147)], boxE g1669 35 #[(.int .i64 0), (.string ⟨List.toArray ([] : List UInt8)⟩), (.int .i64 0), (.int .u32 0)]])
       refine In.step (k' := 6) rfl K ?_
       refine Step.store (t := 35) (x := (.tmp 9)) (y := (.tmp 49)) (g := g1669) (off := 0) (i := 4) (v := (.agg #[(.int .i64 x1660.1), (.string ⟨List.toArray x1660.2.1⟩), (.int .i64 x1660.2.2.1), (.int .u32 x1660.2.2.2)])) (cs' := #[(.int .i64 x1660.1), (.string ⟨List.toArray x1660.2.1⟩), (.int .i64 x1660.2.2.1), (.int .u32 x1660.2.2.2)]) (d := none) (k := 5) K rfl K K hs1672 rfl K ?_
       intro w1673 (hs1675 : SP [] w0 w1673 [gateE g78 F79 d9 v1138, rowT 3 (eInt .i64) A1143 c1144 v1145, rowT 3 (eInt .i64) A1146 c1147 v1148, boxE g97 66 #[(.int .i64 v1139), (.int .i64 v1140), (.int .i64 v1141), (.int .i64 v1142), (.slice A6 (List.length (List.map stT d9)) c7), (.slice A1143 (List.length v1145) c1144), (.slice A1146 (List.length v1148) c1147)], boxE g1669 35 #[(.int .i64 x1660.1), (.string ⟨List.toArray x1660.2.1⟩), (.int .i64 x1660.2.2.1), (.int .u32 x1660.2.2.2)]])
       refine In.fin K ?_
       refine At.sq K ?_
       refine At.sq K ?_
       refine At.region K K ?_
       refine In.run' 1 (k' := 1) rfl [(50, (pt g1669 0))] K ?_
       refine In.step (k' := 2) rfl K ?_
       refine Step.load (t := 3) (x := (.tmp 50)) (g := g1669) (off := 0) (i := 4) (v := (.int .i64 x1660.1)) (d := (some 51)) (k := 1) K rfl K hs1675 rfl K ?_
       refine In.fin K ?_
       refine At.bk K (id := 2) K ?_
       refine At.sq K ?_
       refine At.region K K ?_
       refine In.run' 2 (k' := 2) rfl [(68, (.bool (x1660.1 == 2))), (67, (.bool (x1660.1 == 2)))] K ?_
       refine In.fin K ?_
       refine At.join (fun ρ w => ∃ (v1881 : (List (List Int))) (v1882 : Int) (v1883 : Int) (v1884 : Int) (v1885 : Int) (v1888 : (List Int)) (v1891 : (List Int)) (A1886 : Option Addr) (c1887 : Nat) (A1889 : Option Addr) (c1890 : Nat), Known ρ [(1, (.slice A11 (List.length p10) c12)), (5, (.bool z18)), (6, (pt g78 0)), (7, (pt g97 0)), (8, (.int .i64 v1149)), (9, (pt g1669 0))] ∧ SP [] w0 w [gateE g78 F79 d9 v1881, rowT 3 (eInt .i64) A1886 c1887 v1888, rowT 3 (eInt .i64) A1889 c1890 v1891, boxE g97 66 #[(.int .i64 v1882), (.int .i64 v1883), (.int .i64 v1884), (.int .i64 v1885), (.slice A6 (List.length (List.map stT d9)) c7), (.slice A1886 (List.length v1888) c1887), (.slice A1889 (List.length v1891) c1890)], boxE g1669 35 #[(.int .i64 x1660.1), (.string ⟨List.toArray x1660.2.1⟩), (.int .i64 x1660.2.2.1), (.int .u32 x1660.2.2.2)]] ∧ L_subwaylaw11_GatePlays_k16 (L_subwaylaw11_GatePlays_l11 (List.map stT d9) p10 z18 f14) (List.map stT d9) v1149 x1660 v1881 v1882 v1883 v1884 v1885 v1888 v1891 = some r) ?_ ?_
       ·refine At.cd K (o := (.tmp 67)) K (b := (x1660.1 == 2)) K (fun hb1963 => ?_) (fun hb1963 => ?_)
        ·have H := ct H hb1963
         refine At.sq K ?_
         refine At.region K K ?_
         refine In.run' 2 (k' := 2) rfl [(69, (pt g78 0)), (70, (pt g1669 1))] K ?_
         refine In.step (k' := 3) rfl K ?_
         refine Step.load (t := 9) (x := (.tmp 70)) (g := g1669) (off := 1) (i := 4) (v := (.string ⟨List.toArray x1660.2.1⟩)) (d := (some 71)) (k := 2) K rfl K hs1675 rfl K ?_
         refine In.run' 1 (k' := 4) rfl [(72, (pt g1669 2))] K ?_
         refine In.step (k' := 5) rfl K ?_
         refine Step.load (t := 3) (x := (.tmp 72)) (g := g1669) (off := 2) (i := 4) (v := (.int .i64 x1660.2.2.1)) (d := (some 73)) (k := 4) K rfl K hs1675 rfl K ?_
         obtain ⟨z1964, hz1965, H⟩ := bind_elim H
         refine In.step (k' := 6) rfl K ?_
         refine Step.callF (f := 14) (fo := (.func 14)) (xs := #[(.tmp 69), (.tmp 71), (.tmp 73)]) (tys := #[29, 9, 3]) (first := #[]) (captured := #[]) (d := (some 74)) (k := 5) K rfl K K Tryd.call14 (L_gate_Gate_Give_walk g78 A6 c7 F79 d9 v1138 x1660.2.1 x1660.2.2.1 w1673 (SP.sub hs1675 [0] rfl rfl) (fun w hm => Dp.mono _ (SP.below_of hs1675 (l := [0]) rfl hm) hr8) z1964 hz1965) ?_
         rintro e w1966 ⟨rfl, hs1967⟩
         refine ⟨_, rfl, ?_⟩
         have hs1969 : SP [] w0 w1966 [rowT 3 (eInt .i64) A1143 c1144 v1145, rowT 3 (eInt .i64) A1146 c1147 v1148, boxE g97 66 #[(.int .i64 v1139), (.int .i64 v1140), (.int .i64 v1141), (.int .i64 v1142), (.slice A6 (List.length (List.map stT d9)) c7), (.slice A1143 (List.length v1145) c1144), (.slice A1146 (List.length v1148) c1147)], boxE g1669 35 #[(.int .i64 x1660.1), (.string ⟨List.toArray x1660.2.1⟩), (.int .i64 x1660.2.2.1), (.int .u32 x1660.2.2.2)], gateE g78 F79 d9 z1964.2] := SP.callS hs1675 [0] [1, 2, 3, 4] rfl rfl hs1967 rfl
         clear hs1967
         refine In.run' 1 (k' := 7) rfl [(10, (.bool z1964.1))] K ?_
         refine In.fin K ?_
         refine At.sq K ?_
         refine At.region K K ?_
         refine In.run' 2 (k' := 2) rfl [(75, (pt g97 0)), (76, (pt g1669 1))] K ?_
         refine In.step (k' := 3) rfl K ?_
         refine Step.load (t := 9) (x := (.tmp 76)) (g := g1669) (off := 1) (i := 3) (v := (.string ⟨List.toArray x1660.2.1⟩)) (d := (some 77)) (k := 2) K rfl K hs1969 rfl K ?_
         refine In.run' 1 (k' := 4) rfl [(78, (pt g1669 2))] K ?_
         refine In.step (k' := 5) rfl K ?_
         refine Step.load (t := 3) (x := (.tmp 78)) (g := g1669) (off := 2) (i := 3) (v := (.int .i64 x1660.2.2.1)) (d := (some 79)) (k := 4) K rfl K hs1969 rfl K ?_
         obtain ⟨z1970, hz1971, H⟩ := bind_elim H
         refine In.step (k' := 6) rfl K ?_
         refine Step.callF (f := 15) (fo := (.func 15)) (xs := #[(.tmp 75), (.tmp 77), (.tmp 79)]) (tys := #[31, 9, 3]) (first := #[]) (captured := #[]) (d := (some 80)) (k := 5) K rfl K K Tryd.call15 (L_subwayref11_Gate_Give_walk g97 A6 c7 A1143 c1144 A1146 c1147 v1139 v1140 v1141 v1142 d9 v1145 v1148 x1660.2.1 x1660.2.2.1 w1966 (SP.sub hs1969 [2, 0, 1] rfl rfl) (fun w hm => Dp.mono _ (SP.below_of hs1969 (l := [2, 0, 1]) rfl hm) hr8) z1970 hz1971) ?_
         rintro e w1972 ⟨A1974, c1975, A1976, c1977, rfl, hs1973⟩
         refine ⟨_, rfl, ?_⟩
         have hs1979 : SP [] w0 w1972 [boxE g1669 35 #[(.int .i64 x1660.1), (.string ⟨List.toArray x1660.2.1⟩), (.int .i64 x1660.2.2.1), (.int .u32 x1660.2.2.2)], gateE g78 F79 d9 z1964.2, boxE g97 66 #[(.int .i64 z1970.2.1), (.int .i64 z1970.2.2.1), (.int .i64 z1970.2.2.2.1), (.int .i64 z1970.2.2.2.2.1), (.slice A6 (List.length (List.map stT d9)) c7), (.slice A1974 (List.length z1970.2.2.2.2.2.1) c1975), (.slice A1976 (List.length z1970.2.2.2.2.2.2) c1977)], rowT 3 (eInt .i64) A1974 c1975 z1970.2.2.2.2.2.1, rowT 3 (eInt .i64) A1976 c1977 z1970.2.2.2.2.2.2] := SP.callS hs1969 [2, 0, 1] [3, 4] rfl rfl hs1973 rfl
         clear hs1973
         refine In.run' 1 (k' := 7) rfl [(11, (.bool z1970.1))] K ?_
         refine In.fin K ?_
         refine At.sq K ?_
         refine At.region K K ?_
         refine In.run' 3 (k' := 3) rfl [(81, (.bool z1964.1)), (82, (.bool z1970.1)), (83, (.bool (!(z1964.1 == z1970.1))))] K ?_
         refine In.fin K ?_
         refine At.cd K (o := (.tmp 83)) K (b := (!(z1964.1 == z1970.1))) K (fun hb1980 => ?_) (fun hb1980 => ?_)
         ·have H := ct H hb1980
          refine At.sq K ?_
          refine At.region K K ?_
          refine In.run' 1 (k' := 1) rfl [(4, (.bool false))] K ?_
          refine In.fin K ?_
          refine At.ret K ?_
          refine ⟨(.bool false), K, ?_⟩
          obtain rfl := some_elim H
          exact ⟨rfl, SP.sel hs1979 [] rfl rfl⟩
         ·have H := cf H hb1980
          refine At.skip K ?_
          exact ⟨z1964.2, z1970.2.1, z1970.2.2.1, z1970.2.2.2.1, z1970.2.2.2.2.1, z1970.2.2.2.2.2.1, z1970.2.2.2.2.2.2, A1974, c1975, A1976, c1977, ⟨K, K, K, K, K, K, trivial⟩, SP.sel hs1979 [1, 3, 4, 2, 0] rfl rfl, H⟩
        ·have H := cf H hb1963
         refine At.sq K ?_
         refine At.region K K ?_
         refine In.run' 2 (k' := 2) rfl [(85, (.bool (x1660.1 == 3))), (84, (.bool (x1660.1 == 3)))] K ?_
         refine In.fin K ?_
         refine At.join (fun ρ w => ∃ (v2068 : (List (List Int))) (v2069 : Int) (v2070 : Int) (v2071 : Int) (v2072 : Int) (v2075 : (List Int)) (v2078 : (List Int)) (A2073 : Option Addr) (c2074 : Nat) (A2076 : Option Addr) (c2077 : Nat), Known ρ [(1, (.slice A11 (List.length p10) c12)), (5, (.bool z18)), (6, (pt g78 0)), (7, (pt g97 0)), (8, (.int .i64 v1149)), (9, (pt g1669 0))] ∧ SP [] w0 w [gateE g78 F79 d9 v2068, rowT 3 (eInt .i64) A2073 c2074 v2075, rowT 3 (eInt .i64) A2076 c2077 v2078, boxE g97 66 #[(.int .i64 v2069), (.int .i64 v2070), (.int .i64 v2071), (.int .i64 v2072), (.slice A6 (List.length (List.map stT d9)) c7), (.slice A2073 (List.length v2075) c2074), (.slice A2076 (List.length v2078) c2077)], boxE g1669 35 #[(.int .i64 x1660.1), (.string ⟨List.toArray x1660.2.1⟩), (.int .i64 x1660.2.2.1), (.int .u32 x1660.2.2.2)]] ∧ L_subwaylaw11_GatePlays_k17 (L_subwaylaw11_GatePlays_l11 (List.map stT d9) p10 z18 f14) (List.map stT d9) v1149 x1660 v2068 v2069 v2070 v2071 v2072 v2075 v2078 = some r) ?_ ?_
         ·refine At.cd K (o := (.tmp 84)) K (b := (x1660.1 == 3)) K (fun hb2081 => ?_) (fun hb2081 => ?_)
          ·have H := ct H hb2081
           refine At.sq K ?_
           obtain ⟨z2082, hz2083, H⟩ := bind_elim H
           obtain ⟨z2088, hz2089, H⟩ := bind_elim H
           refine At.stages K K K K K [GEq (pt g78 0), GEq (pt g1669 1), GEq (.string ⟨List.toArray x1660.2.1⟩), GEq (pt g1669 3), GEq (.int .u32 x1660.2.2.2), GEq (.int .i64 z2082), GEq (pt g97 0), GEq (pt g1669 1), GEq (.string ⟨List.toArray x1660.2.1⟩), GEq (pt g1669 3), GEq (.int .u32 x1660.2.2.2), GEq (.int .i64 z2088), GEq (.bool (z2082 != z2088))] [5, 11] [([], fun vs w => VL vs [] ∧ SP [] w0 w [gateE g78 F79 d9 v1138, rowT 3 (eInt .i64) A1143 c1144 v1145, rowT 3 (eInt .i64) A1146 c1147 v1148, boxE g97 66 #[(.int .i64 v1139), (.int .i64 v1140), (.int .i64 v1141), (.int .i64 v1142), (.slice A6 (List.length (List.map stT d9)) c7), (.slice A1143 (List.length v1145) c1144), (.slice A1146 (List.length v1148) c1147)], boxE g1669 35 #[(.int .i64 x1660.1), (.string ⟨List.toArray x1660.2.1⟩), (.int .i64 x1660.2.2.1), (.int .u32 x1660.2.2.2)]]), ([5], fun vs w => VL vs [(.int .i64 z2082)] ∧ SP [] w0 w [rowT 3 (eInt .i64) A1143 c1144 v1145, rowT 3 (eInt .i64) A1146 c1147 v1148, boxE g97 66 #[(.int .i64 v1139), (.int .i64 v1140), (.int .i64 v1141), (.int .i64 v1142), (.slice A6 (List.length (List.map stT d9)) c7), (.slice A1143 (List.length v1145) c1144), (.slice A1146 (List.length v1148) c1147)], boxE g1669 35 #[(.int .i64 x1660.1), (.string ⟨List.toArray x1660.2.1⟩), (.int .i64 x1660.2.2.1), (.int .u32 x1660.2.2.2)], gateE g78 F79 d9 v1138]), ([5, 11], fun vs w => ∃ (A2108 : Option Addr), ∃ (c2109 : Nat), ∃ (A2110 : Option Addr), ∃ (c2111 : Nat), VL vs [(.int .i64 z2082), (.int .i64 z2088)] ∧ SP [] w0 w [boxE g1669 35 #[(.int .i64 x1660.1), (.string ⟨List.toArray x1660.2.1⟩), (.int .i64 x1660.2.2.1), (.int .u32 x1660.2.2.2)], gateE g78 F79 d9 v1138, boxE g97 66 #[(.int .i64 v1139), (.int .i64 v1140), (.int .i64 v1141), (.int .i64 v1142), (.slice A6 (List.length (List.map stT d9)) c7), (.slice A2108 (List.length v1145) c2109), (.slice A2110 (List.length v1148) c2111)], rowT 3 (eInt .i64) A2108 c2109 v1145, rowT 3 (eInt .i64) A2110 c2111 v1148])] (N := 13) K ⟨K, Nat.zero_lt_succ _⟩ (show VL [] [] ∧ SP [] w0 w1673.drew [gateE g78 F79 d9 v1138, rowT 3 (eInt .i64) A1143 c1144 v1145, rowT 3 (eInt .i64) A1146 c1147 v1148, boxE g97 66 #[(.int .i64 v1139), (.int .i64 v1140), (.int .i64 v1141), (.int .i64 v1142), (.slice A6 (List.length (List.map stT d9)) c7), (.slice A1143 (List.length v1145) c1144), (.slice A1146 (List.length v1148) c1147)], boxE g1669 35 #[(.int .i64 x1660.1), (.string ⟨List.toArray x1660.2.1⟩), (.int .i64 x1660.2.2.1), (.int .u32 x1660.2.2.2)]] from ⟨trivial, SP.drew hs1675⟩) ⟨⟨⟨⟨⟨⟨⟨⟨⟨⟨⟨⟨⟨trivial, ?_⟩, ?_⟩, ?_⟩, ?_⟩, ?_⟩, ?_⟩, ?_⟩, ?_⟩, ?_⟩, ?_⟩, ?_⟩, ?_⟩, ?_⟩ (last := 2) K ?_
           ·exact Owe.run K [(6, (pt g78 0))] ⟨gS K K, trivial⟩ (pt g78 0) (fun _ _ => K) rfl
           ·exact Owe.run K [(9, (pt g1669 0))] ⟨gS K K, trivial⟩ (pt g1669 1) (fun _ _ => K) rfl
           ·refine Owe.light K [0] K (all_cons ?_ all_nil)
            ·rintro ρ' w' hs hah ⟨hvl2115, hs2114⟩
             have hkn : Known ρ' [(87, (pt g1669 1))] := ⟨hah 1 87 K, trivial⟩
             refine Step.known _ hkn ?_
             refine Step.load (t := 9) (x := (.tmp 87)) (g := g1669) (off := 1) (i := 4) (v := (.string ⟨List.toArray x1660.2.1⟩)) (d := (some 88)) (k := 2) K rfl K hs2114 rfl K ?_
             exact ⟨rfl, _, updO_known hkn, rfl⟩
           ·exact Owe.run K [(9, (pt g1669 0))] ⟨gS K K, trivial⟩ (pt g1669 3) (fun _ _ => K) rfl
           ·refine Owe.light K [0] K (all_cons ?_ all_nil)
            ·rintro ρ' w' hs hah ⟨hvl2117, hs2116⟩
             have hkn : Known ρ' [(89, (pt g1669 3))] := ⟨hah 3 89 K, trivial⟩
             refine Step.known _ hkn ?_
             refine Step.load (t := 33) (x := (.tmp 89)) (g := g1669) (off := 3) (i := 4) (v := (.int .u32 x1660.2.2.2)) (d := (some 90)) (k := 4) K rfl K hs2116 rfl K ?_
             exact ⟨rfl, _, updO_known hkn, rfl⟩
           ·refine Owe.heavy K [(0, 1)] K (all_cons ⟨K, K, ?_⟩ all_nil)
            ·rintro ρ' w' hs hah ⟨hvl2119, hs2118⟩
             have hkn : Known ρ' [(86, (pt g78 0)), (88, (.string ⟨List.toArray x1660.2.1⟩)), (90, (.int .u32 x1660.2.2.2))] := ⟨hah 0 86 K, hah 2 88 K, hah 4 90 K, trivial⟩
             refine Step.known _ hkn ?_
             refine Step.callF (f := 16) (fo := (.func 16)) (xs := #[(.tmp 86), (.tmp 88), (.tmp 90)]) (tys := #[29, 9, 33]) (first := #[]) (captured := #[]) (d := (some 91)) (k := 5) K rfl K K Tryd.call16 (L_gate_Gate_Admit_walk g78 A6 c7 F79 d9 v1138 x1660.2.1 x1660.2.2.2 w' (SP.sub hs2118 [0] rfl rfl) (fun w hm => Dp.mono _ (SP.below_of hs2118 (l := [0]) rfl hm) hr8) z2082 hz2083) ?_
             rintro e w2120 ⟨rfl, hs2121⟩
             refine ⟨_, rfl, ?_⟩
             have hs2123 : SP [] w0 w2120 [rowT 3 (eInt .i64) A1143 c1144 v1145, rowT 3 (eInt .i64) A1146 c1147 v1148, boxE g97 66 #[(.int .i64 v1139), (.int .i64 v1140), (.int .i64 v1141), (.int .i64 v1142), (.slice A6 (List.length (List.map stT d9)) c7), (.slice A1143 (List.length v1145) c1144), (.slice A1146 (List.length v1148) c1147)], boxE g1669 35 #[(.int .i64 x1660.1), (.string ⟨List.toArray x1660.2.1⟩), (.int .i64 x1660.2.2.1), (.int .u32 x1660.2.2.2)], gateE g78 F79 d9 v1138] := SP.callS hs2118 [0] [1, 2, 3, 4] rfl rfl hs2121 rfl
             clear hs2121
             refine ⟨_, updO_known hkn, rfl, ?_⟩
             exact (And.intro (And.intro rfl (trivial)) (hs2123))
           ·exact Owe.run K [(7, (pt g97 0))] ⟨gS K K, trivial⟩ (pt g97 0) (fun _ _ => K) rfl
           ·exact Owe.run K [(9, (pt g1669 0))] ⟨gS K K, trivial⟩ (pt g1669 1) (fun _ _ => K) rfl
           ·refine Owe.light K [0, 1] K (all_cons ?_ (all_cons ?_ all_nil))
            ·rintro ρ' w' hs hah ⟨hvl2125, hs2124⟩
             have hkn : Known ρ' [(93, (pt g1669 1))] := ⟨hah 7 93 K, trivial⟩
             refine Step.known _ hkn ?_
             refine Step.load (t := 9) (x := (.tmp 93)) (g := g1669) (off := 1) (i := 4) (v := (.string ⟨List.toArray x1660.2.1⟩)) (d := (some 94)) (k := 8) K rfl K hs2124 rfl K ?_
             exact ⟨rfl, _, updO_known hkn, rfl⟩
            ·rintro ρ' w' hs hah ⟨⟨q2127, -⟩, hs2126⟩
             have hkn : Known ρ' [(93, (pt g1669 1))] := ⟨hah 7 93 K, trivial⟩
             refine Step.known _ hkn ?_
             refine Step.load (t := 9) (x := (.tmp 93)) (g := g1669) (off := 1) (i := 3) (v := (.string ⟨List.toArray x1660.2.1⟩)) (d := (some 94)) (k := 8) K rfl K hs2126 rfl K ?_
             exact ⟨rfl, _, updO_known hkn, rfl⟩
           ·exact Owe.run K [(9, (pt g1669 0))] ⟨gS K K, trivial⟩ (pt g1669 3) (fun _ _ => K) rfl
           ·refine Owe.light K [0, 1] K (all_cons ?_ (all_cons ?_ all_nil))
            ·rintro ρ' w' hs hah ⟨hvl2130, hs2129⟩
             have hkn : Known ρ' [(95, (pt g1669 3))] := ⟨hah 9 95 K, trivial⟩
             refine Step.known _ hkn ?_
             refine Step.load (t := 33) (x := (.tmp 95)) (g := g1669) (off := 3) (i := 4) (v := (.int .u32 x1660.2.2.2)) (d := (some 96)) (k := 10) K rfl K hs2129 rfl K ?_
             exact ⟨rfl, _, updO_known hkn, rfl⟩
            ·rintro ρ' w' hs hah ⟨⟨q2132, -⟩, hs2131⟩
             have hkn : Known ρ' [(95, (pt g1669 3))] := ⟨hah 9 95 K, trivial⟩
             refine Step.known _ hkn ?_
             refine Step.load (t := 33) (x := (.tmp 95)) (g := g1669) (off := 3) (i := 3) (v := (.int .u32 x1660.2.2.2)) (d := (some 96)) (k := 10) K rfl K hs2131 rfl K ?_
             exact ⟨rfl, _, updO_known hkn, rfl⟩
           ·refine Owe.heavy K [(1, 2)] K (all_cons ⟨K, K, ?_⟩ all_nil)
            ·rintro ρ' w' hs hah ⟨⟨q2135, -⟩, hs2134⟩
             have hkn : Known ρ' [(92, (pt g97 0)), (94, (.string ⟨List.toArray x1660.2.1⟩)), (96, (.int .u32 x1660.2.2.2))] := ⟨hah 6 92 K, hah 8 94 K, hah 10 96 K, trivial⟩
             refine Step.known _ hkn ?_
             refine Step.callF (f := 17) (fo := (.func 17)) (xs := #[(.tmp 92), (.tmp 94), (.tmp 96)]) (tys := #[31, 9, 33]) (first := #[]) (captured := #[]) (d := (some 97)) (k := 11) K rfl K K Tryd.call17 (L_subwayref11_Gate_Admit_walk g97 A6 c7 A1143 c1144 A1146 c1147 v1139 v1140 v1141 v1142 d9 v1145 v1148 x1660.2.1 x1660.2.2.2 w' (SP.sub hs2134 [2, 0, 1] rfl rfl) (fun w hm => Dp.mono _ (SP.below_of hs2134 (l := [2, 0, 1]) rfl hm) hr8) z2088 hz2089) ?_
             rintro e w2137 ⟨A2139, c2140, A2141, c2142, rfl, hs2138⟩
             refine ⟨_, rfl, ?_⟩
             have hs2144 : SP [] w0 w2137 [boxE g1669 35 #[(.int .i64 x1660.1), (.string ⟨List.toArray x1660.2.1⟩), (.int .i64 x1660.2.2.1), (.int .u32 x1660.2.2.2)], gateE g78 F79 d9 v1138, boxE g97 66 #[(.int .i64 v1139), (.int .i64 v1140), (.int .i64 v1141), (.int .i64 v1142), (.slice A6 (List.length (List.map stT d9)) c7), (.slice A2139 (List.length v1145) c2140), (.slice A2141 (List.length v1148) c2142)], rowT 3 (eInt .i64) A2139 c2140 v1145, rowT 3 (eInt .i64) A2141 c2142 v1148] := SP.callS hs2134 [2, 0, 1] [3, 4] rfl rfl hs2138 rfl
             clear hs2138
             refine ⟨_, updO_known hkn, rfl, ?_⟩
             exact (Exists.intro A2139 (Exists.intro c2140 (Exists.intro A2141 (Exists.intro c2142 (And.intro (And.intro q2135 (And.intro rfl (trivial))) (hs2144))))))
           ·exact Owe.run K [(91, (.int .i64 z2082)), (97, (.int .i64 z2088))] ⟨gA 5 K K, gA 11 K K, trivial⟩ (.bool (z2082 != z2088)) (fun _ _ => K) rfl
           ·rintro ρ' w' hs hf ⟨A2108, c2109, A2110, c2111, ⟨q2146, q2147, -⟩, hs2145⟩
            refine postKnown [(1, (.slice A11 (List.length p10) c12)), (5, (.bool z18)), (6, (pt g78 0)), (7, (pt g97 0)), (8, (.int .i64 v1149)), (9, (pt g1669 0)), (98, (.bool (z2082 != z2088)))] ⟨(hs 1 K).trans K, (hs 5 K).trans K, (hs 6 K).trans K, (hs 7 K).trans K, (hs 8 K).trans K, (hs 9 K).trans K, hf 12 98 K, trivial⟩ ?_
            obtain ⟨w2149, hww2149⟩ : ∃ x, w' = x := ⟨_, rfl⟩
            rw [hww2149] at hs2145 ⊢
            refine At.cd K (o := (.tmp 98)) K (b := (z2082 != z2088)) K (fun hb2150 => ?_) (fun hb2150 => ?_)
            ·have H := ct H hb2150
             refine At.sq K ?_
             refine At.region K K ?_
             refine In.run' 1 (k' := 1) rfl [(4, (.bool false))] K ?_
             refine In.fin K ?_
             refine At.ret K ?_
             refine ⟨(.bool false), K, ?_⟩
             obtain rfl := some_elim H
             exact ⟨rfl, SP.sel hs2145 [] rfl rfl⟩
            ·have H := cf H hb2150
             refine At.skip K ?_
             exact ⟨v1138, v1139, v1140, v1141, v1142, v1145, v1148, A2108, c2109, A2110, c2111, ⟨K, K, K, K, K, K, trivial⟩, SP.sel hs2145 [1, 3, 4, 2, 0] rfl rfl, H⟩
          ·have H := cf H hb2081
           refine At.sq K ?_
           refine At.region K K ?_
           refine In.run' 2 (k' := 2) rfl [(52, (pt g78 0)), (53, (pt g1669 1))] K ?_
           refine In.step (k' := 3) rfl K ?_
           refine Step.load (t := 9) (x := (.tmp 53)) (g := g1669) (off := 1) (i := 4) (v := (.string ⟨List.toArray x1660.2.1⟩)) (d := (some 54)) (k := 2) K rfl K hs1675 rfl K ?_
           refine In.run' 1 (k' := 4) rfl [(55, (pt g1669 2))] K ?_
           refine In.step (k' := 5) rfl K ?_
           refine Step.load (t := 3) (x := (.tmp 55)) (g := g1669) (off := 2) (i := 4) (v := (.int .i64 x1660.2.2.1)) (d := (some 56)) (k := 4) K rfl K hs1675 rfl K ?_
           obtain ⟨z2151, hz2152, H⟩ := bind_elim H
           refine In.step (k' := 6) rfl K ?_
           refine Step.callF (f := 18) (fo := (.func 18)) (xs := #[(.tmp 52), (.tmp 54), (.tmp 56)]) (tys := #[29, 9, 3]) (first := #[]) (captured := #[]) (d := (some 57)) (k := 5) K rfl K K Tryd.call18 (L_gate_Gate_Take_walk g78 A6 c7 F79 d9 v1138 x1660.2.1 x1660.2.2.1 w1673 (SP.sub hs1675 [0] rfl rfl) (fun w hm => Dp.mono _ (SP.below_of hs1675 (l := [0]) rfl hm) hr8) z2151 hz2152) ?_
           rintro e w2153 ⟨rfl, hs2154⟩
           refine ⟨_, rfl, ?_⟩
           have hs2156 : SP [] w0 w2153 [rowT 3 (eInt .i64) A1143 c1144 v1145, rowT 3 (eInt .i64) A1146 c1147 v1148, boxE g97 66 #[(.int .i64 v1139), (.int .i64 v1140), (.int .i64 v1141), (.int .i64 v1142), (.slice A6 (List.length (List.map stT d9)) c7), (.slice A1143 (List.length v1145) c1144), (.slice A1146 (List.length v1148) c1147)], boxE g1669 35 #[(.int .i64 x1660.1), (.string ⟨List.toArray x1660.2.1⟩), (.int .i64 x1660.2.2.1), (.int .u32 x1660.2.2.2)], gateE g78 F79 d9 z2151.2] := SP.callS hs1675 [0] [1, 2, 3, 4] rfl rfl hs2154 rfl
           clear hs2154
           refine In.run' 1 (k' := 7) rfl [(12, (.int .i64 z2151.1))] K ?_
           refine In.fin K ?_
           refine At.sq K ?_
           refine At.region K K ?_
           refine In.run' 2 (k' := 2) rfl [(58, (pt g97 0)), (59, (pt g1669 1))] K ?_
           refine In.step (k' := 3) rfl K ?_
           refine Step.load (t := 9) (x := (.tmp 59)) (g := g1669) (off := 1) (i := 3) (v := (.string ⟨List.toArray x1660.2.1⟩)) (d := (some 60)) (k := 2) K rfl K hs2156 rfl K ?_
           refine In.run' 1 (k' := 4) rfl [(61, (pt g1669 2))] K ?_
           refine In.step (k' := 5) rfl K ?_
           refine Step.load (t := 3) (x := (.tmp 61)) (g := g1669) (off := 2) (i := 3) (v := (.int .i64 x1660.2.2.1)) (d := (some 62)) (k := 4) K rfl K hs2156 rfl K ?_
           obtain ⟨z2157, hz2158, H⟩ := bind_elim H
           refine In.step (k' := 6) rfl K ?_
           refine Step.callF (f := 19) (fo := (.func 19)) (xs := #[(.tmp 58), (.tmp 60), (.tmp 62)]) (tys := #[31, 9, 3]) (first := #[]) (captured := #[]) (d := (some 63)) (k := 5) K rfl K K Tryd.call19 (L_subwayref11_Gate_Take_walk g97 A6 c7 A1143 c1144 A1146 c1147 v1139 v1140 v1141 v1142 d9 v1145 v1148 x1660.2.1 x1660.2.2.1 w2153 (SP.sub hs2156 [2, 0, 1] rfl rfl) (fun w hm => Dp.mono _ (SP.below_of hs2156 (l := [2, 0, 1]) rfl hm) hr8) z2157 hz2158) ?_
           rintro e w2159 ⟨A2161, c2162, A2163, c2164, rfl, hs2160⟩
           refine ⟨_, rfl, ?_⟩
           have hs2166 : SP [] w0 w2159 [boxE g1669 35 #[(.int .i64 x1660.1), (.string ⟨List.toArray x1660.2.1⟩), (.int .i64 x1660.2.2.1), (.int .u32 x1660.2.2.2)], gateE g78 F79 d9 z2151.2, boxE g97 66 #[(.int .i64 z2157.2.1), (.int .i64 z2157.2.2.1), (.int .i64 z2157.2.2.2.1), (.int .i64 z2157.2.2.2.2.1), (.slice A6 (List.length (List.map stT d9)) c7), (.slice A2161 (List.length z2157.2.2.2.2.2.1) c2162), (.slice A2163 (List.length z2157.2.2.2.2.2.2) c2164)], rowT 3 (eInt .i64) A2161 c2162 z2157.2.2.2.2.2.1, rowT 3 (eInt .i64) A2163 c2164 z2157.2.2.2.2.2.2] := SP.callS hs2156 [2, 0, 1] [3, 4] rfl rfl hs2160 rfl
           clear hs2160
           refine In.run' 1 (k' := 7) rfl [(13, (.int .i64 z2157.1))] K ?_
           refine In.fin K ?_
           refine At.sq K ?_
           refine At.region K K ?_
           refine In.run' 3 (k' := 3) rfl [(64, (.int .i64 z2151.1)), (65, (.int .i64 z2157.1)), (66, (.bool (z2151.1 != z2157.1)))] K ?_
           refine In.fin K ?_
           refine At.cd K (o := (.tmp 66)) K (b := (z2151.1 != z2157.1)) K (fun hb2167 => ?_) (fun hb2167 => ?_)
           ·have H := ct H hb2167
            refine At.sq K ?_
            refine At.region K K ?_
            refine In.run' 1 (k' := 1) rfl [(4, (.bool false))] K ?_
            refine In.fin K ?_
            refine At.ret K ?_
            refine ⟨(.bool false), K, ?_⟩
            obtain rfl := some_elim H
            exact ⟨rfl, SP.sel hs2166 [] rfl rfl⟩
           ·have H := cf H hb2167
            refine At.skip K ?_
            exact ⟨z2151.2, z2157.2.1, z2157.2.2.1, z2157.2.2.2.1, z2157.2.2.2.2.1, z2157.2.2.2.2.2.1, z2157.2.2.2.2.2.2, A2161, c2162, A2163, c2164, ⟨K, K, K, K, K, K, trivial⟩, SP.sel hs2166 [1, 3, 4, 2, 0] rfl rfl, H⟩
         ·rintro ρ w2079 ⟨v2068, v2069, v2070, v2071, v2072, v2075, v2078, A2073, c2074, A2076, c2077, hk, hs2080, H⟩
          unfold L_subwaylaw11_GatePlays_k17 at H
          first | refine At.known [(1, (.slice A11 (List.length p10) c12)), (5, (.bool z18)), (6, (pt g78 0)), (7, (pt g97 0)), (8, (.int .i64 v1149)), (9, (pt g1669 0))] hk ?_ | rw [← known_updL (l := [(1, (.slice A11 (List.length p10) c12)), (5, (.bool z18)), (6, (pt g78 0)), (7, (pt g97 0)), (8, (.int .i64 v1149)), (9, (pt g1669 0))]) hk]
          exact ⟨v2068, v2069, v2070, v2071, v2072, v2075, v2078, A2073, c2074, A2076, c2077, ⟨K, K, K, K, K, K, trivial⟩, SP.sel hs2080 [0, 1, 2, 3, 4] rfl rfl, H⟩
       ·rintro ρ w1892 ⟨v1881, v1882, v1883, v1884, v1885, v1888, v1891, A1886, c1887, A1889, c1890, hk, hs1893, H⟩
        unfold L_subwaylaw11_GatePlays_k16 at H
        first | refine At.known [(1, (.slice A11 (List.length p10) c12)), (5, (.bool z18)), (6, (pt g78 0)), (7, (pt g97 0)), (8, (.int .i64 v1149)), (9, (pt g1669 0))] hk ?_ | rw [← known_updL (l := [(1, (.slice A11 (List.length p10) c12)), (5, (.bool z18)), (6, (pt g78 0)), (7, (pt g97 0)), (8, (.int .i64 v1149)), (9, (pt g1669 0))]) hk]
        refine At.sq K ?_
        obtain ⟨z1894, hz1895, H⟩ := bind_elim H
        obtain ⟨z1900, hz1901, H⟩ := bind_elim H
        refine At.stages K K K K K [GEq (pt g78 0), GEq (pt g1669 1), GEq (.string ⟨List.toArray x1660.2.1⟩), GEq (pt g1669 2), GEq (.int .i64 x1660.2.2.1), GEq (.int .i64 z1894), GEq (pt g97 0), GEq (pt g1669 1), GEq (.string ⟨List.toArray x1660.2.1⟩), GEq (pt g1669 2), GEq (.int .i64 x1660.2.2.1), GEq (.int .i64 z1900), GEq (.bool (z1894 != z1900))] [5, 11] [([], fun vs w => VL vs [] ∧ SP [] w0 w [gateE g78 F79 d9 v1881, rowT 3 (eInt .i64) A1886 c1887 v1888, rowT 3 (eInt .i64) A1889 c1890 v1891, boxE g97 66 #[(.int .i64 v1882), (.int .i64 v1883), (.int .i64 v1884), (.int .i64 v1885), (.slice A6 (List.length (List.map stT d9)) c7), (.slice A1886 (List.length v1888) c1887), (.slice A1889 (List.length v1891) c1890)], boxE g1669 35 #[(.int .i64 x1660.1), (.string ⟨List.toArray x1660.2.1⟩), (.int .i64 x1660.2.2.1), (.int .u32 x1660.2.2.2)]]), ([5], fun vs w => VL vs [(.int .i64 z1894)] ∧ SP [] w0 w [rowT 3 (eInt .i64) A1886 c1887 v1888, rowT 3 (eInt .i64) A1889 c1890 v1891, boxE g97 66 #[(.int .i64 v1882), (.int .i64 v1883), (.int .i64 v1884), (.int .i64 v1885), (.slice A6 (List.length (List.map stT d9)) c7), (.slice A1886 (List.length v1888) c1887), (.slice A1889 (List.length v1891) c1890)], boxE g1669 35 #[(.int .i64 x1660.1), (.string ⟨List.toArray x1660.2.1⟩), (.int .i64 x1660.2.2.1), (.int .u32 x1660.2.2.2)], gateE g78 F79 d9 v1881]), ([5, 11], fun vs w => ∃ (A1920 : Option Addr), ∃ (c1921 : Nat), ∃ (A1922 : Option Addr), ∃ (c1923 : Nat), VL vs [(.int .i64 z1894), (.int .i64 z1900)] ∧ SP [] w0 w [boxE g1669 35 #[(.int .i64 x1660.1), (.string ⟨List.toArray x1660.2.1⟩), (.int .i64 x1660.2.2.1), (.int .u32 x1660.2.2.2)], gateE g78 F79 d9 v1881, boxE g97 66 #[(.int .i64 v1882), (.int .i64 v1883), (.int .i64 v1884), (.int .i64 v1885), (.slice A6 (List.length (List.map stT d9)) c7), (.slice A1920 (List.length v1888) c1921), (.slice A1922 (List.length v1891) c1923)], rowT 3 (eInt .i64) A1920 c1921 v1888, rowT 3 (eInt .i64) A1922 c1923 v1891])] (N := 13) K ⟨K, Nat.zero_lt_succ _⟩ (show VL [] [] ∧ SP [] w0 w1892.drew [gateE g78 F79 d9 v1881, rowT 3 (eInt .i64) A1886 c1887 v1888, rowT 3 (eInt .i64) A1889 c1890 v1891, boxE g97 66 #[(.int .i64 v1882), (.int .i64 v1883), (.int .i64 v1884), (.int .i64 v1885), (.slice A6 (List.length (List.map stT d9)) c7), (.slice A1886 (List.length v1888) c1887), (.slice A1889 (List.length v1891) c1890)], boxE g1669 35 #[(.int .i64 x1660.1), (.string ⟨List.toArray x1660.2.1⟩), (.int .i64 x1660.2.2.1), (.int .u32 x1660.2.2.2)]] from ⟨trivial, SP.drew hs1893⟩) ⟨⟨⟨⟨⟨⟨⟨⟨⟨⟨⟨⟨⟨trivial, ?_⟩, ?_⟩, ?_⟩, ?_⟩, ?_⟩, ?_⟩, ?_⟩, ?_⟩, ?_⟩, ?_⟩, ?_⟩, ?_⟩, ?_⟩ (last := 2) K ?_
        ·exact Owe.run K [(6, (pt g78 0))] ⟨gS K K, trivial⟩ (pt g78 0) (fun _ _ => K) rfl
        ·exact Owe.run K [(9, (pt g1669 0))] ⟨gS K K, trivial⟩ (pt g1669 1) (fun _ _ => K) rfl
        ·refine Owe.light K [0] K (all_cons ?_ all_nil)
         ·rintro ρ' w' hs hah ⟨hvl1927, hs1926⟩
          have hkn : Known ρ' [(100, (pt g1669 1))] := ⟨hah 1 100 K, trivial⟩
          refine Step.known _ hkn ?_
          refine Step.load (t := 9) (x := (.tmp 100)) (g := g1669) (off := 1) (i := 4) (v := (.string ⟨List.toArray x1660.2.1⟩)) (d := (some 101)) (k := 2) K rfl K hs1926 rfl K ?_
          exact ⟨rfl, _, updO_known hkn, rfl⟩
        ·exact Owe.run K [(9, (pt g1669 0))] ⟨gS K K, trivial⟩ (pt g1669 2) (fun _ _ => K) rfl
        ·refine Owe.light K [0] K (all_cons ?_ all_nil)
         ·rintro ρ' w' hs hah ⟨hvl1929, hs1928⟩
          have hkn : Known ρ' [(102, (pt g1669 2))] := ⟨hah 3 102 K, trivial⟩
          refine Step.known _ hkn ?_
          refine Step.load (t := 3) (x := (.tmp 102)) (g := g1669) (off := 2) (i := 4) (v := (.int .i64 x1660.2.2.1)) (d := (some 103)) (k := 4) K rfl K hs1928 rfl K ?_
          exact ⟨rfl, _, updO_known hkn, rfl⟩
        ·refine Owe.heavy K [(0, 1)] K (all_cons ⟨K, K, ?_⟩ all_nil)
         ·rintro ρ' w' hs hah ⟨hvl1931, hs1930⟩
          have hkn : Known ρ' [(99, (pt g78 0)), (101, (.string ⟨List.toArray x1660.2.1⟩)), (103, (.int .i64 x1660.2.2.1))] := ⟨hah 0 99 K, hah 2 101 K, hah 4 103 K, trivial⟩
          refine Step.known _ hkn ?_
          refine Step.callF (f := 20) (fo := (.func 20)) (xs := #[(.tmp 99), (.tmp 101), (.tmp 103)]) (tys := #[29, 9, 3]) (first := #[]) (captured := #[]) (d := (some 104)) (k := 5) K rfl K K Tryd.call20 (L_gate_Gate_Used_walk g78 A6 c7 F79 d9 v1881 x1660.2.1 x1660.2.2.1 w' (SP.sub hs1930 [0] rfl rfl) (fun w hm => Dp.mono _ (SP.below_of hs1930 (l := [0]) rfl hm) hr8) z1894 hz1895) ?_
          rintro e w1932 ⟨rfl, hs1933⟩
          refine ⟨_, rfl, ?_⟩
          have hs1935 : SP [] w0 w1932 [rowT 3 (eInt .i64) A1886 c1887 v1888, rowT 3 (eInt .i64) A1889 c1890 v1891, boxE g97 66 #[(.int .i64 v1882), (.int .i64 v1883), (.int .i64 v1884), (.int .i64 v1885), (.slice A6 (List.length (List.map stT d9)) c7), (.slice A1886 (List.length v1888) c1887), (.slice A1889 (List.length v1891) c1890)], boxE g1669 35 #[(.int .i64 x1660.1), (.string ⟨List.toArray x1660.2.1⟩), (.int .i64 x1660.2.2.1), (.int .u32 x1660.2.2.2)], gateE g78 F79 d9 v1881] := SP.callS hs1930 [0] [1, 2, 3, 4] rfl rfl hs1933 rfl
          clear hs1933
          refine ⟨_, updO_known hkn, rfl, ?_⟩
          exact (And.intro (And.intro rfl (trivial)) (hs1935))
        ·exact Owe.run K [(7, (pt g97 0))] ⟨gS K K, trivial⟩ (pt g97 0) (fun _ _ => K) rfl
        ·exact Owe.run K [(9, (pt g1669 0))] ⟨gS K K, trivial⟩ (pt g1669 1) (fun _ _ => K) rfl
        ·refine Owe.light K [0, 1] K (all_cons ?_ (all_cons ?_ all_nil))
         ·rintro ρ' w' hs hah ⟨hvl1937, hs1936⟩
          have hkn : Known ρ' [(106, (pt g1669 1))] := ⟨hah 7 106 K, trivial⟩
          refine Step.known _ hkn ?_
          refine Step.load (t := 9) (x := (.tmp 106)) (g := g1669) (off := 1) (i := 4) (v := (.string ⟨List.toArray x1660.2.1⟩)) (d := (some 107)) (k := 8) K rfl K hs1936 rfl K ?_
          exact ⟨rfl, _, updO_known hkn, rfl⟩
         ·rintro ρ' w' hs hah ⟨⟨q1939, -⟩, hs1938⟩
          have hkn : Known ρ' [(106, (pt g1669 1))] := ⟨hah 7 106 K, trivial⟩
          refine Step.known _ hkn ?_
          refine Step.load (t := 9) (x := (.tmp 106)) (g := g1669) (off := 1) (i := 3) (v := (.string ⟨List.toArray x1660.2.1⟩)) (d := (some 107)) (k := 8) K rfl K hs1938 rfl K ?_
          exact ⟨rfl, _, updO_known hkn, rfl⟩
        ·exact Owe.run K [(9, (pt g1669 0))] ⟨gS K K, trivial⟩ (pt g1669 2) (fun _ _ => K) rfl
        ·refine Owe.light K [0, 1] K (all_cons ?_ (all_cons ?_ all_nil))
         ·rintro ρ' w' hs hah ⟨hvl1942, hs1941⟩
          have hkn : Known ρ' [(108, (pt g1669 2))] := ⟨hah 9 108 K, trivial⟩
          refine Step.known _ hkn ?_
          refine Step.load (t := 3) (x := (.tmp 108)) (g := g1669) (off := 2) (i := 4) (v := (.int .i64 x1660.2.2.1)) (d := (some 109)) (k := 10) K rfl K hs1941 rfl K ?_
          exact ⟨rfl, _, updO_known hkn, rfl⟩
         ·rintro ρ' w' hs hah ⟨⟨q1944, -⟩, hs1943⟩
          have hkn : Known ρ' [(108, (pt g1669 2))] := ⟨hah 9 108 K, trivial⟩
          refine Step.known _ hkn ?_
          refine Step.load (t := 3) (x := (.tmp 108)) (g := g1669) (off := 2) (i := 3) (v := (.int .i64 x1660.2.2.1)) (d := (some 109)) (k := 10) K rfl K hs1943 rfl K ?_
          exact ⟨rfl, _, updO_known hkn, rfl⟩
        ·refine Owe.heavy K [(1, 2)] K (all_cons ⟨K, K, ?_⟩ all_nil)
         ·rintro ρ' w' hs hah ⟨⟨q1947, -⟩, hs1946⟩
          have hkn : Known ρ' [(105, (pt g97 0)), (107, (.string ⟨List.toArray x1660.2.1⟩)), (109, (.int .i64 x1660.2.2.1))] := ⟨hah 6 105 K, hah 8 107 K, hah 10 109 K, trivial⟩
          refine Step.known _ hkn ?_
          refine Step.callF (f := 21) (fo := (.func 21)) (xs := #[(.tmp 105), (.tmp 107), (.tmp 109)]) (tys := #[31, 9, 3]) (first := #[]) (captured := #[]) (d := (some 110)) (k := 11) K rfl K K Tryd.call21 (L_subwayref11_Gate_Used_walk g97 A6 c7 A1886 c1887 A1889 c1890 v1882 v1883 v1884 v1885 d9 v1888 v1891 x1660.2.1 x1660.2.2.1 w' (SP.sub hs1946 [2, 0, 1] rfl rfl) (fun w hm => Dp.mono _ (SP.below_of hs1946 (l := [2, 0, 1]) rfl hm) hr8) z1900 hz1901) ?_
          rintro e w1949 ⟨A1951, c1952, A1953, c1954, rfl, hs1950⟩
          refine ⟨_, rfl, ?_⟩
          have hs1956 : SP [] w0 w1949 [boxE g1669 35 #[(.int .i64 x1660.1), (.string ⟨List.toArray x1660.2.1⟩), (.int .i64 x1660.2.2.1), (.int .u32 x1660.2.2.2)], gateE g78 F79 d9 v1881, boxE g97 66 #[(.int .i64 v1882), (.int .i64 v1883), (.int .i64 v1884), (.int .i64 v1885), (.slice A6 (List.length (List.map stT d9)) c7), (.slice A1951 (List.length v1888) c1952), (.slice A1953 (List.length v1891) c1954)], rowT 3 (eInt .i64) A1951 c1952 v1888, rowT 3 (eInt .i64) A1953 c1954 v1891] := SP.callS hs1946 [2, 0, 1] [3, 4] rfl rfl hs1950 rfl
          clear hs1950
          refine ⟨_, updO_known hkn, rfl, ?_⟩
          exact (Exists.intro A1951 (Exists.intro c1952 (Exists.intro A1953 (Exists.intro c1954 (And.intro (And.intro q1947 (And.intro rfl (trivial))) (hs1956))))))
        ·exact Owe.run K [(104, (.int .i64 z1894)), (110, (.int .i64 z1900))] ⟨gA 5 K K, gA 11 K K, trivial⟩ (.bool (z1894 != z1900)) (fun _ _ => K) rfl
        ·rintro ρ' w' hs hf ⟨A1920, c1921, A1922, c1923, ⟨q1958, q1959, -⟩, hs1957⟩
         refine postKnown [(1, (.slice A11 (List.length p10) c12)), (5, (.bool z18)), (6, (pt g78 0)), (7, (pt g97 0)), (8, (.int .i64 v1149)), (111, (.bool (z1894 != z1900)))] ⟨(hs 1 K).trans K, (hs 5 K).trans K, (hs 6 K).trans K, (hs 7 K).trans K, (hs 8 K).trans K, hf 12 111 K, trivial⟩ ?_
         obtain ⟨w1961, hww1961⟩ : ∃ x, w' = x := ⟨_, rfl⟩
         rw [hww1961] at hs1957 ⊢
         refine At.cd K (o := (.tmp 111)) K (b := (z1894 != z1900)) K (fun hb1962 => ?_) (fun hb1962 => ?_)
         ·have H := ct H hb1962
          refine At.sq K ?_
          refine At.region K K ?_
          refine In.run' 1 (k' := 1) rfl [(4, (.bool false))] K ?_
          refine In.fin K ?_
          refine At.ret K ?_
          refine ⟨(.bool false), K, ?_⟩
          obtain rfl := some_elim H
          exact ⟨rfl, SP.sel hs1957 [] rfl rfl⟩
         ·have H := cf H hb1962
          refine At.skip K ?_
          refine At.region K K ?_
          refine In.run' 3 (k' := 3) rfl [(44, (.int .i64 v1149)), (45, (.int .i64 (IntKind.wrap .i64 (v1149 + 1)))), (8, (.int .i64 (IntKind.wrap .i64 (v1149 + 1))))] K ?_
          refine In.fin K ?_
          exact ⟨v1881, v1882, v1883, v1884, v1885, v1888, v1891, (IntKind.wrap .i64 (v1149 + 1)), A1920, c1921, A1922, c1923, ⟨K, K, K, K, K, trivial⟩, SP.sel hs1957 [1, 3, 4, 2] rfl rfl, H⟩
      ·have H := cf H hb1659
       refine At.exit K (id := 0) K ?_
       refine At.sq K ?_
       refine At.region K K ?_
       refine In.run' 2 (k' := 2) rfl [(112, (.bool z18)), (4, (.bool z18))] K ?_
       refine In.fin K ?_
       refine At.ret K ?_
       refine ⟨(.bool z18), K, ?_⟩
       obtain rfl := some_elim H
       exact ⟨rfl, SP.sel hs1137 [] rfl rfl⟩
     ·exact ⟨o43, o84.1, o84.2.1, o84.2.2.1, o84.2.2.2.1, o84.2.2.2.2.1, o84.2.2.2.2.2, 0, A98, c99, A100, c101, ⟨K, K, K, K, K, trivial⟩, SP.sel hs103 [1, 3, 4, 2] rfl rfl, H⟩
end Go.Proofs.YtfffjaijflbeaaaDoor
