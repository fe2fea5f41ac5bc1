/- LIFTED BY PROGRAM (tools/lift.py): what functions compute, and that they do. -/
import Derived.Test.YtfffjaijflbeaaaDoorGateE
import Derived.Test.YtfffjaijflbeaaaDoorLCF
namespace Go.Proofs.YtfffjaijflbeaaaDoor
set_option linter.unusedSimpArgs false
set_option linter.unusedVariables false
open Go.RowKit

/-! L_gate_counted -/
def L_gate_counted_k1 (v3 : Bool) : Option (Bool) :=
  (some (v3))
def L_gate_counted (p1 : Int) : Option (Bool) :=
  (cond (p1 == 1) (L_gate_counted_k1 true) (L_gate_counted_k1 (p1 == 2)))
set_option maxRecDepth 100000 in
set_option maxHeartbeats 4000000 in
theorem L_gate_counted_walk  (p1 : Int) (w0 : World)  (r : (Bool)) (H : L_gate_counted p1 = some r) :
  Calls Tryd.prog 30 #[(.int .i64 p1)] w0 (fun e w' => e = .returned (.bool r) ∧ SP [] w0 w' []) := by
 unfold L_gate_counted at H
 refine calls_go (n := 9) Tryd.func30 K K K ?_
 have hs0 := SP.start [] w0
 refine At.sq K ?_
 refine At.region K K ?_
 refine In.run' 1 (k' := 1) rfl [(2, (.bool false))] K ?_
 refine In.fin K ?_
 refine At.sq K ?_
 refine At.join (fun ρ w => ∃ (v3 : Bool), Known ρ [(2, (.bool v3))] ∧ SP [] w0 w [] ∧ L_gate_counted_k1 v3 = some r) ?_ ?_
 ·refine At.region K K ?_
  refine In.run' 3 (k' := 3) rfl [(3, (.int .i64 p1)), (4, (.bool (p1 == 1))), (5, (.bool (p1 == 1)))] K ?_
  refine In.guard (t := 5) (b := (p1 == 1)) K (fun hb6 => ?_) (fun hb6 => ?_)
  ·have H := ct H hb6
   refine In.run' 4 (k' := 7) rfl [(6, undef), (7, undef), (8, (.bool true)), (2, (.bool true))] K ?_
   refine In.fin K ?_
   exact ⟨true, ⟨K, trivial⟩, SP.sel hs0 [] rfl rfl, H⟩
  ·have H := cf H hb6
   refine In.run' 4 (k' := 7) rfl [(6, (.int .i64 p1)), (7, (.bool (p1 == 2))), (8, (.bool (p1 == 2))), (2, (.bool (p1 == 2)))] K ?_
   refine In.fin K ?_
   exact ⟨(p1 == 2), ⟨K, trivial⟩, SP.sel hs0 [] rfl rfl, H⟩
 ·rintro ρ w4 ⟨v3, hk, hs5, H⟩
  unfold L_gate_counted_k1 at H
  first | refine At.known [(2, (.bool v3))] hk ?_ | rw [← known_updL (l := [(2, (.bool v3))]) hk]
  refine At.ret K ?_
  refine ⟨(.bool v3), K, ?_⟩
  obtain rfl := some_elim H
  exact ⟨rfl, SP.sel hs5 [] rfl rfl⟩
/-! L_gate_Gate_Used -/
def L_gate_Gate_Used (q2 : (List TenantL)) (q7 : (List (List Int))) (p9 : (List UInt8)) (p10 : Int) : Option (Int) :=
  (optE (gfind q2 p9) (some (0)) (fun z44 => ((L_gate_counted p10).bind fun z52 => (cond (!z52) (some (0)) ((idx (gU q7 z44) p10).bind fun x59 => (some (x59)))))))
set_option maxRecDepth 100000 in
set_option maxHeartbeats 4000000 in
theorem L_gate_Gate_Used_walk {S : List Nat} (g1 : Nat) (A3 : Option Addr) (c4 : Nat) (F8 : Nat × List Nat) (d6 : (List TenantD)) (q7 : (List (List Int))) (p9 : (List UInt8)) (p10 : Int) (w0 : World) (hO : SP S w0 w0 [gateE g1 F8 d6 q7]) (hr5 : ∀ w, Mod S w0 w → (dDS eTen dTen).ok w (A3, c4, d6)) (r : (Int)) (H : L_gate_Gate_Used (List.map stT d6) q7 p9 p10 = some r) :
  Calls Tryd.prog 20 #[(pt g1 0), (.string ⟨List.toArray p9⟩), (.int .i64 p10)] w0 (fun e w' => e = .returned (.int .i64 r) ∧ SP S w0 w' [gateE g1 F8 d6 q7]) := by
 unfold L_gate_Gate_Used at H
 refine calls_go (n := 31) Tryd.func20 K K K ?_
 have hs0 := hO
 refine At.sq K ?_
 refine At.region K K ?_
 refine In.run' 1 (k' := 1) rfl [(6, (.int .i64 0))] K ?_
 refine In.fin K ?_
 refine At.sq K ?_
 refine At.region K K ?_
 refine In.run' 3 (k' := 3) rfl [(10, (pt g1 0)), (11, (pt g1 0)), (12, (pt g1 0))] K ?_
 refine In.step (k' := 4) rfl K ?_
 refine Step.gmap (t := 57) (x := (.tmp 12)) (g := g1) (F := F8) (dst := (some 13)) (k := 3) K rfl K K (SP.get hs0 (i := 0) rfl) ?_
 refine In.run' 1 (k' := 5) rfl [(14, (.string ⟨List.toArray p9⟩))] K ?_
 rcases hz38 : gfind (List.map stT d6) p9 with _ | o37
 ·rw [hz38] at H
  have H := optN H
  refine In.step (k' := 6) rfl K ?_
  refine Step.ggetN (T := 57) (kt := 9) (et := 60) (x := (.tmp 13)) (ix := (.tmp 14)) (F := F8) (nm := p9) (dst := (some 15)) (k := 5) K rfl K K K K (fun _ => rfl) (SP.get hs0 (i := 0) rfl) hz38 ?_
  refine In.run' 5 (k' := 11) rfl [(9, (.tuple #[(.pointer none), (.bool false)])), (16, (.pointer none)), (17, (.bool false)), (7, (.pointer none)), (8, (.bool false))] K ?_
  refine In.fin K ?_
  refine At.sq K ?_
  refine At.sq K ?_
  refine At.region K K ?_
  refine In.run' 7 (k' := 7) rfl [(18, (.bool false)), (19, (.bool true)), (20, (.bool true)), (21, undef), (22, undef), (23, undef), (24, (.bool true))] K ?_
  refine In.fin K ?_
  refine At.cd K (o := (.tmp 24)) K (b := true) K (fun hb45 => ?_) (fun hb45 => ?_)
  rotate_left
  ·cases hb45
  refine At.sq K ?_
  refine At.region K K ?_
  refine In.run' 1 (k' := 1) rfl [(6, (.int .i64 0))] K ?_
  refine In.fin K ?_
  refine At.ret K ?_
  refine ⟨(.int .i64 0), K, ?_⟩
  obtain rfl := some_elim H
  exact ⟨rfl, SP.sel hs0 [0] rfl rfl⟩
 ·rw [hz38] at H
  have H := optS H
  obtain ⟨k39, y40, b41, rfl, hy42, hb43⟩ := gfind_some (SP.get hs0 (i := 0) rfl) hz38
  refine In.step (k' := 6) rfl K ?_
  refine Step.ggetS (T := 57) (kt := 9) (et := 60) (x := (.tmp 13)) (ix := (.tmp 14)) (F := F8) (nm := p9) (dst := (some 15)) (k := 5) (kk := k39) (b := b41) (y := y40) K rfl K K K K (fun _ => rfl) (SP.get hs0 (i := 0) rfl) hz38 hb43 ?_
  refine In.run' 5 (k' := 11) rfl [(9, (.tuple #[(pt b41 0), (.bool true)])), (16, (pt b41 0)), (17, (.bool true)), (7, (pt b41 0)), (8, (.bool true))] K ?_
  refine In.fin K ?_
  refine At.sq K ?_
  refine At.sq K ?_
  refine At.region K K ?_
  refine In.run' 4 (k' := 4) rfl [(18, (.bool true)), (19, (.bool false)), (20, (.bool false)), (21, (.int .i64 p10))] K ?_
  obtain ⟨z52, hz53, H⟩ := bind_elim H
  refine In.step (k' := 5) rfl K ?_
  refine Step.callF (f := 30) (fo := (.func 30)) (xs := #[(.tmp 21)]) (tys := #[3]) (first := #[]) (captured := #[]) (d := (some 22)) (k := 4) K rfl K K Tryd.call30 (L_gate_counted_walk  p10 w0  z52 hz53) ?_
  rintro e w54 ⟨rfl, hs55⟩
  refine ⟨_, rfl, ?_⟩
  have hs57 : SP S w0 w54 [gateE g1 F8 d6 q7] := SP.call hs0 hs55
  clear hs55
  refine In.run' 2 (k' := 7) rfl [(23, (.bool (!z52))), (24, (.bool (!z52)))] K ?_
  refine In.fin K ?_
  refine At.cd K (o := (.tmp 24)) K (b := (!z52)) K (fun hb58 => ?_) (fun hb58 => ?_)
  ·have H := ct H hb58
   refine At.sq K ?_
   refine At.region K K ?_
   refine In.run' 1 (k' := 1) rfl [(6, (.int .i64 0))] K ?_
   refine In.fin K ?_
   refine At.ret K ?_
   refine ⟨(.int .i64 0), K, ?_⟩
   obtain rfl := some_elim H
   exact ⟨rfl, SP.sel hs57 [0] rfl rfl⟩
  ·have H := cf H hb58
   refine At.skip K ?_
   refine At.sq K ?_
   refine At.region K K ?_
   refine In.run' 4 (k' := 4) rfl [(25, (pt b41 0)), (26, (.int .i64 p10)), (27, (pt b41 0)), (28, (pt b41 5))] K ?_
   obtain ⟨x59, hp60, hq61, hx62, H⟩ := idx_elim H
   rw [gU_len (SP.get hs57 (i := 0) rfl) hy42] at hq61
   refine In.step (k' := 5) rfl K ?_
   refine Step.gelem (T := 61) (E := 3) (x := (.tmp 28)) (ix := (.tmp 26)) (ki := .i64) (iz := p10) (b := b41) (off := 5) (dst := (some 29)) (k := 4) K rfl K K K K hp60 hq61 ?_
   refine In.step (k' := 6) rfl K ?_
   refine Step.cell (t := 3) (x := (.tmp 29)) (b := b41) (off := (5 + Int.toNat p10 * 1)) (v := (.int .i64 x59)) (d := (some 30)) (k := 5) K rfl K K (g_used (SP.get hs57 (i := 0) rfl) hy42 hb43 hx62) ?_
   refine In.run' 1 (k' := 7) rfl [(6, (.int .i64 x59))] K ?_
   refine In.fin K ?_
   refine At.ret K ?_
   refine ⟨(.int .i64 x59), K, ?_⟩
   obtain rfl := some_elim H
   exact ⟨rfl, SP.sel hs57 [0] rfl rfl⟩
/-! L_gate_Gate_Give -/
def L_gate_Gate_Give (q2 : (List TenantL)) (q7 : (List (List Int))) (p9 : (List UInt8)) (p10 : Int) : Option (Bool × (List (List Int))) :=
  ((L_gate_Gate_Used q2 q7 p9 p10).bind fun z60 => (cond (z60 == 0) (some (false, q7)) ((gfind q2 p9).bind fun z74 => ((idx (gU q7 z74) p10).bind fun x75 => ((idx (gU q7 z74) p10).bind fun x79 => ((some (gset q7 z74 p10 (IntKind.wrap .i64 (x75 - 1)))).bind fun l83 => (some (true, l83))))))))
set_option maxRecDepth 100000 in
set_option maxHeartbeats 4000000 in
theorem L_gate_Gate_Give_walk {S : List Nat} (g1 : Nat) (A3 : Option Addr) (c4 : Nat) (F8 : Nat × List Nat) (d6 : (List TenantD)) (q7 : (List (List Int))) (p9 : (List UInt8)) (p10 : Int) (w0 : World) (hO : SP S w0 w0 [gateE g1 F8 d6 q7]) (hr5 : ∀ w, Mod S w0 w → (dDS eTen dTen).ok w (A3, c4, d6)) (r : (Bool × (List (List Int)))) (H : L_gate_Gate_Give (List.map stT d6) q7 p9 p10 = some r) :
  Calls Tryd.prog 14 #[(pt g1 0), (.string ⟨List.toArray p9⟩), (.int .i64 p10)] w0 (fun e w' => e = .returned (.bool r.1) ∧ SP S w0 w' [gateE g1 F8 d6 r.2]) := by
 unfold L_gate_Gate_Give at H
 refine calls_go (n := 27) Tryd.func14 K K K ?_
 have hs0 := hO
 refine At.sq K ?_
 refine At.region K K ?_
 refine In.run' 1 (k' := 1) rfl [(6, (.bool false))] K ?_
 refine In.fin K ?_
 refine At.sq K ?_
 refine At.sq K ?_
 refine At.region K K ?_
 refine In.run' 3 (k' := 3) rfl [(7, (pt g1 0)), (8, (.string ⟨List.toArray p9⟩)), (9, (.int .i64 p10))] K ?_
 obtain ⟨z60, hz61, H⟩ := bind_elim H
 refine In.step (k' := 4) rfl K ?_
 refine Step.callF (f := 20) (fo := (.func 20)) (xs := #[(.tmp 7), (.tmp 8), (.tmp 9)]) (tys := #[29, 9, 3]) (first := #[]) (captured := #[]) (d := (some 10)) (k := 3) K rfl K K Tryd.call20 (L_gate_Gate_Used_walk g1 A3 c4 F8 d6 q7 p9 p10 w0 (SP.sub hs0 [0] rfl rfl) (fun w hm => hr5 w (SP.through hs0 (l := [0]) rfl hm)) z60 hz61) ?_
 rintro e w62 ⟨rfl, hs63⟩
 refine ⟨_, rfl, ?_⟩
 have hs65 : SP S w0 w62 [gateE g1 F8 d6 q7] := SP.callS hs0 [0] [] rfl rfl hs63 rfl
 clear hs63
 refine In.run' 1 (k' := 5) rfl [(11, (.bool (z60 == 0)))] K ?_
 refine In.fin K ?_
 refine At.cd K (o := (.tmp 11)) K (b := (z60 == 0)) K (fun hb66 => ?_) (fun hb66 => ?_)
 ·have H := ct H hb66
  refine At.sq K ?_
  refine At.region K K ?_
  refine In.run' 1 (k' := 1) rfl [(6, (.bool false))] K ?_
  refine In.fin K ?_
  refine At.ret K ?_
  refine ⟨(.bool false), K, ?_⟩
  obtain rfl := some_elim H
  exact ⟨rfl, SP.sel hs65 [0] rfl rfl⟩
 ·have H := cf H hb66
  refine At.skip K ?_
  refine At.sq K ?_
  obtain ⟨o67, hz68, H⟩ := bind_elim H
  obtain ⟨k69, y70, b71, rfl, hy72, hb73⟩ := gfind_some (SP.get hs65 (i := 0) rfl) hz68
  obtain ⟨x75, hp76, hq77, hx78, H⟩ := idx_elim H
  rw [gU_len (SP.get hs65 (i := 0) rfl) hy72] at hq77
  obtain ⟨x79, hp80, hq81, hx82, H⟩ := idx_elim H
  rw [gU_len (SP.get hs65 (i := 0) rfl) hy72] at hq81
  obtain ⟨l83, hyl83, H⟩ := some_bind_ex H
  refine At.stages K K K K K [GEq (pt g1 0), GEq (pt g1 0), GEq (pt g1 0), GEq (.map (some F8.1)), GEq (.string ⟨List.toArray p9⟩), GEq (pt b71 0), GEq (.int .i64 p10), GEq (pt b71 0), GEq (pt b71 5), GEq (.pointer (some ⟨b71, 5 + Int.toNat p10 * 1, none⟩)), GEq (.int .i64 x75), GEq (.int .i64 (IntKind.wrap .i64 (x75 - 1))), GEq (pt b71 0), GEq (pt b71 5), GEq (.pointer (some ⟨b71, 5 + Int.toNat p10 * 1, none⟩)), GAny] [15] [([], fun vs w => VL vs [] ∧ SP S w0 w [gateE g1 F8 d6 q7]), ([15], fun vs w => VL vs [undef] ∧ SP S w0 w [gateE g1 F8 d6 l83])] (N := 16) K ⟨K, Nat.zero_lt_succ _⟩ (show VL [] [] ∧ SP S w0 w62.drew [gateE g1 F8 d6 q7] from ⟨trivial, SP.drew hs65⟩) ⟨⟨⟨⟨⟨⟨⟨⟨⟨⟨⟨⟨⟨⟨⟨⟨trivial, ?_⟩, ?_⟩, ?_⟩, ?_⟩, ?_⟩, ?_⟩, ?_⟩, ?_⟩, ?_⟩, ?_⟩, ?_⟩, ?_⟩, ?_⟩, ?_⟩, ?_⟩, ?_⟩ (last := 1) K ?_
  ·exact Owe.run K [(0, (pt g1 0))] ⟨gS K K, trivial⟩ (pt g1 0) (fun _ _ => K) rfl
  ·exact Owe.run K [(12, (pt g1 0))] ⟨gA 0 K K, trivial⟩ (pt g1 0) (fun _ _ => K) rfl
  ·exact Owe.run K [(13, (pt g1 0))] ⟨gA 1 K K, trivial⟩ (pt g1 0) (fun _ _ => K) rfl
  ·refine Owe.light K [0] K (all_cons ?_ all_nil)
   ·rintro ρ' w' hs hah ⟨hvl91, hs90⟩
    have hkn : Known ρ' [(14, (pt g1 0))] := ⟨hah 2 14 K, trivial⟩
    refine Step.known _ hkn ?_
    refine Step.gmap (t := 57) (x := (.tmp 14)) (g := g1) (F := F8) (dst := (some 15)) (k := 3) K rfl K K (SP.get hs90 (i := 0) rfl) ?_
    exact ⟨rfl, _, updO_known hkn, rfl⟩
  ·exact Owe.run K [(1, (.string ⟨List.toArray p9⟩))] ⟨gS K K, trivial⟩ (.string ⟨List.toArray p9⟩) (fun _ _ => K) rfl
  ·refine Owe.light K [0] K (all_cons ?_ all_nil)
   ·rintro ρ' w' hs hah ⟨hvl93, hs92⟩
    have hkn : Known ρ' [(15, (.map (some F8.1))), (16, (.string ⟨List.toArray p9⟩))] := ⟨hah 3 15 K, hah 4 16 K, trivial⟩
    refine Step.known _ hkn ?_
    refine Step.gget (T := 57) (kt := 9) (et := 60) (x := (.tmp 15)) (ix := (.tmp 16)) (F := F8) (nm := p9) (dst := (some 17)) (k := 5) (kk := k69) (b := b71) (y := y70) K rfl K K K K (fun _ => rfl) (SP.get hs92 (i := 0) rfl) hz68 hb73 ?_
    exact ⟨rfl, _, updO_known hkn, rfl⟩
  ·exact Owe.run K [(2, (.int .i64 p10))] ⟨gS K K, trivial⟩ (.int .i64 p10) (fun _ _ => K) rfl
  ·exact Owe.run K [(17, (pt b71 0))] ⟨gA 5 K K, trivial⟩ (pt b71 0) (fun _ _ => K) rfl
  ·exact Owe.run K [(19, (pt b71 0))] ⟨gA 7 K K, trivial⟩ (pt b71 5) (fun _ _ => K) rfl
  ·refine Owe.light K [0] K (all_cons ?_ all_nil)
   ·rintro ρ' w' hs hah ⟨hvl95, hs94⟩
    have hkn : Known ρ' [(20, (pt b71 5)), (18, (.int .i64 p10))] := ⟨hah 8 20 K, hah 6 18 K, trivial⟩
    refine Step.known _ hkn ?_
    refine Step.gelem (T := 61) (E := 3) (x := (.tmp 20)) (ix := (.tmp 18)) (ki := .i64) (iz := p10) (b := b71) (off := 5) (dst := (some 21)) (k := 9) K rfl K K K K hp76 hq77 ?_
    exact ⟨rfl, _, updO_known hkn, rfl⟩
  ·refine Owe.light K [0] K (all_cons ?_ all_nil)
   ·rintro ρ' w' hs hah ⟨hvl97, hs96⟩
    have hkn : Known ρ' [(21, (.pointer (some ⟨b71, 5 + Int.toNat p10 * 1, none⟩)))] := ⟨hah 9 21 K, trivial⟩
    refine Step.known _ hkn ?_
    refine Step.cell (t := 3) (x := (.tmp 21)) (b := b71) (off := (5 + Int.toNat p10 * 1)) (v := (.int .i64 x75)) (d := (some 22)) (k := 10) K rfl K K (g_used (SP.get hs96 (i := 0) rfl) hy72 hb73 hx78) ?_
    exact ⟨rfl, _, updO_known hkn, rfl⟩
  ·exact Owe.run K [(22, (.int .i64 x75))] ⟨gA 10 K K, trivial⟩ (.int .i64 (IntKind.wrap .i64 (x75 - 1))) (fun _ _ => K) rfl
  ·exact Owe.run K [(17, (pt b71 0))] ⟨gA 5 K K, trivial⟩ (pt b71 0) (fun _ _ => K) rfl
  ·exact Owe.run K [(24, (pt b71 0))] ⟨gA 12 K K, trivial⟩ (pt b71 5) (fun _ _ => K) rfl
  ·refine Owe.light K [0] K (all_cons ?_ all_nil)
   ·rintro ρ' w' hs hah ⟨hvl99, hs98⟩
    have hkn : Known ρ' [(25, (pt b71 5)), (18, (.int .i64 p10))] := ⟨hah 13 25 K, hah 6 18 K, trivial⟩
    refine Step.known _ hkn ?_
    refine Step.gelem (T := 61) (E := 3) (x := (.tmp 25)) (ix := (.tmp 18)) (ki := .i64) (iz := p10) (b := b71) (off := 5) (dst := (some 26)) (k := 14) K rfl K K K K hp80 hq81 ?_
    exact ⟨rfl, _, updO_known hkn, rfl⟩
  ·refine Owe.heavy K [(0, 1)] K (all_cons ⟨K, K, ?_⟩ all_nil)
   ·rintro ρ' w' hs hah ⟨hvl101, hs100⟩
    have hkn : Known ρ' [(26, (.pointer (some ⟨b71, 5 + Int.toNat p10 * 1, none⟩))), (23, (.int .i64 (IntKind.wrap .i64 (x75 - 1))))] := ⟨hah 14 26 K, hah 11 23 K, trivial⟩
    refine Step.known _ hkn ?_
    refine Step.gstore (t := 3) (x := (.tmp 26)) (y := (.tmp 23)) (iz := p10) (v := (IntKind.wrap .i64 (x75 - 1))) (i := 0) (kk := k69) (b := b71) (yk := y70) (dst := none) (k := 15) K rfl K K hs100 rfl hy72 hb73 hx82 K ?_
    rw [hyl83]
    intro w102 (hs104 : SP S w0 w102 [gateE g1 F8 d6 l83])
    refine ⟨_, updO_known hkn, trivial, ?_⟩
    exact (And.intro (And.intro rfl (trivial)) (hs104))
  ·rintro ρ' w' hs hf ⟨⟨q106, -⟩, hs105⟩
   refine postKnown [] trivial ?_
   obtain ⟨w108, hww108⟩ : ∃ x, w' = x := ⟨_, rfl⟩
   rw [hww108] at hs105 ⊢
   refine At.sq K ?_
   refine At.region K K ?_
   refine In.run' 1 (k' := 1) rfl [(6, (.bool true))] K ?_
   refine In.fin K ?_
   refine At.ret K ?_
   refine ⟨(.bool true), K, ?_⟩
   obtain rfl := some_elim H
   exact ⟨rfl, SP.sel hs105 [0] rfl rfl⟩
/-! L_gate_Gate_Admit_1 -/
def L_gate_Gate_Admit_1 (pAddr1 : Int) (pBits2 : Int) (c5 : Int) : Option (Bool) :=
  ((L_syntax_In pAddr1 pBits2 c5).bind fun z10 => (some (z10)))
set_option maxRecDepth 100000 in
set_option maxHeartbeats 4000000 in
theorem L_gate_Gate_Admit_1_walk (g3 : Nat) (pAddr1 : Int) (pBits2 : Int) (c5 : Int) (w0 : World) (hg4 : w0.heap[g3]? = some (.cells #[(.int .u32 c5)] 33 (0, 0))) (r : (Bool)) (H : L_gate_Gate_Admit_1 pAddr1 pBits2 c5 = some r) :
  Calls Tryd.prog 27 #[(.agg #[(.int .u32 pAddr1), (.int .i64 pBits2)]), (pt g3 0)] w0 (fun e w' => e = .returned (.bool r) ∧ SP [] w0 w' []) := by
 unfold L_gate_Gate_Admit_1 at H
 refine calls_go (n := 7) Tryd.func27 K K K ?_
 have hs0 := SP.start [] w0
 refine At.sq K ?_
 refine At.region K K ?_
 refine In.step (k' := 1) rfl K ?_
 refine Step.box (t := 51) (x := (.tmp 0)) (v := (.agg #[(.int .u32 pAddr1), (.int .i64 pBits2)])) (d := (some 2)) (k := 0) K rfl K hs0 ?_
 intro g6 w7 (hs9 : SP [] w0 w7 [boxE g6 51 #[(.int .u32 pAddr1), (.int .i64 pBits2)]])
 refine In.run' 1 (k' := 2) rfl [(3, (.bool false))] K ?_
 refine In.fin K ?_
 refine At.sq K ?_
 refine At.region K K ?_
 refine In.step (k' := 1) rfl K ?_
 refine Step.load (t := 51) (x := (.tmp 2)) (g := g6) (off := 0) (i := 0) (v := (.agg #[(.int .u32 pAddr1), (.int .i64 pBits2)])) (d := (some 4)) (k := 0) K rfl K hs9 rfl K ?_
 refine In.step (k' := 2) rfl K ?_
 refine Step.loadB (t := 33) (t' := 33) (x := (.tmp 1)) (g := g3) (off := 0) (cs := #[(.int .u32 c5)]) (v := (.int .u32 c5)) (d := (some 5)) (k := 1) K rfl K (blk_below hg4 (SP.keeps hs9)) K ?_
 obtain ⟨z10, hz11, H⟩ := bind_elim H
 refine In.step (k' := 3) rfl K ?_
 refine Step.callF (f := 28) (fo := (.func 28)) (xs := #[(.tmp 4), (.tmp 5)]) (tys := #[51, 33]) (first := #[]) (captured := #[]) (d := (some 6)) (k := 2) K rfl K K Tryd.call28 (L_syntax_In_walk  pAddr1 pBits2 c5 w7  z10 hz11) ?_
 rintro e w12 ⟨rfl, hs13⟩
 refine ⟨_, rfl, ?_⟩
 have hs15 : SP [] w0 w12 [boxE g6 51 #[(.int .u32 pAddr1), (.int .i64 pBits2)]] := SP.call hs9 hs13
 clear hs13
 refine In.run' 1 (k' := 4) rfl [(3, (.bool z10))] K ?_
 refine In.fin K ?_
 refine At.ret K ?_
 refine ⟨(.bool z10), K, ?_⟩
 obtain rfl := some_elim H
 exact ⟨rfl, SP.sel hs15 [] rfl rfl⟩
/-! L_gate_Gate_Admit -/
def L_gate_Gate_Admit_k1 (v64 : Bool) : Option (Int) :=
  (cond v64 (some (0)) (some (111)))
def L_gate_Gate_Admit (q2 : (List TenantL)) (q7 : (List (List Int))) (p9 : (List UInt8)) (p10 : Int) : Option (Int) :=
  (optE (gfind q2 p9) (some (3)) (fun z54 => (cond (((List.length z54.2.2.2.2.1 : Nat) : Int) == 0) (L_gate_Gate_Admit_k1 (((List.length z54.2.2.2.2.1 : Nat) : Int) == 0)) ((L_slices_ContainsFunc_api_Net_api_Net z54.2.2.2.2.1 (fun y0 y1 => L_gate_Gate_Admit_1 y0 y1 p10)).bind fun z69 => (L_gate_Gate_Admit_k1 z69)))))
set_option maxRecDepth 100000 in
set_option maxHeartbeats 4000000 in
theorem L_gate_Gate_Admit_walk {S : List Nat} (g1 : Nat) (A3 : Option Addr) (c4 : Nat) (F8 : Nat × List Nat) (d6 : (List TenantD)) (q7 : (List (List Int))) (p9 : (List UInt8)) (p10 : Int) (w0 : World) (hO : SP S w0 w0 [gateE g1 F8 d6 q7]) (hr5 : ∀ w, Mod S w0 w → (dDS eTen dTen).ok w (A3, c4, d6)) (r : (Int)) (H : L_gate_Gate_Admit (List.map stT d6) q7 p9 p10 = some r) :
  Calls Tryd.prog 16 #[(pt g1 0), (.string ⟨List.toArray p9⟩), (.int .u32 p10)] w0 (fun e w' => e = .returned (.int .i64 r) ∧ SP S w0 w' [gateE g1 F8 d6 q7]) := by
 unfold L_gate_Gate_Admit at H
 refine calls_go (n := 36) Tryd.func16 K K K ?_
 have hs0 := hO
 refine At.sq K ?_
 refine At.region K K ?_
 refine In.step (k' := 1) rfl K ?_
 refine Step.box (t := 33) (x := (.tmp 2)) (v := (.int .u32 p10)) (d := (some 5)) (k := 0) K rfl K hs0 ?_
 intro g43 w44 (hs46 : SP S w0 w44 [gateE g1 F8 d6 q7, boxE g43 33 #[(.int .u32 p10)]])
 refine In.run' 1 (k' := 2) rfl [(6, (.int .i64 0))] K ?_
 refine In.fin K ?_
 refine At.sq K ?_
 refine At.region K K ?_
 refine In.run' 3 (k' := 3) rfl [(10, (pt g1 0)), (11, (pt g1 0)), (12, (pt g1 0))] K ?_
 refine In.step (k' := 4) rfl K ?_
 refine Step.gmap (t := 57) (x := (.tmp 12)) (g := g1) (F := F8) (dst := (some 13)) (k := 3) K rfl K K (SP.get hs46 (i := 0) rfl) ?_
 refine In.run' 1 (k' := 5) rfl [(14, (.string ⟨List.toArray p9⟩))] K ?_
 rcases hz48 : gfind (List.map stT d6) p9 with _ | o47
 ·rw [hz48] at H
  have H := optN H
  refine In.step (k' := 6) rfl K ?_
  refine Step.ggetN (T := 57) (kt := 9) (et := 60) (x := (.tmp 13)) (ix := (.tmp 14)) (F := F8) (nm := p9) (dst := (some 15)) (k := 5) K rfl K K K K (fun _ => rfl) (SP.get hs46 (i := 0) rfl) hz48 ?_
  refine In.run' 5 (k' := 11) rfl [(9, (.tuple #[(.pointer none), (.bool false)])), (16, (.pointer none)), (17, (.bool false)), (7, (.pointer none)), (8, (.bool false))] K ?_
  refine In.fin K ?_
  refine At.sq K ?_
  refine At.bk K (id := 0) K ?_
  refine At.sq K ?_
  refine At.region K K ?_
  refine In.run' 3 (k' := 3) rfl [(19, (.bool false)), (20, (.bool true)), (18, (.bool true))] K ?_
  refine In.fin K ?_
  refine At.cd K (o := (.tmp 18)) K (b := true) K (fun hb55 => ?_) (fun hb55 => ?_)
  rotate_left
  ·cases hb55
  refine At.sq K ?_
  refine At.region K K ?_
  refine In.run' 1 (k' := 1) rfl [(6, (.int .i64 3))] K ?_
  refine In.fin K ?_
  refine At.ret K ?_
  refine ⟨(.int .i64 3), K, ?_⟩
  obtain rfl := some_elim H
  exact ⟨rfl, SP.sel hs46 [0] rfl rfl⟩
 ·rw [hz48] at H
  have H := optS H
  obtain ⟨k49, y50, b51, rfl, hy52, hb53⟩ := gfind_some (SP.get hs46 (i := 0) rfl) hz48
  refine In.step (k' := 6) rfl K ?_
  refine Step.ggetS (T := 57) (kt := 9) (et := 60) (x := (.tmp 13)) (ix := (.tmp 14)) (F := F8) (nm := p9) (dst := (some 15)) (k := 5) (kk := k49) (b := b51) (y := y50) K rfl K K K K (fun _ => rfl) (SP.get hs46 (i := 0) rfl) hz48 hb53 ?_
  refine In.run' 5 (k' := 11) rfl [(9, (.tuple #[(pt b51 0), (.bool true)])), (16, (pt b51 0)), (17, (.bool true)), (7, (pt b51 0)), (8, (.bool true))] K ?_
  refine In.fin K ?_
  refine At.sq K ?_
  refine At.bk K (id := 0) K ?_
  refine At.sq K ?_
  refine At.region K K ?_
  refine In.run' 3 (k' := 3) rfl [(19, (.bool true)), (20, (.bool false)), (18, (.bool false))] K ?_
  refine In.fin K ?_
  refine At.cd K (o := (.tmp 18)) K (b := false) K (fun hb56 => ?_) (fun hb56 => ?_)
  ·cases hb56
  refine At.sq K ?_
  refine At.sq K ?_
  refine At.region K K ?_
  refine In.run' 4 (k' := 4) rfl [(22, (pt b51 0)), (23, (pt b51 0)), (24, (pt b51 0)), (25, (pt b51 3))] K ?_
  refine In.step (k' := 5) rfl K ?_
  refine Step.cell (t := 42) (x := (.tmp 25)) (b := b51) (off := 3) (v := (.slice y50.2.2.2.1.1 (List.length ((k49, stT y50) : Nat × TenantL).2.2.2.2.1) y50.2.2.2.1.2.1)) (d := (some 26)) (k := 4) K rfl K K (g_ten (SP.get hs46 (i := 0) rfl) hy52 hb53 (j := 3) rfl) ?_
  refine In.run' 3 (k' := 8) rfl [(27, (.int .i64 ((List.length ((k49, stT y50) : Nat × TenantL).2.2.2.2.1 : Nat) : Int))), (28, (.bool (((List.length ((k49, stT y50) : Nat × TenantL).2.2.2.2.1 : Nat) : Int) == 0))), (21, (.bool (((List.length ((k49, stT y50) : Nat × TenantL).2.2.2.2.1 : Nat) : Int) == 0)))] K ?_
  refine In.fin K ?_
  refine At.join (fun ρ w => ∃ (v64 : Bool), Known ρ [(21, (.bool v64))] ∧ SP S w0 w [gateE g1 F8 d6 q7] ∧ L_gate_Gate_Admit_k1 v64 = some r) ?_ ?_
  ·refine At.cd K (o := (.tmp 21)) K (b := (((List.length ((k49, stT y50) : Nat × TenantL).2.2.2.2.1 : Nat) : Int) == 0)) K (fun hb68 => ?_) (fun hb68 => ?_)
   ·have H := ct H hb68
    refine At.skip K ?_
    exact ⟨(((List.length ((k49, stT y50) : Nat × TenantL).2.2.2.2.1 : Nat) : Int) == 0), ⟨K, trivial⟩, SP.sel hs46 [0] rfl rfl, H⟩
   ·have H := cf H hb68
    refine At.region K K ?_
    refine In.run' 4 (k' := 4) rfl [(29, (pt b51 0)), (30, (pt b51 0)), (31, (pt b51 0)), (32, (pt b51 3))] K ?_
    refine In.step (k' := 5) rfl K ?_
    refine Step.cell (t := 42) (x := (.tmp 32)) (b := b51) (off := 3) (v := (.slice y50.2.2.2.1.1 (List.length ((k49, stT y50) : Nat × TenantL).2.2.2.2.1) y50.2.2.2.1.2.1)) (d := (some 33)) (k := 4) K rfl K K (g_ten (SP.get hs46 (i := 0) rfl) hy52 hb53 (j := 3) rfl) ?_
    refine In.run' 1 (k' := 6) rfl [(34, (.func (.func 27) #[] #[(pt g43 0)]))] K ?_
    obtain ⟨z69, hz70, H⟩ := bind_elim H
    refine In.step (k' := 7) rfl K ?_
    refine Step.callF (f := 26) (fo := (.func 26)) (xs := #[(.tmp 33), (.tmp 34)]) (tys := #[42, 71]) (first := #[]) (captured := #[]) (d := (some 35)) (k := 6) K rfl K K Tryd.call26 (L_slices_ContainsFunc_api_Net_api_Net_walk y50.2.2.2.1.1 y50.2.2.2.1.2.1 27 #[(pt g43 0)] ((k49, stT y50) : Nat × TenantL).2.2.2.2.1 (fun y0 y1 => L_gate_Gate_Admit_1 y0 y1 p10) w44 ((fun w hm => (ds_rd ((fun w hm => (dp1 (dp2 (dp2 (dp2 (ds_el (hr5 w hm) hy52)))))) w hm))) w44 (SP.mod hs46)) Tryd.call27 (fun y0 y1 z w  hw  hz => L_gate_Gate_Admit_1_walk g43 y0 y1 p10 w (blk_below (show w44.heap[g43]? = some (.cells #[(.int .u32 p10)] 33 (0, 0)) from SP.get hs46 (i := 1) rfl) hw) z hz) z69 hz70) ?_
    rintro e w71 ⟨rfl, hs72⟩
    refine ⟨_, rfl, ?_⟩
    have hs74 : SP S w0 w71 [gateE g1 F8 d6 q7, boxE g43 33 #[(.int .u32 p10)]] := SP.call hs46 hs72
    clear hs72
    refine In.run' 1 (k' := 8) rfl [(21, (.bool z69))] K ?_
    refine In.fin K ?_
    exact ⟨z69, ⟨K, trivial⟩, SP.sel hs74 [0] rfl rfl, H⟩
  ·rintro ρ w65 ⟨v64, hk, hs66, H⟩
   unfold L_gate_Gate_Admit_k1 at H
   first | refine At.known [(21, (.bool v64))] hk ?_ | rw [← known_updL (l := [(21, (.bool v64))]) hk]
   refine At.cd K (o := (.tmp 21)) K (b := v64) K (fun hb67 => ?_) (fun hb67 => ?_)
   ·have H := ct H hb67
    refine At.sq K ?_
    refine At.region K K ?_
    refine In.run' 1 (k' := 1) rfl [(6, (.int .i64 0))] K ?_
    refine In.fin K ?_
    refine At.ret K ?_
    refine ⟨(.int .i64 0), K, ?_⟩
    obtain rfl := some_elim H
    exact ⟨rfl, SP.sel hs66 [0] rfl rfl⟩
   ·have H := cf H hb67
    refine At.skip K ?_
    refine At.sq K ?_
    refine At.region K K ?_
    refine In.run' 1 (k' := 1) rfl [(6, (.int .i64 111))] K ?_
    refine In.fin K ?_
    refine At.ret K ?_
    refine ⟨(.int .i64 111), K, ?_⟩
    obtain rfl := some_elim H
    exact ⟨rfl, SP.sel hs66 [0] rfl rfl⟩
/-! L_gate_Gate_Take -/
def L_gate_Gate_Take (q2 : (List TenantL)) (q7 : (List (List Int))) (p9 : (List UInt8)) (p10 : Int) : Option (Int × (List (List Int))) :=
  (optE (gfind q2 p9) ((L_gate_counted p10).bind fun z93 => (cond (!z93) (some (1, q7)) (some (3, q7)))) (fun z92 => ((L_gate_counted p10).bind fun z101 => (cond (!z101) (some (1, q7)) ((idx (gU q7 z92) p10).bind fun x109 => ((idx (gM z92) p10).bind fun x113 => (cond (x109 == x113) (some (112, q7)) ((idx (gU q7 z92) p10).bind fun x129 => ((idx (gU q7 z92) p10).bind fun x133 => ((some (gset q7 z92 p10 (IntKind.wrap .i64 (x129 + 1)))).bind fun l137 => (some (0, l137))))))))))))
set_option maxRecDepth 100000 in
set_option maxHeartbeats 4000000 in
theorem L_gate_Gate_Take_walk {S : List Nat} (g1 : Nat) (A3 : Option Addr) (c4 : Nat) (F8 : Nat × List Nat) (d6 : (List TenantD)) (q7 : (List (List Int))) (p9 : (List UInt8)) (p10 : Int) (w0 : World) (hO : SP S w0 w0 [gateE g1 F8 d6 q7]) (hr5 : ∀ w, Mod S w0 w → (dDS eTen dTen).ok w (A3, c4, d6)) (r : (Int × (List (List Int)))) (H : L_gate_Gate_Take (List.map stT d6) q7 p9 p10 = some r) :
  Calls Tryd.prog 18 #[(pt g1 0), (.string ⟨List.toArray p9⟩), (.int .i64 p10)] w0 (fun e w' => e = .returned (.int .i64 r.1) ∧ SP S w0 w' [gateE g1 F8 d6 r.2]) := by
 unfold L_gate_Gate_Take at H
 refine calls_go (n := 49) Tryd.func18 K K K ?_
 have hs0 := hO
 refine At.sq K ?_
 refine At.region K K ?_
 refine In.run' 1 (k' := 1) rfl [(6, (.int .i64 0))] K ?_
 refine In.fin K ?_
 refine At.sq K ?_
 refine At.region K K ?_
 refine In.run' 3 (k' := 3) rfl [(10, (pt g1 0)), (11, (pt g1 0)), (12, (pt g1 0))] K ?_
 refine In.step (k' := 4) rfl K ?_
 refine Step.gmap (t := 57) (x := (.tmp 12)) (g := g1) (F := F8) (dst := (some 13)) (k := 3) K rfl K K (SP.get hs0 (i := 0) rfl) ?_
 refine In.run' 1 (k' := 5) rfl [(14, (.string ⟨List.toArray p9⟩))] K ?_
 rcases hz86 : gfind (List.map stT d6) p9 with _ | o85
 ·rw [hz86] at H
  have H := optN H
  refine In.step (k' := 6) rfl K ?_
  refine Step.ggetN (T := 57) (kt := 9) (et := 60) (x := (.tmp 13)) (ix := (.tmp 14)) (F := F8) (nm := p9) (dst := (some 15)) (k := 5) K rfl K K K K (fun _ => rfl) (SP.get hs0 (i := 0) rfl) hz86 ?_
  refine In.run' 5 (k' := 11) rfl [(9, (.tuple #[(.pointer none), (.bool false)])), (16, (.pointer none)), (17, (.bool false)), (7, (.pointer none)), (8, (.bool false))] K ?_
  refine In.fin K ?_
  refine At.sq K ?_
  refine At.bk K (id := 0) K ?_
  refine At.sq K ?_
  refine At.region K K ?_
  refine In.run' 1 (k' := 1) rfl [(19, (.int .i64 p10))] K ?_
  obtain ⟨z93, hz94, H⟩ := bind_elim H
  refine In.step (k' := 2) rfl K ?_
  refine Step.callF (f := 30) (fo := (.func 30)) (xs := #[(.tmp 19)]) (tys := #[3]) (first := #[]) (captured := #[]) (d := (some 20)) (k := 1) K rfl K K Tryd.call30 (L_gate_counted_walk  p10 w0  z93 hz94) ?_
  rintro e w95 ⟨rfl, hs96⟩
  refine ⟨_, rfl, ?_⟩
  have hs98 : SP S w0 w95 [gateE g1 F8 d6 q7] := SP.call hs0 hs96
  clear hs96
  refine In.run' 2 (k' := 4) rfl [(21, (.bool (!z93))), (18, (.bool (!z93)))] K ?_
  refine In.fin K ?_
  refine At.cd K (o := (.tmp 18)) K (b := (!z93)) K (fun hb99 => ?_) (fun hb99 => ?_)
  ·have H := ct H hb99
   refine At.sq K ?_
   refine At.region K K ?_
   refine In.run' 1 (k' := 1) rfl [(6, (.int .i64 1))] K ?_
   refine In.fin K ?_
   refine At.ret K ?_
   refine ⟨(.int .i64 1), K, ?_⟩
   obtain rfl := some_elim H
   exact ⟨rfl, SP.sel hs98 [0] rfl rfl⟩
  ·have H := cf H hb99
   refine At.sq K ?_
   refine At.region K K ?_
   refine In.run' 3 (k' := 3) rfl [(23, (.bool false)), (24, (.bool true)), (22, (.bool true))] K ?_
   refine In.fin K ?_
   refine At.cd K (o := (.tmp 22)) K (b := true) K (fun hb100 => ?_) (fun hb100 => ?_)
   rotate_left
   ·cases hb100
   refine At.sq K ?_
   refine At.region K K ?_
   refine In.run' 1 (k' := 1) rfl [(6, (.int .i64 3))] K ?_
   refine In.fin K ?_
   refine At.ret K ?_
   refine ⟨(.int .i64 3), K, ?_⟩
   obtain rfl := some_elim H
   exact ⟨rfl, SP.sel hs98 [0] rfl rfl⟩
 ·rw [hz86] at H
  have H := optS H
  obtain ⟨k87, y88, b89, rfl, hy90, hb91⟩ := gfind_some (SP.get hs0 (i := 0) rfl) hz86
  refine In.step (k' := 6) rfl K ?_
  refine Step.ggetS (T := 57) (kt := 9) (et := 60) (x := (.tmp 13)) (ix := (.tmp 14)) (F := F8) (nm := p9) (dst := (some 15)) (k := 5) (kk := k87) (b := b89) (y := y88) K rfl K K K K (fun _ => rfl) (SP.get hs0 (i := 0) rfl) hz86 hb91 ?_
  refine In.run' 5 (k' := 11) rfl [(9, (.tuple #[(pt b89 0), (.bool true)])), (16, (pt b89 0)), (17, (.bool true)), (7, (pt b89 0)), (8, (.bool true))] K ?_
  refine In.fin K ?_
  refine At.sq K ?_
  refine At.bk K (id := 0) K ?_
  refine At.sq K ?_
  refine At.region K K ?_
  refine In.run' 1 (k' := 1) rfl [(19, (.int .i64 p10))] K ?_
  obtain ⟨z101, hz102, H⟩ := bind_elim H
  refine In.step (k' := 2) rfl K ?_
  refine Step.callF (f := 30) (fo := (.func 30)) (xs := #[(.tmp 19)]) (tys := #[3]) (first := #[]) (captured := #[]) (d := (some 20)) (k := 1) K rfl K K Tryd.call30 (L_gate_counted_walk  p10 w0  z101 hz102) ?_
  rintro e w103 ⟨rfl, hs104⟩
  refine ⟨_, rfl, ?_⟩
  have hs106 : SP S w0 w103 [gateE g1 F8 d6 q7] := SP.call hs0 hs104
  clear hs104
  refine In.run' 2 (k' := 4) rfl [(21, (.bool (!z101))), (18, (.bool (!z101)))] K ?_
  refine In.fin K ?_
  refine At.cd K (o := (.tmp 18)) K (b := (!z101)) K (fun hb107 => ?_) (fun hb107 => ?_)
  ·have H := ct H hb107
   refine At.sq K ?_
   refine At.region K K ?_
   refine In.run' 1 (k' := 1) rfl [(6, (.int .i64 1))] K ?_
   refine In.fin K ?_
   refine At.ret K ?_
   refine ⟨(.int .i64 1), K, ?_⟩
   obtain rfl := some_elim H
   exact ⟨rfl, SP.sel hs106 [0] rfl rfl⟩
  ·have H := cf H hb107
   refine At.sq K ?_
   refine At.region K K ?_
   refine In.run' 3 (k' := 3) rfl [(23, (.bool true)), (24, (.bool false)), (22, (.bool false))] K ?_
   refine In.fin K ?_
   refine At.cd K (o := (.tmp 22)) K (b := false) K (fun hb108 => ?_) (fun hb108 => ?_)
   ·cases hb108
   refine At.sq K ?_
   obtain ⟨x109, hp110, hq111, hx112, H⟩ := idx_elim H
   rw [gU_len (SP.get hs106 (i := 0) rfl) hy90] at hq111
   obtain ⟨x113, hp114, hq115, hx116, H⟩ := idx_elim H
   rw [show List.length (gM ((k87, stT y88) : Nat × TenantL)) = 3 from rfl] at hq115
   refine At.stages K K K K K [GEq (pt b89 0), GEq (.int .i64 p10), GEq (pt b89 0), GEq (pt b89 5), GEq (.pointer (some ⟨b89, 5 + Int.toNat p10 * 1, none⟩)), GEq (.int .i64 x109), GEq (pt b89 0), GEq (.int .i64 p10), GEq (pt b89 0), GEq (pt b89 8), GEq (.pointer (some ⟨b89, 8 + Int.toNat p10 * 1, none⟩)), GEq (.int .i64 x113), GEq (.bool (x109 == x113)), GEq (.bool (x109 == x113))] [] [([], fun vs w => VL vs [] ∧ SP S w0 w [gateE g1 F8 d6 q7])] (N := 14) K ⟨K, Nat.zero_lt_succ _⟩ (show VL [] [] ∧ SP S w0 w103.drew [gateE g1 F8 d6 q7] from ⟨trivial, SP.drew hs106⟩) ⟨⟨⟨⟨⟨⟨⟨⟨⟨⟨⟨⟨⟨⟨trivial, ?_⟩, ?_⟩, ?_⟩, ?_⟩, ?_⟩, ?_⟩, ?_⟩, ?_⟩, ?_⟩, ?_⟩, ?_⟩, ?_⟩, ?_⟩, ?_⟩ (last := 0) K ?_
   ·exact Owe.run K [(7, (pt b89 0))] ⟨gS K K, trivial⟩ (pt b89 0) (fun _ _ => K) rfl
   ·exact Owe.run K [(2, (.int .i64 p10))] ⟨gS K K, trivial⟩ (.int .i64 p10) (fun _ _ => K) rfl
   ·exact Owe.run K [(26, (pt b89 0))] ⟨gA 0 K K, trivial⟩ (pt b89 0) (fun _ _ => K) rfl
   ·exact Owe.run K [(28, (pt b89 0))] ⟨gA 2 K K, trivial⟩ (pt b89 5) (fun _ _ => K) rfl
   ·refine Owe.light K [0] K (all_cons ?_ all_nil)
    ·rintro ρ' w' hs hah ⟨hvl118, hs117⟩
     have hkn : Known ρ' [(29, (pt b89 5)), (27, (.int .i64 p10))] := ⟨hah 3 29 K, hah 1 27 K, trivial⟩
     refine Step.known _ hkn ?_
     refine Step.gelem (T := 61) (E := 3) (x := (.tmp 29)) (ix := (.tmp 27)) (ki := .i64) (iz := p10) (b := b89) (off := 5) (dst := (some 30)) (k := 4) K rfl K K K K hp110 hq111 ?_
     exact ⟨rfl, _, updO_known hkn, rfl⟩
   ·refine Owe.light K [0] K (all_cons ?_ all_nil)
    ·rintro ρ' w' hs hah ⟨hvl120, hs119⟩
     have hkn : Known ρ' [(30, (.pointer (some ⟨b89, 5 + Int.toNat p10 * 1, none⟩)))] := ⟨hah 4 30 K, trivial⟩
     refine Step.known _ hkn ?_
     refine Step.cell (t := 3) (x := (.tmp 30)) (b := b89) (off := (5 + Int.toNat p10 * 1)) (v := (.int .i64 x109)) (d := (some 31)) (k := 5) K rfl K K (g_used (SP.get hs119 (i := 0) rfl) hy90 hb91 hx112) ?_
     exact ⟨rfl, _, updO_known hkn, rfl⟩
   ·exact Owe.run K [(7, (pt b89 0))] ⟨gS K K, trivial⟩ (pt b89 0) (fun _ _ => K) rfl
   ·exact Owe.run K [(2, (.int .i64 p10))] ⟨gS K K, trivial⟩ (.int .i64 p10) (fun _ _ => K) rfl
   ·exact Owe.run K [(32, (pt b89 0))] ⟨gA 6 K K, trivial⟩ (pt b89 0) (fun _ _ => K) rfl
   ·exact Owe.run K [(34, (pt b89 0))] ⟨gA 8 K K, trivial⟩ (pt b89 8) (fun _ _ => K) rfl
   ·refine Owe.light K [0] K (all_cons ?_ all_nil)
    ·rintro ρ' w' hs hah ⟨hvl122, hs121⟩
     have hkn : Known ρ' [(35, (pt b89 8)), (33, (.int .i64 p10))] := ⟨hah 9 35 K, hah 7 33 K, trivial⟩
     refine Step.known _ hkn ?_
     refine Step.gelem (T := 61) (E := 3) (x := (.tmp 35)) (ix := (.tmp 33)) (ki := .i64) (iz := p10) (b := b89) (off := 8) (dst := (some 36)) (k := 10) K rfl K K K K hp114 hq115 ?_
     exact ⟨rfl, _, updO_known hkn, rfl⟩
   ·refine Owe.light K [0] K (all_cons ?_ all_nil)
    ·rintro ρ' w' hs hah ⟨hvl124, hs123⟩
     have hkn : Known ρ' [(36, (.pointer (some ⟨b89, 8 + Int.toNat p10 * 1, none⟩)))] := ⟨hah 10 36 K, trivial⟩
     refine Step.known _ hkn ?_
     refine Step.cell (t := 3) (x := (.tmp 36)) (b := b89) (off := (8 + Int.toNat p10 * 1)) (v := (.int .i64 x113)) (d := (some 37)) (k := 11) K rfl K K (g_most (SP.get hs123 (i := 0) rfl) hy90 hb91 hx116) ?_
     exact ⟨rfl, _, updO_known hkn, rfl⟩
   ·exact Owe.run K [(31, (.int .i64 x109)), (37, (.int .i64 x113))] ⟨gA 5 K K, gA 11 K K, trivial⟩ (.bool (x109 == x113)) (fun _ _ => K) rfl
   ·exact Owe.run K [(38, (.bool (x109 == x113)))] ⟨gA 12 K K, trivial⟩ (.bool (x109 == x113)) (fun _ _ => K) rfl
   ·rintro ρ' w' hs hf ⟨hvl126, hs125⟩
    refine postKnown [(2, (.int .i64 p10)), (7, (pt b89 0)), (25, (.bool (x109 == x113)))] ⟨(hs 2 K).trans K, (hs 7 K).trans K, hf 13 25 K, trivial⟩ ?_
    obtain ⟨w127, hww127⟩ : ∃ x, w' = x := ⟨_, rfl⟩
    rw [hww127] at hs125 ⊢
    refine At.cd K (o := (.tmp 25)) K (b := (x109 == x113)) K (fun hb128 => ?_) (fun hb128 => ?_)
    ·have H := ct H hb128
     refine At.sq K ?_
     refine At.region K K ?_
     refine In.run' 1 (k' := 1) rfl [(6, (.int .i64 112))] K ?_
     refine In.fin K ?_
     refine At.ret K ?_
     refine ⟨(.int .i64 112), K, ?_⟩
     obtain rfl := some_elim H
     exact ⟨rfl, SP.sel hs125 [0] rfl rfl⟩
    ·have H := cf H hb128
     refine At.skip K ?_
     refine At.sq K ?_
     obtain ⟨x129, hp130, hq131, hx132, H⟩ := idx_elim H
     rw [gU_len (SP.get hs125 (i := 0) rfl) hy90] at hq131
     obtain ⟨x133, hp134, hq135, hx136, H⟩ := idx_elim H
     rw [gU_len (SP.get hs125 (i := 0) rfl) hy90] at hq135
     obtain ⟨l137, hyl137, H⟩ := some_bind_ex H
     refine At.stages K K K K K [GEq (pt b89 0), GEq (.int .i64 p10), GEq (pt b89 0), GEq (pt b89 5), GEq (.pointer (some ⟨b89, 5 + Int.toNat p10 * 1, none⟩)), GEq (.int .i64 x129), GEq (.int .i64 (IntKind.wrap .i64 (x129 + 1))), GEq (pt b89 0), GEq (pt b89 5), GEq (.pointer (some ⟨b89, 5 + Int.toNat p10 * 1, none⟩)), GAny] [10] [([], fun vs w => VL vs [] ∧ SP S w0 w [gateE g1 F8 d6 q7]), ([10], fun vs w => VL vs [undef] ∧ SP S w0 w [gateE g1 F8 d6 l137])] (N := 11) K ⟨K, Nat.zero_lt_succ _⟩ (show VL [] [] ∧ SP S w0 w127.drew [gateE g1 F8 d6 q7] from ⟨trivial, SP.drew hs125⟩) ⟨⟨⟨⟨⟨⟨⟨⟨⟨⟨⟨trivial, ?_⟩, ?_⟩, ?_⟩, ?_⟩, ?_⟩, ?_⟩, ?_⟩, ?_⟩, ?_⟩, ?_⟩, ?_⟩ (last := 1) K ?_
     ·exact Owe.run K [(7, (pt b89 0))] ⟨gS K K, trivial⟩ (pt b89 0) (fun _ _ => K) rfl
     ·exact Owe.run K [(2, (.int .i64 p10))] ⟨gS K K, trivial⟩ (.int .i64 p10) (fun _ _ => K) rfl
     ·exact Owe.run K [(39, (pt b89 0))] ⟨gA 0 K K, trivial⟩ (pt b89 0) (fun _ _ => K) rfl
     ·exact Owe.run K [(41, (pt b89 0))] ⟨gA 2 K K, trivial⟩ (pt b89 5) (fun _ _ => K) rfl
     ·refine Owe.light K [0] K (all_cons ?_ all_nil)
      ·rintro ρ' w' hs hah ⟨hvl145, hs144⟩
       have hkn : Known ρ' [(42, (pt b89 5)), (40, (.int .i64 p10))] := ⟨hah 3 42 K, hah 1 40 K, trivial⟩
       refine Step.known _ hkn ?_
       refine Step.gelem (T := 61) (E := 3) (x := (.tmp 42)) (ix := (.tmp 40)) (ki := .i64) (iz := p10) (b := b89) (off := 5) (dst := (some 43)) (k := 4) K rfl K K K K hp130 hq131 ?_
       exact ⟨rfl, _, updO_known hkn, rfl⟩
     ·refine Owe.light K [0] K (all_cons ?_ all_nil)
      ·rintro ρ' w' hs hah ⟨hvl147, hs146⟩
       have hkn : Known ρ' [(43, (.pointer (some ⟨b89, 5 + Int.toNat p10 * 1, none⟩)))] := ⟨hah 4 43 K, trivial⟩
       refine Step.known _ hkn ?_
       refine Step.cell (t := 3) (x := (.tmp 43)) (b := b89) (off := (5 + Int.toNat p10 * 1)) (v := (.int .i64 x129)) (d := (some 44)) (k := 5) K rfl K K (g_used (SP.get hs146 (i := 0) rfl) hy90 hb91 hx132) ?_
       exact ⟨rfl, _, updO_known hkn, rfl⟩
     ·exact Owe.run K [(44, (.int .i64 x129))] ⟨gA 5 K K, trivial⟩ (.int .i64 (IntKind.wrap .i64 (x129 + 1))) (fun _ _ => K) rfl
     ·exact Owe.run K [(39, (pt b89 0))] ⟨gA 0 K K, trivial⟩ (pt b89 0) (fun _ _ => K) rfl
     ·exact Owe.run K [(46, (pt b89 0))] ⟨gA 7 K K, trivial⟩ (pt b89 5) (fun _ _ => K) rfl
     ·refine Owe.light K [0] K (all_cons ?_ all_nil)
      ·rintro ρ' w' hs hah ⟨hvl149, hs148⟩
       have hkn : Known ρ' [(47, (pt b89 5)), (40, (.int .i64 p10))] := ⟨hah 8 47 K, hah 1 40 K, trivial⟩
       refine Step.known _ hkn ?_
       refine Step.gelem (T := 61) (E := 3) (x := (.tmp 47)) (ix := (.tmp 40)) (ki := .i64) (iz := p10) (b := b89) (off := 5) (dst := (some 48)) (k := 9) K rfl K K K K hp134 hq135 ?_
       exact ⟨rfl, _, updO_known hkn, rfl⟩
     ·refine Owe.heavy K [(0, 1)] K (all_cons ⟨K, K, ?_⟩ all_nil)
      ·rintro ρ' w' hs hah ⟨hvl151, hs150⟩
       have hkn : Known ρ' [(48, (.pointer (some ⟨b89, 5 + Int.toNat p10 * 1, none⟩))), (45, (.int .i64 (IntKind.wrap .i64 (x129 + 1))))] := ⟨hah 9 48 K, hah 6 45 K, trivial⟩
       refine Step.known _ hkn ?_
       refine Step.gstore (t := 3) (x := (.tmp 48)) (y := (.tmp 45)) (iz := p10) (v := (IntKind.wrap .i64 (x129 + 1))) (i := 0) (kk := k87) (b := b89) (yk := y88) (dst := none) (k := 10) K rfl K K hs150 rfl hy90 hb91 hx136 K ?_
       rw [hyl137]
       intro w152 (hs154 : SP S w0 w152 [gateE g1 F8 d6 l137])
       refine ⟨_, updO_known hkn, trivial, ?_⟩
       exact (And.intro (And.intro rfl (trivial)) (hs154))
     ·rintro ρ' w' hs hf ⟨⟨q156, -⟩, hs155⟩
      refine postKnown [] trivial ?_
      obtain ⟨w158, hww158⟩ : ∃ x, w' = x := ⟨_, rfl⟩
      rw [hww158] at hs155 ⊢
      refine At.sq K ?_
      refine At.region K K ?_
      refine In.run' 1 (k' := 1) rfl [(6, (.int .i64 0))] K ?_
      refine In.fin K ?_
      refine At.ret K ?_
      refine ⟨(.int .i64 0), K, ?_⟩
      obtain rfl := some_elim H
      exact ⟨rfl, SP.sel hs155 [0] rfl rfl⟩
end Go.Proofs.YtfffjaijflbeaaaDoor
