/- LIFTED BY PROGRAM (tools/lift.py): what functions compute, and that they do. -/
import Derived.Test.YtjllaeceghmjgaaDoorLD
namespace Go.Proofs.YtjllaeceghmjgaaDoor
set_option linter.unusedSimpArgs false
set_option linter.unusedVariables false
open Go.RowKit

/-! L_num_Text -/
def L_num_Text (p1 : (List UInt8)) : Option ((List UInt8)) :=
  (cond (decide (((List.length p1 : Nat) : Int) > 255)) (some (([] : List UInt8))) ((app ([(toU8 (IntKind.wrap .u8 ((List.length p1 : Nat) : Int)))] : List UInt8) p1).bind fun l12 => (some (l12))))
set_option maxRecDepth 100000 in
set_option maxHeartbeats 4000000 in
theorem L_num_Text_walk  (p1 : (List UInt8)) (w0 : World)  (r : ((List UInt8))) (H : L_num_Text p1 = some r) :
  Calls Tryd.prog 34 #[(.string ⟨List.toArray p1⟩)] w0 (fun e w' => ∃ (A2 : Option Addr) (c3 : Nat), e = .returned (.slice A2 (List.length r) c3) ∧ SP [] w0 w' [rowT 5 eU8 A2 c3 r]) := by
 unfold L_num_Text at H
 refine calls_go (n := 12) Tryd.func34 K K K ?_
 have hs0 := SP.start [] w0
 refine At.sq K ?_
 refine At.region K K ?_
 refine In.run' 1 (k' := 1) rfl [(2, (.slice none (List.length ([] : List UInt8)) 0))] K ?_
 refine In.fin K ?_
 refine At.sq K ?_
 refine At.sq K ?_
 refine At.region K K ?_
 refine In.run' 3 (k' := 3) rfl [(3, (.string ⟨List.toArray p1⟩)), (4, (.int .i64 ((List.length p1 : Nat) : Int))), (5, (.bool (decide (((List.length p1 : Nat) : Int) > 255))))] K ?_
 refine In.fin K ?_
 refine At.cd K (o := (.tmp 5)) K (b := (decide (((List.length p1 : Nat) : Int) > 255))) K (fun hb4 => ?_) (fun hb4 => ?_)
 ·have H := ct H hb4
  refine At.sq K ?_
  refine At.region K K ?_
  refine In.run' 1 (k' := 1) rfl [(2, (.slice none (List.length ([] : List UInt8)) 0))] K ?_
  refine In.fin K ?_
  refine At.ret K ?_
  have hs6 : SP [] w0 w0 [rowT 5 eU8 none 0 ([] : List UInt8)] := SP.nilrow hs0 5 eU8
  refine ⟨(.slice none (List.length ([] : List UInt8)) 0), K, ?_⟩
  obtain rfl := some_elim H
  exact ⟨none, 0, rfl, SP.sel hs6 [0] rfl rfl⟩
 ·have H := cf H hb4
  refine At.skip K ?_
  refine At.sq K ?_
  refine At.region K K ?_
  refine In.run' 3 (k' := 3) rfl [(6, (.string ⟨List.toArray p1⟩)), (7, (.int .i64 ((List.length p1 : Nat) : Int))), (8, (.int .u8 (IntKind.wrap .u8 ((List.length p1 : Nat) : Int))))] K ?_
  refine In.step (k' := 4) rfl K ?_
  refine Step.newSlice (e := eU8) (T := 50) (E := 5) (len := 1) (parts := #[(0, (.tmp 8))]) (cs := #[(.int .u8 (IntKind.wrap .u8 ((List.length p1 : Nat) : Int)))]) ([(toU8 (IntKind.wrap .u8 ((List.length p1 : Nat) : Int)))] : List UInt8) (d := (some 9)) (k := 3) K rfl (fun _ => K) hs0 (cells_cons8 (Or.inr ⟨rfl, (u8_wrap _)⟩) rfl) rfl rfl rfl ?_
  intro g7 w8 (hs10 : SP [] w0 w8 [rowT 5 eU8 (some ⟨g7, 0, none⟩) (List.length ([(toU8 (IntKind.wrap .u8 ((List.length p1 : Nat) : Int)))] : List UInt8)) ([(toU8 (IntKind.wrap .u8 ((List.length p1 : Nat) : Int)))] : List UInt8)])
  refine In.run' 1 (k' := 5) rfl [(10, (.string ⟨List.toArray p1⟩))] K ?_
  obtain ⟨hl11, H⟩ := app_elim H
  obtain ⟨l12, hyl12⟩ : ∃ y, ([(toU8 (IntKind.wrap .u8 ((List.length p1 : Nat) : Int)))] : List UInt8) ++ p1 = y := ⟨_, rfl⟩
  rw [hyl12] at H
  refine In.step (k' := 6) rfl K ?_
  refine Step.append (e := eU8) (l := ([(toU8 (IntKind.wrap .u8 ((List.length p1 : Nat) : Int)))] : List UInt8)) (m := p1) (A := (some ⟨g7, 0, none⟩)) (c := (List.length ([(toU8 (IntKind.wrap .u8 ((List.length p1 : Nat) : Int)))] : List UInt8))) (T := 50) (TX := 9) (E := 5) (b := 1) (s := (.tmp 9)) (x := (.tmp 10)) (i := 0) (vx := (.string ⟨List.toArray p1⟩)) (d := (some 11)) (k := 5) K rfl K K K K rfl hs10 rfl (src_str K p1) hl11 ?_
  rw [hyl12]
  intro A13 c14 w15 (hs17 : SP [] w0 w15 [rowT 5 eU8 A13 c14 l12])
  refine In.run' 1 (k' := 7) rfl [(2, (.slice A13 (List.length l12) c14))] K ?_
  refine In.fin K ?_
  refine At.ret K ?_
  refine ⟨(.slice A13 (List.length l12) c14), K, ?_⟩
  obtain rfl := some_elim H
  exact ⟨A13, c14, rfl, SP.sel hs17 [0] rfl rfl⟩
/-! L_mac_of -/
def L_mac_of_k1 (v31 : (List UInt8)) : Option ((List UInt8)) :=
  ((some (cpy (List.replicate 64 (0 : UInt8)) 0 (List.length (List.replicate 64 (0 : UInt8))) v31)).bind fun l36 => (some (l36)))
def L_mac_of (p1 : (List UInt8)) : Option ((List UInt8)) :=
  (cond (decide (((List.length p1 : Nat) : Int) > 64)) ((L_digest_Sum p1).bind fun z45 => ((chk (Nat.beq (List.length z45) 32)).bind fun _ => (L_mac_of_k1 z45))) (L_mac_of_k1 p1))
set_option maxRecDepth 100000 in
set_option maxHeartbeats 4000000 in
theorem L_mac_of_walk (A2 : Option Addr) (c3 : Nat) (p1 : (List UInt8)) (w0 : World) (hr4 : RdT eU8 w0 A2 c3 p1) (r : ((List UInt8))) (H : L_mac_of p1 = some r) :
  Calls Tryd.prog 41 #[(.slice A2 (List.length p1) c3)] w0 (fun e w' => e = .returned (.agg (cellsOf eU8 r).toArray) ∧ SP [] w0 w' []) := by
 unfold L_mac_of at H
 refine calls_go (n := 15) Tryd.func41 K K K ?_
 have hs0 := SP.start [] w0
 refine At.sq K ?_
 refine At.region K K ?_
 refine In.step (k' := 1) rfl K ?_
 refine Step.allocA (e := eU8) (l := (List.replicate 64 (0 : UInt8))) (m := 64) (t := 78) (z := .agg (cellsOf eU8 (List.replicate 64 (0 : UInt8))).toArray) (d := (some 2)) (k := 0) K rfl K rfl rfl K hs0 ?_
 intro g5 w6 (hs8 : SP [] w0 w6 [arrE 78 eU8 g5 64 (List.replicate 64 (0 : UInt8))])
 refine In.fin K ?_
 refine At.sq K ?_
 refine At.region K K ?_
 refine In.step (k' := 1) rfl K ?_
 refine Step.allocA (e := eU8) (l := (List.replicate 64 (0 : UInt8))) (m := 64) (t := 78) (z := .agg (cellsOf eU8 (List.replicate 64 (0 : UInt8))).toArray) (d := (some 3)) (k := 0) K rfl K rfl rfl K hs8 ?_
 intro g9 w10 (hs12 : SP [] w0 w10 [arrE 78 eU8 g5 64 (List.replicate 64 (0 : UInt8)), arrE 78 eU8 g9 64 (List.replicate 64 (0 : UInt8))])
 refine In.fin K ?_
 refine At.sq K ?_
 refine At.sq K ?_
 refine At.region K K ?_
 refine In.run' 3 (k' := 3) rfl [(5, (.slice A2 (List.length p1) c3)), (6, (.int .i64 ((List.length p1 : Nat) : Int))), (7, (.bool (decide (((List.length p1 : Nat) : Int) > 64))))] K ?_
 refine In.fin K ?_
 refine At.join (fun ρ w => ∃ (v31 : (List UInt8)) (A28 : Option Addr) (c29 : Nat), Known ρ [(0, (.slice A28 (List.length v31) c29)), (2, (pt g5 0)), (3, (pt g9 0))] ∧ SP [] w0 w [arrE 78 eU8 g5 64 (List.replicate 64 (0 : UInt8)), arrE 78 eU8 g9 64 (List.replicate 64 (0 : UInt8))] ∧ RdT eU8 w A28 c29 v31 ∧ L_mac_of_k1 v31 = some r) ?_ ?_
 ·refine At.cd K (o := (.tmp 7)) K (b := (decide (((List.length p1 : Nat) : Int) > 64))) K (fun hb44 => ?_) (fun hb44 => ?_)
  ·have H := ct H hb44
   refine At.sq K ?_
   refine At.region K K ?_
   refine In.run' 1 (k' := 1) rfl [(8, (.slice A2 (List.length p1) c3))] K ?_
   obtain ⟨z45, hz46, H⟩ := bind_elim H
   obtain ⟨ha47, H⟩ := chk_elim H
   replace ha47 := Nat.eq_of_beq_eq_true ha47
   refine In.step (k' := 2) rfl K ?_
   refine Step.callF (f := 44) (fo := (.func 44)) (xs := #[(.tmp 8)]) (tys := #[50]) (first := #[]) (captured := #[]) (d := (some 9)) (k := 1) K rfl K K Tryd.call44 (L_digest_Sum_walk A2 c3 p1 w10 (RdT.sp hr4 hs12) z45 hz46) ?_
   rintro e w48 ⟨rfl, hs49⟩
   refine ⟨_, rfl, ?_⟩
   have hs51 : SP [] w0 w48 [arrE 78 eU8 g5 64 (List.replicate 64 (0 : UInt8)), arrE 78 eU8 g9 64 (List.replicate 64 (0 : UInt8))] := SP.call hs12 hs49
   clear hs49
   refine In.step (k' := 3) rfl K ?_
   refine Step.allocA (e := eU8) (l := (List.replicate 32 (0 : UInt8))) (m := 32) (t := 69) (z := .agg (cellsOf eU8 (List.replicate 32 (0 : UInt8))).toArray) (d := (some 4)) (k := 2) K rfl K rfl rfl K hs51 ?_
   intro g52 w53 (hs55 : SP [] w0 w53 [arrE 78 eU8 g5 64 (List.replicate 64 (0 : UInt8)), arrE 78 eU8 g9 64 (List.replicate 64 (0 : UInt8)), arrE 69 eU8 g52 32 (List.replicate 32 (0 : UInt8))])
   refine In.step (k' := 4) rfl K ?_
   refine Step.storeA (e := eU8) (l := (List.replicate 32 (0 : UInt8))) (l' := z45) (m := 32) (t := 69) (x := (.tmp 4)) (y := (.tmp 9)) (g := g52) (i := 2) (d := none) (k := 3) K rfl K K ha47 hs55 rfl K ?_
   intro w56 (hs58 : SP [] w0 w56 [arrE 78 eU8 g5 64 (List.replicate 64 (0 : UInt8)), arrE 78 eU8 g9 64 (List.replicate 64 (0 : UInt8)), arrE 69 eU8 g52 32 z45])
   refine In.fin K ?_
   refine At.region K K ?_
   refine In.step (k' := 1) rfl K ?_
   refine Step.sliceA0 (e := eU8) (l := z45) (m := 32) (g := g52) (T := 69) (E := 5) (x := (.tmp 4)) (q := 2) (d := (some 10)) (k := 0) K rfl K K K hs58 rfl ?_
   refine In.run' 1 (k' := 2) rfl [(0, (.slice (some ⟨g52, 0, none⟩) (List.length z45) 32))] K ?_
   refine In.fin K ?_
   exact ⟨z45, (some ⟨g52, 0, none⟩), 32, ⟨K, K, K, trivial⟩, SP.sel hs58 [0, 1] rfl rfl, (arrE_rd (SP.get hs58 (i := 2) rfl)), H⟩
  ·have H := cf H hb44
   refine At.skip K ?_
   exact ⟨p1, A2, c3, ⟨K, K, K, trivial⟩, SP.sel hs12 [0, 1] rfl rfl, (RdT.sp hr4 hs12), H⟩
 ·rintro ρ w32 ⟨v31, A28, c29, hk, hs33, hr30, H⟩
  unfold L_mac_of_k1 at H
  first | refine At.known [(0, (.slice A28 (List.length v31) c29)), (2, (pt g5 0)), (3, (pt g9 0))] hk ?_ | rw [← known_updL (l := [(0, (.slice A28 (List.length v31) c29)), (2, (pt g5 0)), (3, (pt g9 0))]) hk]
  have ha34 := arrE_len (SP.get hs33 (i := 0) rfl)
  have ha35 := arrE_len (SP.get hs33 (i := 1) rfl)
  refine At.sq K ?_
  refine At.region K K ?_
  refine In.step (k' := 1) rfl K ?_
  refine Step.sliceA0 (e := eU8) (l := (List.replicate 64 (0 : UInt8))) (m := 64) (g := g9) (T := 78) (E := 5) (x := (.tmp 3)) (q := 1) (d := (some 11)) (k := 0) K rfl K K K hs33 rfl ?_
  refine In.run' 1 (k' := 2) rfl [(12, (.slice A28 (List.length v31) c29))] K ?_
  replace H := some_bind_elim H
  obtain ⟨l36, hyl36⟩ : ∃ y, (cpy (List.replicate 64 (0 : UInt8)) 0 (List.length (List.replicate 64 (0 : UInt8))) v31) = y := ⟨_, rfl⟩
  rw [hyl36] at H
  have hnl36 : List.length l36 = List.length (List.replicate 64 (0 : UInt8)) := by rw [← hyl36]; exact cpy_length (by omega)
  refine In.step (k' := 3) rfl K ?_
  refine Step.copyA (e := eU8) (l := (List.replicate 64 (0 : UInt8))) (y' := v31) (l' := l36) (m := 64) (g := g9) (lo := 0) (dl := (List.length (List.replicate 64 (0 : UInt8)))) (T := 50) (T2 := 50) (E := 5) (x := (.tmp 11)) (y := (.tmp 12)) (i := 1) (A := (some ⟨g9, 0, none⟩)) (dc := 64) (A2 := A28) (c2 := c29) (d := (some 13)) (k := 2) K rfl K K K K rfl hs33 rfl (cut_whole0) (by omega) hr30 hyl36 ?_
  intro w38 hs39 _
  have hs40 : SP [] w0 w38 [arrE 78 eU8 g5 64 (List.replicate 64 (0 : UInt8)), arrE 78 eU8 g9 64 l36] := hs39
  clear hs39
  refine In.known [(11, (.slice (some ⟨g9, 0, none⟩) (List.length l36) 64))] ⟨(by rw [hnl36]; kernel_rfl), trivial⟩ ?_
  refine In.fin K ?_
  refine At.sq K ?_
  refine At.region K K ?_
  refine In.step (k' := 1) rfl K ?_
  refine Step.loadA (e := eU8) (l := l36) (m := 64) (t := 78) (x := (.tmp 3)) (g := g9) (i := 1) (d := (some 14)) (k := 0) K rfl K hs40 rfl K K ?_
  refine In.step (k' := 2) rfl K ?_
  refine Step.storeA (e := eU8) (l := (List.replicate 64 (0 : UInt8))) (l' := l36) (m := 64) (t := 78) (x := (.tmp 2)) (y := (.tmp 14)) (g := g5) (i := 0) (d := none) (k := 1) K rfl K K (hnl36.trans ha35) hs40 rfl K ?_
  intro w41 (hs43 : SP [] w0 w41 [arrE 78 eU8 g5 64 l36, arrE 78 eU8 g9 64 l36])
  refine In.fin K ?_
  refine At.ret K ?_
  refine ⟨(.agg (cellsOf eU8 l36).toArray), res_1 K (rv_cellA (e := eU8) (l := l36) (a := 2) (t := 78) K (SP.get hs43 (i := 0) rfl) K K), ?_⟩
  obtain rfl := some_elim H
  exact ⟨rfl, SP.sel hs43 [] rfl rfl⟩
/-! L_mac_pad_sum -/
def L_mac_pad_sum_b1 (rec1 : (List UInt8) → Int → Option ((List UInt8))) (p3 : UInt8) (p4 : (List UInt8)) (v87 : (List UInt8)) (v88 : Int) : Option ((List UInt8)) :=
  (cond (decide (v88 < 64)) ((idx v87 v88).bind fun x125 => ((idx v87 v88).bind fun x129 => ((some (List.set v87 (Int.toNat v88) (toU8 (bXor .u8 ((x125).toNat : Int) ((p3).toNat : Int))))).bind fun l133 => (rec1 l133 (IntKind.wrap .i64 (v88 + 1)))))) ((app v87 p4).bind fun l138 => ((L_digest_Sum l138).bind fun z145 => ((chk (Nat.beq (List.length z145) 32)).bind fun _ => (some (z145))))))
def L_mac_pad_sum_l1 (p3 : UInt8) (p4 : (List UInt8)) : Nat → (List UInt8) → Int → Option ((List UInt8))
  | 0, _, _ => none
  | f + 1, v87, v88 => L_mac_pad_sum_b1  (L_mac_pad_sum_l1 p3 p4 f) p3 p4 v87 v88
def L_mac_pad_sum (p1 : (List UInt8)) (p3 : UInt8) (p4 : (List UInt8)) : Option ((List UInt8)) :=
  (L_mac_pad_sum_l1 p3 p4 fuel p1 0)
set_option maxRecDepth 100000 in
set_option maxHeartbeats 4000000 in
theorem L_mac_pad_sum_walk (A5 : Option Addr) (c6 : Nat) (p1 : (List UInt8)) (p3 : UInt8) (p4 : (List UInt8)) (w0 : World) (ha2 : List.length p1 = 64) (hr7 : RdT eU8 w0 A5 c6 p4) (r : ((List UInt8))) (H : L_mac_pad_sum p1 p3 p4 = some r) :
  Calls Tryd.prog 40 #[(.agg (cellsOf eU8 p1).toArray), (.int .u8 ((p3).toNat : Int)), (.slice A5 (List.length p4) c6)] w0 (fun e w' => e = .returned (.agg (cellsOf eU8 r).toArray) ∧ SP [] w0 w' []) := by
 unfold L_mac_pad_sum at H
 refine calls_go (n := 22) Tryd.func40 K K K ?_
 have hs0 := SP.start [] w0
 refine At.sq K ?_
 refine At.region K K ?_
 refine In.step (k' := 1) rfl K ?_
 refine Step.boxA (e := eU8) (l := p1) (m := 64) (t := 78) (x := (.tmp 0)) (d := (some 3)) (k := 0) K rfl K ha2 K hs0 ?_
 intro g8 w9 (hs11 : SP [] w0 w9 [arrE 78 eU8 g8 64 p1])
 refine In.step (k' := 2) rfl K ?_
 refine Step.allocA (e := eU8) (l := (List.replicate 32 (0 : UInt8))) (m := 32) (t := 69) (z := .agg (cellsOf eU8 (List.replicate 32 (0 : UInt8))).toArray) (d := (some 6)) (k := 1) K rfl K rfl rfl K hs11 ?_
 intro g12 w13 (hs15 : SP [] w0 w13 [arrE 78 eU8 g8 64 p1, arrE 69 eU8 g12 32 (List.replicate 32 (0 : UInt8))])
 refine In.fin K ?_
 refine At.sq K ?_
 refine At.sq K ?_
 refine At.region K K ?_
 refine In.run' 1 (k' := 1) rfl [(8, (.int .i64 0))] K ?_
 refine In.fin K ?_
 refine At.bk K (id := 0) K ?_
 refine At.lp K (fun f1 ρ w => ∃ (v87 : (List UInt8)) (v88 : Int), Known ρ [(1, (.int .u8 ((p3).toNat : Int))), (2, (.slice A5 (List.length p4) c6)), (3, (pt g8 0)), (6, (pt g12 0)), (8, (.int .i64 v88))] ∧ SP [] w0 w [arrE 78 eU8 g8 64 v87, arrE 69 eU8 g12 32 (List.replicate 32 (0 : UInt8))] ∧ L_mac_pad_sum_l1 p3 p4 f1 v87 v88 = some r) (by rintro ρ w ⟨v87, v88, hk, hs, H⟩; cases H) ?_ fuel ?_
 ·rintro f1 ρ w85 ⟨v87, v88, hk, hs86, H⟩
  refine At.known [(1, (.int .u8 ((p3).toNat : Int))), (2, (.slice A5 (List.length p4) c6)), (3, (pt g8 0)), (6, (pt g12 0)), (8, (.int .i64 v88))] hk ?_
  replace H := (show L_mac_pad_sum_b1 (L_mac_pad_sum_l1 p3 p4 f1) p3 p4 v87 v88 = some r from H)
  unfold L_mac_pad_sum_b1 at H
  have ha122 := arrE_len (SP.get hs86 (i := 0) rfl)
  have ha123 := arrE_len (SP.get hs86 (i := 1) rfl)
  refine At.sq K ?_
  refine At.region K K ?_
  refine In.run' 1 (k' := 1) rfl [(9, (.bool (decide (v88 < 64))))] K ?_
  refine In.fin K ?_
  refine At.sq K ?_
  refine At.cd K (o := (.tmp 9)) K (b := (decide (v88 < 64))) K (fun hb124 => ?_) (fun hb124 => ?_)
  ·have H := ct H hb124
   refine At.skip K ?_
   refine At.sq K ?_
   refine At.bk K (id := 1) K ?_
   refine At.sq K ?_
   refine At.region K K ?_
   refine In.run' 2 (k' := 2) rfl [(10, (.int .i64 v88)), (7, (.int .i64 v88))] K ?_
   refine In.fin K ?_
   refine At.region K K ?_
   refine In.run' 1 (k' := 1) rfl [(11, (.int .i64 v88))] K ?_
   obtain ⟨x125, hp126, hq127, hx128, H⟩ := idx_elim H
   refine In.step (k' := 2) rfl K ?_
   refine Step.elemA (e := eU8) (l := v87) (m := 64) (g := g8) (T := 78) (E := 5) (x := (.tmp 3)) (ix := (.tmp 11)) (ki := .i64) (iz := v88) (i := 0) (d := (some 12)) (k := 1) K rfl K K K K hs86 rfl hp126 hq127 ?_
   refine In.step (k' := 3) rfl K ?_
   refine Step.cell (t := 5) (x := (.tmp 12)) (b := g8) (off := (0 + Int.toNat v88 * eU8.sz)) (v := (.int .u8 ((x125).toNat : Int))) (d := (some 13)) (k := 2) K rfl K K (elem_cell (e := eU8) (rdt_cells (arrE_rd (SP.get hs86 (i := 0) rfl)) rfl hp126 hq127) hx128 (j := 0) rfl) ?_
   refine In.run' 2 (k' := 5) rfl [(14, (.int .u8 ((p3).toNat : Int))), (15, (.int .u8 (bXor .u8 ((x125).toNat : Int) ((p3).toNat : Int))))] K ?_
   obtain ⟨x129, hp130, hq131, hx132, H⟩ := idx_elim H
   refine In.step (k' := 6) rfl K ?_
   refine Step.elemA (e := eU8) (l := v87) (m := 64) (g := g8) (T := 78) (E := 5) (x := (.tmp 3)) (ix := (.tmp 11)) (ki := .i64) (iz := v88) (i := 0) (d := (some 16)) (k := 5) K rfl K K K K hs86 rfl hp130 hq131 ?_
   replace H := some_bind_elim H
   obtain ⟨l133, hyl133⟩ : ∃ y, (List.set v87 (Int.toNat v88) (toU8 (bXor .u8 ((x125).toNat : Int) ((p3).toNat : Int)))) = y := ⟨_, rfl⟩
   rw [hyl133] at H
   have hnl133 : List.length l133 = List.length v87 := by rw [← hyl133, List.length_set]
   refine In.step (k' := 7) rfl K ?_
   refine Step.storeElemA (e := eU8) (t := 5) (x := (.tmp 16)) (y := (.tmp 15)) (l := v87) (iz := v88) (m := 64) (g := g8) (b := g8) (off := 0) (i := 0) (v := (.int .u8 (bXor .u8 ((x125).toNat : Int) ((p3).toNat : Int)))) (x' := (toU8 (bXor .u8 ((x125).toNat : Int) ((p3).toNat : Int)))) (d := none) (k := 6) K rfl rfl K K hs86 rfl rfl hq131 hp130 (by show [Value.int .u8 (((toU8 (bXor .u8 ((x125).toNat : Int) ((p3).toNat : Int)))).toNat : Int)] = _; rw [u8_back (u8_xor _ _)]) K ?_
   rw [hyl133]
   intro w134 (hs136 : SP [] w0 w134 [arrE 78 eU8 g8 64 l133, arrE 69 eU8 g12 32 (List.replicate 32 (0 : UInt8))])
   refine In.known [] trivial ?_
   refine In.fin K ?_
   refine At.region K K ?_
   refine In.run' 2 (k' := 2) rfl [(17, (.int .i64 (IntKind.wrap .i64 (v88 + 1)))), (8, (.int .i64 (IntKind.wrap .i64 (v88 + 1))))] K ?_
   refine In.fin K ?_
   exact ⟨l133, (IntKind.wrap .i64 (v88 + 1)), ⟨K, K, K, K, K, trivial⟩, SP.sel hs136 [0, 1] rfl rfl, H⟩
  ·have H := cf H hb124
   refine At.exit K (id := 0) K ?_
   refine At.sq K ?_
   refine At.region K K ?_
   refine In.step (k' := 1) rfl K ?_
   refine Step.sliceA0 (e := eU8) (l := v87) (m := 64) (g := g8) (T := 78) (E := 5) (x := (.tmp 3)) (q := 0) (d := (some 18)) (k := 0) K rfl K K K hs86 rfl ?_
   refine In.run' 1 (k' := 2) rfl [(19, (.slice A5 (List.length p4) c6))] K ?_
   obtain ⟨hl137, H⟩ := app_elim H
   obtain ⟨l138, hyl138⟩ : ∃ y, v87 ++ p4 = y := ⟨_, rfl⟩
   rw [hyl138] at H
   refine In.step (k' := 3) rfl K ?_
   refine Step.appendA (e := eU8) (l := v87) (y := p4) (l' := l138) (m := 64) (g := g8) (T := 50) (TX := 50) (E := 5) (b := 1) (s := (.tmp 18)) (x := (.tmp 19)) (i := 0) (vx := (.slice A5 (List.length p4) c6)) (d := (some 20)) (k := 2) K rfl K K K K rfl hs86 rfl (src_rdt (E := 5) K (RdT.sp hr7 hs86)) hl137 hyl138 ?_
   intro A139 c140 w141 hs142 hr143
   have hs144 : SP [] w0 w141 [arrE 78 eU8 g8 64 v87, arrE 69 eU8 g12 32 (List.replicate 32 (0 : UInt8))] := hs142
   clear hs142
   obtain ⟨z145, hz146, H⟩ := bind_elim H
   obtain ⟨ha147, H⟩ := chk_elim H
   replace ha147 := Nat.eq_of_beq_eq_true ha147
   refine In.step (k' := 4) rfl K ?_
   refine Step.callF (f := 44) (fo := (.func 44)) (xs := #[(.tmp 20)]) (tys := #[50]) (first := #[]) (captured := #[]) (d := (some 21)) (k := 3) K rfl K K Tryd.call44 (L_digest_Sum_walk A139 c140 l138 w141 hr143 z145 hz146) ?_
   rintro e w148 ⟨rfl, hs149⟩
   refine ⟨_, rfl, ?_⟩
   have hs151 : SP [] w0 w148 [arrE 78 eU8 g8 64 v87, arrE 69 eU8 g12 32 (List.replicate 32 (0 : UInt8))] := SP.call hs144 hs149
   clear hs149
   refine In.step (k' := 5) rfl K ?_
   refine Step.storeA (e := eU8) (l := (List.replicate 32 (0 : UInt8))) (l' := z145) (m := 32) (t := 69) (x := (.tmp 6)) (y := (.tmp 21)) (g := g12) (i := 1) (d := none) (k := 4) K rfl K K ha147 hs151 rfl K ?_
   intro w152 (hs154 : SP [] w0 w152 [arrE 78 eU8 g8 64 v87, arrE 69 eU8 g12 32 z145])
   refine In.fin K ?_
   refine At.ret K ?_
   refine ⟨(.agg (cellsOf eU8 z145).toArray), res_1 K (rv_cellA (e := eU8) (l := z145) (a := 6) (t := 69) K (SP.get hs154 (i := 1) rfl) K K), ?_⟩
   obtain rfl := some_elim H
   exact ⟨rfl, SP.sel hs154 [] rfl rfl⟩
 ·exact ⟨p1, 0, ⟨K, K, K, K, K, trivial⟩, SP.sel hs15 [0, 1] rfl rfl, H⟩
/-! L_mac_Mac -/
def L_mac_Mac (p1 : (List UInt8)) (p5 : (List UInt8)) : Option ((List UInt8)) :=
  ((L_mac_of p1).bind fun z13 => ((chk (Nat.beq (List.length z13) 64)).bind fun _ => ((L_mac_pad_sum z13 (54 : UInt8) p5).bind fun z27 => ((chk (Nat.beq (List.length z27) 32)).bind fun _ => ((L_mac_pad_sum z13 (92 : UInt8) z27).bind fun z41 => ((chk (Nat.beq (List.length z41) 32)).bind fun _ => (some (z41))))))))
set_option maxRecDepth 100000 in
set_option maxHeartbeats 4000000 in
theorem L_mac_Mac_walk (A2 : Option Addr) (c3 : Nat) (A6 : Option Addr) (c7 : Nat) (p1 : (List UInt8)) (p5 : (List UInt8)) (w0 : World) (hr4 : RdT eU8 w0 A2 c3 p1) (hr8 : RdT eU8 w0 A6 c7 p5) (r : ((List UInt8))) (H : L_mac_Mac p1 p5 = some r) :
  Calls Tryd.prog 35 #[(.slice A2 (List.length p1) c3), (.slice A6 (List.length p5) c7)] w0 (fun e w' => e = .returned (.agg (cellsOf eU8 r).toArray) ∧ SP [] w0 w' []) := by
 unfold L_mac_Mac at H
 refine calls_go (n := 18) Tryd.func35 K K K ?_
 have hs0 := SP.start [] w0
 refine At.sq K ?_
 refine At.region K K ?_
 refine In.step (k' := 1) rfl K ?_
 refine Step.allocA (e := eU8) (l := (List.replicate 32 (0 : UInt8))) (m := 32) (t := 69) (z := .agg (cellsOf eU8 (List.replicate 32 (0 : UInt8))).toArray) (d := (some 4)) (k := 0) K rfl K rfl rfl K hs0 ?_
 intro g9 w10 (hs12 : SP [] w0 w10 [arrE 69 eU8 g9 32 (List.replicate 32 (0 : UInt8))])
 refine In.fin K ?_
 refine At.sq K ?_
 refine At.region K K ?_
 refine In.run' 1 (k' := 1) rfl [(8, (.slice A2 (List.length p1) c3))] K ?_
 obtain ⟨z13, hz14, H⟩ := bind_elim H
 obtain ⟨ha15, H⟩ := chk_elim H
 replace ha15 := Nat.eq_of_beq_eq_true ha15
 refine In.step (k' := 2) rfl K ?_
 refine Step.callF (f := 41) (fo := (.func 41)) (xs := #[(.tmp 8)]) (tys := #[50]) (first := #[]) (captured := #[]) (d := (some 9)) (k := 1) K rfl K K Tryd.call41 (L_mac_of_walk A2 c3 p1 w10 (RdT.sp hr4 hs12) z13 hz14) ?_
 rintro e w16 ⟨rfl, hs17⟩
 refine ⟨_, rfl, ?_⟩
 have hs19 : SP [] w0 w16 [arrE 69 eU8 g9 32 (List.replicate 32 (0 : UInt8))] := SP.call hs12 hs17
 clear hs17
 refine In.step (k' := 3) rfl K ?_
 refine Step.allocA (e := eU8) (l := (List.replicate 64 (0 : UInt8))) (m := 64) (t := 78) (z := .agg (cellsOf eU8 (List.replicate 64 (0 : UInt8))).toArray) (d := (some 6)) (k := 2) K rfl K rfl rfl K hs19 ?_
 intro g20 w21 (hs23 : SP [] w0 w21 [arrE 69 eU8 g9 32 (List.replicate 32 (0 : UInt8)), arrE 78 eU8 g20 64 (List.replicate 64 (0 : UInt8))])
 refine In.run' 1 (k' := 4) rfl [(5, (.func (.func 40) #[] #[]))] K ?_
 refine In.step (k' := 5) rfl K ?_
 refine Step.storeA (e := eU8) (l := (List.replicate 64 (0 : UInt8))) (l' := z13) (m := 64) (t := 78) (x := (.tmp 6)) (y := (.tmp 9)) (g := g20) (i := 1) (d := none) (k := 4) K rfl K K ha15 hs23 rfl K ?_
 intro w24 (hs26 : SP [] w0 w24 [arrE 69 eU8 g9 32 (List.replicate 32 (0 : UInt8)), arrE 78 eU8 g20 64 z13])
 refine In.fin K ?_
 refine At.sq K ?_
 refine At.region K K ?_
 refine In.run' 1 (k' := 1) rfl [(10, (.func (.func 40) #[] #[]))] K ?_
 refine In.step (k' := 2) rfl K ?_
 refine Step.loadA (e := eU8) (l := z13) (m := 64) (t := 78) (x := (.tmp 6)) (g := g20) (i := 1) (d := (some 11)) (k := 1) K rfl K hs26 rfl K K ?_
 refine In.run' 1 (k' := 3) rfl [(12, (.slice A6 (List.length p5) c7))] K ?_
 obtain ⟨z27, hz28, H⟩ := bind_elim H
 obtain ⟨ha29, H⟩ := chk_elim H
 replace ha29 := Nat.eq_of_beq_eq_true ha29
 refine In.step (k' := 4) rfl K ?_
 refine Step.callF (f := 40) (fo := (.tmp 10)) (xs := #[(.tmp 11), (.const (.int .u8 (54))), (.tmp 12)]) (tys := #[78, 5, 50]) (first := #[]) (captured := #[]) (d := (some 13)) (k := 3) K rfl K K Tryd.call40 (L_mac_pad_sum_walk A6 c7 z13 (54 : UInt8) p5 w24 ha15 (RdT.sp hr8 hs26) z27 hz28) ?_
 rintro e w30 ⟨rfl, hs31⟩
 refine ⟨_, rfl, ?_⟩
 have hs33 : SP [] w0 w30 [arrE 69 eU8 g9 32 (List.replicate 32 (0 : UInt8)), arrE 78 eU8 g20 64 z13] := SP.call hs26 hs31
 clear hs31
 refine In.step (k' := 5) rfl K ?_
 refine Step.allocA (e := eU8) (l := (List.replicate 32 (0 : UInt8))) (m := 32) (t := 69) (z := .agg (cellsOf eU8 (List.replicate 32 (0 : UInt8))).toArray) (d := (some 7)) (k := 4) K rfl K rfl rfl K hs33 ?_
 intro g34 w35 (hs37 : SP [] w0 w35 [arrE 69 eU8 g9 32 (List.replicate 32 (0 : UInt8)), arrE 78 eU8 g20 64 z13, arrE 69 eU8 g34 32 (List.replicate 32 (0 : UInt8))])
 refine In.step (k' := 6) rfl K ?_
 refine Step.storeA (e := eU8) (l := (List.replicate 32 (0 : UInt8))) (l' := z27) (m := 32) (t := 69) (x := (.tmp 7)) (y := (.tmp 13)) (g := g34) (i := 2) (d := none) (k := 5) K rfl K K ha29 hs37 rfl K ?_
 intro w38 (hs40 : SP [] w0 w38 [arrE 69 eU8 g9 32 (List.replicate 32 (0 : UInt8)), arrE 78 eU8 g20 64 z13, arrE 69 eU8 g34 32 z27])
 refine In.fin K ?_
 refine At.sq K ?_
 obtain ⟨z41, hz42, H⟩ := bind_elim H
 obtain ⟨ha43, H⟩ := chk_elim H
 replace ha43 := Nat.eq_of_beq_eq_true ha43
 refine At.stages K K K K K [GEq (.func (.func 40) #[] #[]), GEq (.agg (cellsOf eU8 z13).toArray), GEq (.slice (some ⟨g34, 0, none⟩) (List.length z27) 32), GEq (.agg (cellsOf eU8 z41).toArray), GAny] [3, 4] [([], fun vs w => VL vs [] ∧ SP [] w0 w [arrE 69 eU8 g9 32 (List.replicate 32 (0 : UInt8)), arrE 78 eU8 g20 64 z13, arrE 69 eU8 g34 32 z27]), ([3], fun vs w => VL vs [(.agg (cellsOf eU8 z41).toArray)] ∧ SP [] w0 w [arrE 69 eU8 g9 32 (List.replicate 32 (0 : UInt8)), arrE 78 eU8 g20 64 z13, arrE 69 eU8 g34 32 z27]), ([3, 4], fun vs w => VL vs [(.agg (cellsOf eU8 z41).toArray), undef] ∧ SP [] w0 w [arrE 69 eU8 g9 32 z41, arrE 78 eU8 g20 64 z13, arrE 69 eU8 g34 32 z27])] (N := 5) K ⟨K, Nat.zero_lt_succ _⟩ (show VL [] [] ∧ SP [] w0 w38.drew [arrE 69 eU8 g9 32 (List.replicate 32 (0 : UInt8)), arrE 78 eU8 g20 64 z13, arrE 69 eU8 g34 32 z27] from ⟨trivial, SP.drew hs40⟩) ⟨⟨⟨⟨⟨trivial, ?_⟩, ?_⟩, ?_⟩, ?_⟩, ?_⟩ (last := 2) K ?_
 ·exact Owe.run K [(5, (.func (.func 40) #[] #[]))] ⟨gS K K, trivial⟩ (.func (.func 40) #[] #[]) (fun _ _ => K) rfl
 ·refine Owe.light K [0] K (all_cons ?_ all_nil)
  ·rintro ρ' w' hs hah ⟨hvl63, hs62⟩
   have hkn : Known ρ' [(6, (pt g20 0))] := ⟨(hs 6 K).trans K, trivial⟩
   refine Step.known _ hkn ?_
   refine Step.loadA (e := eU8) (l := z13) (m := 64) (t := 78) (x := (.tmp 6)) (g := g20) (i := 1) (d := (some 15)) (k := 1) K rfl K hs62 rfl K K ?_
   exact ⟨rfl, _, updO_known hkn, rfl⟩
 ·refine Owe.light K [0] K (all_cons ?_ all_nil)
  ·rintro ρ' w' hs hah ⟨hvl65, hs64⟩
   have hkn : Known ρ' [(7, (pt g34 0))] := ⟨(hs 7 K).trans K, trivial⟩
   refine Step.known _ hkn ?_
   refine Step.sliceA0 (e := eU8) (l := z27) (m := 32) (g := g34) (T := 69) (E := 5) (x := (.tmp 7)) (q := 2) (d := (some 16)) (k := 2) K rfl K K K hs64 rfl ?_
   exact ⟨rfl, _, updO_known hkn, rfl⟩
 ·refine Owe.heavy K [(0, 1)] K (all_cons ⟨K, K, ?_⟩ all_nil)
  ·rintro ρ' w' hs hah ⟨hvl67, hs66⟩
   have hkn : Known ρ' [(14, (.func (.func 40) #[] #[])), (15, (.agg (cellsOf eU8 z13).toArray)), (16, (.slice (some ⟨g34, 0, none⟩) (List.length z27) 32))] := ⟨hah 0 14 K, hah 1 15 K, hah 2 16 K, trivial⟩
   refine Step.known _ hkn ?_
   refine Step.callF (f := 40) (fo := (.tmp 14)) (xs := #[(.tmp 15), (.const (.int .u8 (92))), (.tmp 16)]) (tys := #[78, 5, 50]) (first := #[]) (captured := #[]) (d := (some 17)) (k := 3) K rfl K K Tryd.call40 (L_mac_pad_sum_walk (some ⟨g34, 0, none⟩) 32 z13 (92 : UInt8) z27 w' ha15 (arrE_rd (SP.get hs66 (i := 2) rfl)) z41 hz42) ?_
   rintro e w68 ⟨rfl, hs69⟩
   refine ⟨_, rfl, ?_⟩
   have hs71 : SP [] w0 w68 [arrE 69 eU8 g9 32 (List.replicate 32 (0 : UInt8)), arrE 78 eU8 g20 64 z13, arrE 69 eU8 g34 32 z27] := SP.call hs66 hs69
   clear hs69
   refine ⟨_, updO_known hkn, rfl, ?_⟩
   exact (And.intro (And.intro rfl (trivial)) (hs71))
 ·refine Owe.heavy K [(1, 2)] K (all_cons ⟨K, K, ?_⟩ all_nil)
  ·rintro ρ' w' hs hah ⟨⟨q73, -⟩, hs72⟩
   have hkn : Known ρ' [(4, (pt g9 0)), (17, (.agg (cellsOf eU8 z41).toArray))] := ⟨(hs 4 K).trans K, (valF_eq (h := 3) K).symm.trans q73, trivial⟩
   refine Step.known _ hkn ?_
   refine Step.storeA (e := eU8) (l := (List.replicate 32 (0 : UInt8))) (l' := z41) (m := 32) (t := 69) (x := (.tmp 4)) (y := (.tmp 17)) (g := g9) (i := 0) (d := none) (k := 4) K rfl K K ha43 hs72 rfl K ?_
   intro w75 (hs77 : SP [] w0 w75 [arrE 69 eU8 g9 32 z41, arrE 78 eU8 g20 64 z13, arrE 69 eU8 g34 32 z27])
   refine ⟨_, updO_known hkn, trivial, ?_⟩
   exact (And.intro (And.intro q73 (And.intro rfl (trivial))) (hs77))
 ·rintro ρ' w' hs hf ⟨⟨q79, q80, -⟩, hs78⟩
  refine postKnown [(4, (pt g9 0))] ⟨(hs 4 K).trans K, trivial⟩ ?_
  obtain ⟨w82, hww82⟩ : ∃ x, w' = x := ⟨_, rfl⟩
  rw [hww82] at hs78 ⊢
  refine At.ret K ?_
  refine ⟨(.agg (cellsOf eU8 z41).toArray), res_1 K (rv_cellA (e := eU8) (l := z41) (a := 4) (t := 69) K (SP.get hs78 (i := 0) rfl) K K), ?_⟩
  obtain rfl := some_elim H
  exact ⟨rfl, SP.sel hs78 [] rfl rfl⟩
/-! L_mac_Proof -/
def L_mac_Proof_b1 (rec1 : (List UInt8) → Int → Option ((List UInt8))) (p1 : (List UInt8)) (p5 : (List (List UInt8))) (v63 : (List UInt8)) (v64 : Int) : Option ((List UInt8)) :=
  (cond (decide (v64 < ((List.length p5 : Nat) : Int))) ((idx p5 v64).bind fun x112 => (cond (decide (((List.length x112 : Nat) : Int) > 255)) (some (([] : List UInt8))) ((L_num_Text x112).bind fun z122 => ((app v63 z122).bind fun l131 => (rec1 l131 (IntKind.wrap .i64 (v64 + 1))))))) ((L_mac_Mac p1 v63).bind fun z137 => ((chk (Nat.beq (List.length z137) 32)).bind fun _ => ((L_digest_Hex z137).bind fun z151 => (some (z151))))))
def L_mac_Proof_l1 (p1 : (List UInt8)) (p5 : (List (List UInt8))) : Nat → (List UInt8) → Int → Option ((List UInt8))
  | 0, _, _ => none
  | f + 1, v63, v64 => L_mac_Proof_b1  (L_mac_Proof_l1 p1 p5 f) p1 p5 v63 v64
def L_mac_Proof (p1 : (List UInt8)) (p5 : (List (List UInt8))) : Option ((List UInt8)) :=
  (L_mac_Proof_l1 p1 p5 fuel ([] : List UInt8) 0)
set_option maxRecDepth 100000 in
set_option maxHeartbeats 4000000 in
theorem L_mac_Proof_walk (A2 : Option Addr) (c3 : Nat) (A6 : Option Addr) (c7 : Nat) (p1 : (List UInt8)) (p5 : (List (List UInt8))) (w0 : World) (hr4 : RdT eU8 w0 A2 c3 p1) (hr8 : RdT eStr w0 A6 c7 p5) (r : ((List UInt8))) (H : L_mac_Proof p1 p5 = some r) :
  Calls Tryd.prog 27 #[(.slice A2 (List.length p1) c3), (.slice A6 (List.length p5) c7)] w0 (fun e w' => e = .returned (.string ⟨List.toArray r⟩) ∧ SP [] w0 w' []) := by
 unfold L_mac_Proof at H
 refine calls_go (n := 28) Tryd.func27 K K K ?_
 have hs0 := SP.start [] w0
 refine At.sq K ?_
 refine At.region K K ?_
 refine In.run' 1 (k' := 1) rfl [(4, (.string ⟨List.toArray ([] : List UInt8)⟩))] K ?_
 refine In.fin K ?_
 refine At.sq K ?_
 refine At.region K K ?_
 refine In.run' 1 (k' := 1) rfl [(5, (.slice none (List.length ([] : List UInt8)) 0))] K ?_
 refine In.fin K ?_
 refine At.sq K ?_
 refine At.sq K ?_
 refine At.region K K ?_
 refine In.run' 3 (k' := 3) rfl [(9, (.slice A6 (List.length p5) c7)), (10, (.int .i64 ((List.length p5 : Nat) : Int))), (11, (.int .i64 0))] K ?_
 refine In.fin K ?_
 refine At.bk K (id := 0) K ?_
 refine At.lp K (fun f1 ρ w => ∃ (v63 : (List UInt8)) (v64 : Int) (A61 : Option Addr) (c62 : Nat), Known ρ [(0, (.slice A2 (List.length p1) c3)), (5, (.slice A61 (List.length v63) c62)), (9, (.slice A6 (List.length p5) c7)), (10, (.int .i64 ((List.length p5 : Nat) : Int))), (11, (.int .i64 v64))] ∧ SP [] w0 w [rowT 5 eU8 A61 c62 v63] ∧ L_mac_Proof_l1 p1 p5 f1 v63 v64 = some r) (by rintro ρ w ⟨v63, v64, A61, c62, hk, hs, H⟩; cases H) ?_ fuel ?_
 ·rintro f1 ρ w59 ⟨v63, v64, A61, c62, hk, hs60, H⟩
  refine At.known [(0, (.slice A2 (List.length p1) c3)), (5, (.slice A61 (List.length v63) c62)), (9, (.slice A6 (List.length p5) c7)), (10, (.int .i64 ((List.length p5 : Nat) : Int))), (11, (.int .i64 v64))] hk ?_
  replace H := (show L_mac_Proof_b1 (L_mac_Proof_l1 p1 p5 f1) p1 p5 v63 v64 = some r from H)
  unfold L_mac_Proof_b1 at H
  refine At.sq K ?_
  refine At.region K K ?_
  refine In.run' 1 (k' := 1) rfl [(12, (.bool (decide (v64 < ((List.length p5 : Nat) : Int)))))] K ?_
  refine In.fin K ?_
  refine At.sq K ?_
  refine At.cd K (o := (.tmp 12)) K (b := (decide (v64 < ((List.length p5 : Nat) : Int)))) K (fun hb111 => ?_) (fun hb111 => ?_)
  ·have H := ct H hb111
   refine At.skip K ?_
   refine At.sq K ?_
   refine At.bk K (id := 1) K ?_
   refine At.sq K ?_
   refine At.region K K ?_
   obtain ⟨x112, hp113, hq114, hx115, H⟩ := idx_elim H
   refine In.step (k' := 1) rfl K ?_
   refine Step.elem (e := eStr) (l := p5) (A := A6) (c := c7) (T := 29) (E := 9) (x := (.tmp 9)) (ix := (.tmp 11)) (ki := .i64) (iz := v64) (d := (some 13)) (k := 0) K rfl K K K K (RdT.sp hr8 hs60) hp113 hq114 ?_
   intro b116 o117 hA119 hb120 hc118
   refine In.step (k' := 2) rfl K ?_
   refine Step.cell (t := 9) (x := (.tmp 13)) (b := b116) (off := (o117 + Int.toNat v64 * eStr.sz)) (v := (.string ⟨List.toArray x112⟩)) (d := (some 14)) (k := 1) K rfl K K (elem_cell (e := eStr) (rdt_cells (RdT.sp hr8 hs60) hA119 hp113 hq114) hx115 (j := 0) rfl) ?_
   refine In.run' 1 (k' := 3) rfl [(7, (.string ⟨List.toArray x112⟩))] K ?_
   refine In.fin K ?_
   refine At.sq K ?_
   refine At.sq K ?_
   refine At.region K K ?_
   refine In.run' 3 (k' := 3) rfl [(15, (.string ⟨List.toArray x112⟩)), (16, (.int .i64 ((List.length x112 : Nat) : Int))), (17, (.bool (decide (((List.length x112 : Nat) : Int) > 255))))] K ?_
   refine In.fin K ?_
   refine At.cd K (o := (.tmp 17)) K (b := (decide (((List.length x112 : Nat) : Int) > 255))) K (fun hb121 => ?_) (fun hb121 => ?_)
   ·have H := ct H hb121
    refine At.sq K ?_
    refine At.region K K ?_
    refine In.run' 1 (k' := 1) rfl [(4, (.string ⟨List.toArray ([] : List UInt8)⟩))] K ?_
    refine In.fin K ?_
    refine At.ret K ?_
    refine ⟨(.string ⟨List.toArray ([] : List UInt8)⟩), K, ?_⟩
    obtain rfl := some_elim H
    exact ⟨rfl, SP.sel hs60 [] rfl rfl⟩
   ·have H := cf H hb121
    refine At.skip K ?_
    refine At.region K K ?_
    refine In.run' 2 (k' := 2) rfl [(18, (.slice A61 (List.length v63) c62)), (19, (.string ⟨List.toArray x112⟩))] K ?_
    obtain ⟨z122, hz123, H⟩ := bind_elim H
    refine In.step (k' := 3) rfl K ?_
    refine Step.callF (f := 34) (fo := (.func 34)) (xs := #[(.tmp 19)]) (tys := #[9]) (first := #[]) (captured := #[]) (d := (some 20)) (k := 2) K rfl K K Tryd.call34 (L_num_Text_walk  x112 w59  z122 hz123) ?_
    rintro e w124 ⟨A126, c127, rfl, hs125⟩
    refine ⟨_, rfl, ?_⟩
    have hs129 : SP [] w0 w124 [rowT 5 eU8 A61 c62 v63, rowT 5 eU8 A126 c127 z122] := SP.call hs60 hs125
    clear hs125
    obtain ⟨hl130, H⟩ := app_elim H
    obtain ⟨l131, hyl131⟩ : ∃ y, v63 ++ z122 = y := ⟨_, rfl⟩
    rw [hyl131] at H
    refine In.step (k' := 4) rfl K ?_
    refine Step.append (e := eU8) (l := v63) (m := z122) (A := A61) (c := c62) (T := 50) (TX := 50) (E := 5) (b := 1) (s := (.tmp 18)) (x := (.tmp 20)) (i := 0) (vx := (.slice A126 (List.length z122) c127)) (d := (some 21)) (k := 3) K rfl K K K K rfl hs129 rfl (src_rdt (E := 5) K (rowT_rd (SP.get hs129 (i := 1) rfl))) hl130 ?_
    rw [hyl131]
    intro A132 c133 w134 (hs136 : SP [] w0 w134 [rowT 5 eU8 A132 c133 l131, rowT 5 eU8 A126 c127 z122])
    refine In.run' 1 (k' := 5) rfl [(5, (.slice A132 (List.length l131) c133))] K ?_
    refine In.fin K ?_
    refine At.region K K ?_
    refine In.run' 2 (k' := 2) rfl [(22, (.int .i64 (IntKind.wrap .i64 (v64 + 1)))), (11, (.int .i64 (IntKind.wrap .i64 (v64 + 1))))] K ?_
    refine In.fin K ?_
    exact ⟨l131, (IntKind.wrap .i64 (v64 + 1)), A132, c133, ⟨K, K, K, K, K, trivial⟩, SP.sel hs136 [0] rfl rfl, H⟩
  ·have H := cf H hb111
   refine At.exit K (id := 0) K ?_
   refine At.sq K ?_
   refine At.region K K ?_
   refine In.run' 2 (k' := 2) rfl [(23, (.slice A2 (List.length p1) c3)), (24, (.slice A61 (List.length v63) c62))] K ?_
   obtain ⟨z137, hz138, H⟩ := bind_elim H
   obtain ⟨ha139, H⟩ := chk_elim H
   replace ha139 := Nat.eq_of_beq_eq_true ha139
   refine In.step (k' := 3) rfl K ?_
   refine Step.callF (f := 35) (fo := (.func 35)) (xs := #[(.tmp 23), (.tmp 24)]) (tys := #[50, 50]) (first := #[]) (captured := #[]) (d := (some 25)) (k := 2) K rfl K K Tryd.call35 (L_mac_Mac_walk A2 c3 A61 c62 p1 v63 w59 (RdT.sp hr4 hs60) (rowT_rd (SP.get hs60 (i := 0) rfl)) z137 hz138) ?_
   rintro e w140 ⟨rfl, hs141⟩
   refine ⟨_, rfl, ?_⟩
   have hs143 : SP [] w0 w140 [rowT 5 eU8 A61 c62 v63] := SP.call hs60 hs141
   clear hs141
   refine In.step (k' := 4) rfl K ?_
   refine Step.allocA (e := eU8) (l := (List.replicate 32 (0 : UInt8))) (m := 32) (t := 69) (z := .agg (cellsOf eU8 (List.replicate 32 (0 : UInt8))).toArray) (d := (some 8)) (k := 3) K rfl K rfl rfl K hs143 ?_
   intro g144 w145 (hs147 : SP [] w0 w145 [rowT 5 eU8 A61 c62 v63, arrE 69 eU8 g144 32 (List.replicate 32 (0 : UInt8))])
   refine In.step (k' := 5) rfl K ?_
   refine Step.storeA (e := eU8) (l := (List.replicate 32 (0 : UInt8))) (l' := z137) (m := 32) (t := 69) (x := (.tmp 8)) (y := (.tmp 25)) (g := g144) (i := 1) (d := none) (k := 4) K rfl K K ha139 hs147 rfl K ?_
   intro w148 (hs150 : SP [] w0 w148 [rowT 5 eU8 A61 c62 v63, arrE 69 eU8 g144 32 z137])
   refine In.fin K ?_
   refine At.sq K ?_
   refine At.region K K ?_
   refine In.step (k' := 1) rfl K ?_
   refine Step.sliceA0 (e := eU8) (l := z137) (m := 32) (g := g144) (T := 69) (E := 5) (x := (.tmp 8)) (q := 1) (d := (some 26)) (k := 0) K rfl K K K hs150 rfl ?_
   obtain ⟨z151, hz152, H⟩ := bind_elim H
   refine In.step (k' := 2) rfl K ?_
   refine Step.callF (f := 36) (fo := (.func 36)) (xs := #[(.tmp 26)]) (tys := #[50]) (first := #[]) (captured := #[]) (d := (some 27)) (k := 1) K rfl K K Tryd.call36 (L_digest_Hex_walk (some ⟨g144, 0, none⟩) 32 z137 w148 (arrE_rd (SP.get hs150 (i := 1) rfl)) z151 hz152) ?_
   rintro e w153 ⟨rfl, hs154⟩
   refine ⟨_, rfl, ?_⟩
   have hs156 : SP [] w0 w153 [rowT 5 eU8 A61 c62 v63, arrE 69 eU8 g144 32 z137] := SP.call hs150 hs154
   clear hs154
   refine In.run' 1 (k' := 3) rfl [(4, (.string ⟨List.toArray z151⟩))] K ?_
   refine In.fin K ?_
   refine At.ret K ?_
   refine ⟨(.string ⟨List.toArray z151⟩), K, ?_⟩
   obtain rfl := some_elim H
   exact ⟨rfl, SP.sel hs156 [] rfl rfl⟩
 ·exact ⟨([] : List UInt8), 0, none, 0, ⟨K, K, K, K, K, trivial⟩, SP.sel (SP.nilrow hs0 5 eU8) [0] rfl rfl, H⟩
end Go.Proofs.YtjllaeceghmjgaaDoor
