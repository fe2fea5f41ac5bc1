/- LIFTED BY PROGRAM (tools/lift.py): what functions compute, and that they do. -/
import Derived.Test.YtjllaeceghmjgaaDoorLR2
import Derived.Test.YtjllaeceghmjgaaDoorLR1
namespace Go.Proofs.YtjllaeceghmjgaaDoor
set_option linter.unusedSimpArgs false
set_option linter.unusedVariables false
open Go.RowKit

/-! L_subwayref03_padded -/
def L_subwayref03_padded_b6 (rec5 : (List UInt8) → Option ((List UInt8))) (rec6 : (List UInt8) → Int → Option ((List UInt8))) (p5 : UInt8) (v473 : (List UInt8)) (v474 : Int) : Option ((List UInt8)) :=
  (cond (decide (v474 < 64)) ((idx v473 v474).bind fun x499 => ((idx v473 v474).bind fun x508 => ((some (List.set v473 (Int.toNat v474) (toU8 (bXor .u8 ((x499).toNat : Int) ((p5).toNat : Int))))).bind fun l517 => (rec6 l517 (IntKind.wrap .i64 (v474 + 1)))))) (some (v473)))
def L_subwayref03_padded_l6 (rec5 : (List UInt8) → Option ((List UInt8))) (p5 : UInt8) : Nat → (List UInt8) → Int → Option ((List UInt8))
  | 0, _, _ => none
  | f + 1, v473, v474 => L_subwayref03_padded_b6 rec5 (L_subwayref03_padded_l6 rec5 p5 f) p5 v473 v474
def L_subwayref03_padded_b4 (rec5 : (List UInt8) → Option ((List UInt8))) (p5 : UInt8) (v290 : (List UInt8)) : Option ((List UInt8)) :=
  (cond (decide (((List.length v290 : Nat) : Int) < 64)) ((app v290 ([(0 : UInt8)] : List UInt8)).bind fun l412 => (rec5 l412)) (L_subwayref03_padded_l6 rec5 p5 fuel v290 0))
def L_subwayref03_padded_l4 (p5 : UInt8) : Nat → (List UInt8) → Option ((List UInt8))
  | 0, _ => none
  | f + 1, v290 => L_subwayref03_padded_b4  (L_subwayref03_padded_l4 p5 f) p5 v290
def L_subwayref03_padded_k1 (p5 : UInt8) (v47 : (List UInt8)) : Option ((List UInt8)) :=
  (L_subwayref03_padded_l4 p5 fuel v47)
def L_subwayref03_padded (p1 : (List UInt8)) (p5 : UInt8) : Option ((List UInt8)) :=
  ((app ([] : List UInt8) p1).bind fun l13 => (cond (decide (((List.length l13 : Nat) : Int) > 64)) ((L_subwayref02_Sum l13).bind fun z522 => ((chk (Nat.beq (List.length z522) 32)).bind fun _ => ((app ([] : List UInt8) z522).bind fun l541 => (L_subwayref03_padded_k1 p5 l541)))) (L_subwayref03_padded_k1 p5 l13)))
set_option maxRecDepth 100000 in
set_option maxHeartbeats 4000000 in
theorem L_subwayref03_padded_walk (A2 : Option Addr) (c3 : Nat) (p1 : (List UInt8)) (p5 : UInt8) (w0 : World) (hr4 : RdT eU8 w0 A2 c3 p1) (r : ((List UInt8))) (H : L_subwayref03_padded p1 p5 = some r) :
  Calls Tryd.prog 39 #[(.slice A2 (List.length p1) c3), (.int .u8 ((p5).toNat : Int))] w0 (fun e w' => ∃ (A6 : Option Addr) (c7 : Nat), e = .returned (.slice A6 (List.length r) c7) ∧ SP [] w0 w' [rowT 5 eU8 A6 c7 r]) := by
 unfold L_subwayref03_padded at H
 refine calls_go (n := 39) Tryd.func39 K K K ?_
 have hs0 := SP.start [] w0
 refine At.sq K ?_
 refine At.region K K ?_
 refine In.run' 1 (k' := 1) rfl [(4, (.slice none (List.length ([] : List UInt8)) 0))] K ?_
 refine In.fin K ?_
 refine At.sq K ?_
 refine At.region K K ?_
 refine In.step (k' := 1) rfl K ?_
 refine Step.newSlice (e := eU8) (T := 50) (E := 5) (len := 0) (parts := #[]) (cs := #[]) ([] : List UInt8) (d := (some 8)) (k := 0) K rfl (fun _ => K) hs0 rfl rfl rfl rfl ?_
 intro g8 w9 (hs11 : SP [] w0 w9 [rowT 5 eU8 (some ⟨g8, 0, none⟩) (List.length ([] : List UInt8)) ([] : List UInt8)])
 refine In.run' 1 (k' := 2) rfl [(9, (.slice A2 (List.length p1) c3))] K ?_
 obtain ⟨hl12, H⟩ := app_elim H
 obtain ⟨l13, hyl13⟩ : ∃ y, ([] : List UInt8) ++ p1 = y := ⟨_, rfl⟩
 rw [hyl13] at H
 refine In.step (k' := 3) rfl K ?_
 refine Step.append (e := eU8) (l := ([] : List UInt8)) (m := p1) (A := (some ⟨g8, 0, none⟩)) (c := (List.length ([] : List UInt8))) (T := 50) (TX := 50) (E := 5) (b := 1) (s := (.tmp 8)) (x := (.tmp 9)) (i := 0) (vx := (.slice A2 (List.length p1) c3)) (d := (some 10)) (k := 2) K rfl K K K K rfl hs11 rfl (src_rdt (E := 5) K (RdT.sp hr4 hs11)) hl12 ?_
 rw [hyl13]
 intro A14 c15 w16 (hs18 : SP [] w0 w16 [rowT 5 eU8 A14 c15 l13])
 refine In.run' 1 (k' := 4) rfl [(5, (.slice A14 (List.length l13) c15))] K ?_
 refine In.fin K ?_
 refine At.sq K ?_
 refine At.sq K ?_
 refine At.region K K ?_
 refine In.run' 3 (k' := 3) rfl [(11, (.slice A14 (List.length l13) c15)), (12, (.int .i64 ((List.length l13 : Nat) : Int))), (13, (.bool (decide (((List.length l13 : Nat) : Int) > 64))))] K ?_
 refine In.fin K ?_
 refine At.join (fun ρ w => ∃ (v47 : (List UInt8)) (A45 : Option Addr) (c46 : Nat), Known ρ [(1, (.int .u8 ((p5).toNat : Int))), (5, (.slice A45 (List.length v47) c46))] ∧ SP [] w0 w [rowT 5 eU8 A45 c46 v47] ∧ L_subwayref03_padded_k1 p5 v47 = some r) ?_ ?_
 ·refine At.cd K (o := (.tmp 13)) K (b := (decide (((List.length l13 : Nat) : Int) > 64))) K (fun hb521 => ?_) (fun hb521 => ?_)
  ·have H := ct H hb521
   refine At.sq K ?_
   refine At.region K K ?_
   refine In.run' 1 (k' := 1) rfl [(14, (.slice A14 (List.length l13) c15))] K ?_
   obtain ⟨z522, hz523, H⟩ := bind_elim H
   obtain ⟨ha524, H⟩ := chk_elim H
   replace ha524 := Nat.eq_of_beq_eq_true ha524
   refine In.step (k' := 2) rfl K ?_
   refine Step.callF (f := 38) (fo := (.func 38)) (xs := #[(.tmp 14)]) (tys := #[50]) (first := #[]) (captured := #[]) (d := (some 15)) (k := 1) K rfl K K Tryd.call38 (L_subwayref02_Sum_walk A14 c15 l13 w16 (rowT_rd (SP.get hs18 (i := 0) rfl)) z522 hz523) ?_
   rintro e w525 ⟨rfl, hs526⟩
   refine ⟨_, rfl, ?_⟩
   have hs528 : SP [] w0 w525 [rowT 5 eU8 A14 c15 l13] := SP.call hs18 hs526
   clear hs526
   refine In.step (k' := 3) rfl K ?_
   refine Step.allocA (e := eU8) (l := (List.replicate 32 (0 : UInt8))) (m := 32) (t := 69) (z := .agg (cellsOf eU8 (List.replicate 32 (0 : UInt8))).toArray) (d := (some 6)) (k := 2) K rfl K rfl rfl K hs528 ?_
   intro g529 w530 (hs532 : SP [] w0 w530 [rowT 5 eU8 A14 c15 l13, arrE 69 eU8 g529 32 (List.replicate 32 (0 : UInt8))])
   refine In.step (k' := 4) rfl K ?_
   refine Step.storeA (e := eU8) (l := (List.replicate 32 (0 : UInt8))) (l' := z522) (m := 32) (t := 69) (x := (.tmp 6)) (y := (.tmp 15)) (g := g529) (i := 1) (d := none) (k := 3) K rfl K K ha524 hs532 rfl K ?_
   intro w533 (hs535 : SP [] w0 w533 [rowT 5 eU8 A14 c15 l13, arrE 69 eU8 g529 32 z522])
   refine In.fin K ?_
   refine At.region K K ?_
   refine In.step (k' := 1) rfl K ?_
   refine Step.newSlice (e := eU8) (T := 50) (E := 5) (len := 0) (parts := #[]) (cs := #[]) ([] : List UInt8) (d := (some 16)) (k := 0) K rfl (fun _ => K) hs535 rfl rfl rfl rfl ?_
   intro g536 w537 (hs539 : SP [] w0 w537 [rowT 5 eU8 A14 c15 l13, arrE 69 eU8 g529 32 z522, rowT 5 eU8 (some ⟨g536, 0, none⟩) (List.length ([] : List UInt8)) ([] : List UInt8)])
   refine In.step (k' := 2) rfl K ?_
   refine Step.sliceA0 (e := eU8) (l := z522) (m := 32) (g := g529) (T := 69) (E := 5) (x := (.tmp 6)) (q := 1) (d := (some 17)) (k := 1) K rfl K K K hs539 rfl ?_
   obtain ⟨hl540, H⟩ := app_elim H
   obtain ⟨l541, hyl541⟩ : ∃ y, ([] : List UInt8) ++ z522 = y := ⟨_, rfl⟩
   rw [hyl541] at H
   refine In.step (k' := 3) rfl K ?_
   refine Step.append (e := eU8) (l := ([] : List UInt8)) (m := z522) (A := (some ⟨g536, 0, none⟩)) (c := (List.length ([] : List UInt8))) (T := 50) (TX := 50) (E := 5) (b := 1) (s := (.tmp 16)) (x := (.tmp 17)) (i := 2) (vx := (.slice (some ⟨g529, 0, none⟩) (List.length z522) 32)) (d := (some 18)) (k := 2) K rfl K K K K rfl hs539 rfl (src_rdt (E := 5) K (arrE_rd (SP.get hs539 (i := 1) rfl))) hl540 ?_
   rw [hyl541]
   intro A542 c543 w544 (hs546 : SP [] w0 w544 [rowT 5 eU8 A14 c15 l13, arrE 69 eU8 g529 32 z522, rowT 5 eU8 A542 c543 l541])
   refine In.run' 1 (k' := 4) rfl [(5, (.slice A542 (List.length l541) c543))] K ?_
   refine In.fin K ?_
   exact ⟨l541, A542, c543, ⟨K, K, trivial⟩, SP.sel hs546 [2] rfl rfl, H⟩
  ·have H := cf H hb521
   refine At.skip K ?_
   exact ⟨l13, A14, c15, ⟨K, K, trivial⟩, SP.sel hs18 [0] rfl rfl, H⟩
 ·rintro ρ w48 ⟨v47, A45, c46, hk, hs49, H⟩
  unfold L_subwayref03_padded_k1 at H
  first | refine At.known [(1, (.int .u8 ((p5).toNat : Int))), (5, (.slice A45 (List.length v47) c46))] hk ?_ | rw [← known_updL (l := [(1, (.int .u8 ((p5).toNat : Int))), (5, (.slice A45 (List.length v47) c46))]) hk]
  refine At.sq K ?_
  refine At.bk K (id := 0) K ?_
  refine At.lp K (fun f5 ρ w => ∃ (v290 : (List UInt8)) (A288 : Option Addr) (c289 : Nat), Known ρ [(1, (.int .u8 ((p5).toNat : Int))), (5, (.slice A288 (List.length v290) c289))] ∧ SP [] w0 w [rowT 5 eU8 A288 c289 v290] ∧ L_subwayref03_padded_l4 p5 f5 v290 = some r) (by rintro ρ w ⟨v290, A288, c289, hk, hs, H⟩; cases H) ?_ fuel ?_
  ·rintro f5 ρ w286 ⟨v290, A288, c289, hk, hs287, H⟩
   refine At.known [(1, (.int .u8 ((p5).toNat : Int))), (5, (.slice A288 (List.length v290) c289))] hk ?_
   replace H := (show L_subwayref03_padded_b4 (L_subwayref03_padded_l4 p5 f5) p5 v290 = some r from H)
   unfold L_subwayref03_padded_b4 at H
   refine At.sq K ?_
   refine At.sq K ?_
   refine At.region K K ?_
   refine In.run' 3 (k' := 3) rfl [(19, (.slice A288 (List.length v290) c289)), (20, (.int .i64 ((List.length v290 : Nat) : Int))), (21, (.bool (decide (((List.length v290 : Nat) : Int) < 64))))] K ?_
   refine In.fin K ?_
   refine At.cd K (o := (.tmp 21)) K (b := (decide (((List.length v290 : Nat) : Int) < 64))) K (fun hb406 => ?_) (fun hb406 => ?_)
   ·have H := ct H hb406
    refine At.skip K ?_
    refine At.bk K (id := 1) K ?_
    refine At.region K K ?_
    refine In.run' 1 (k' := 1) rfl [(22, (.slice A288 (List.length v290) c289))] K ?_
    refine In.step (k' := 2) rfl K ?_
    refine Step.newSlice (e := eU8) (T := 50) (E := 5) (len := 1) (parts := #[(0, (.const (.int .u8 (0))))]) (cs := #[(.int .u8 0)]) ([(0 : UInt8)] : List UInt8) (d := (some 23)) (k := 1) K rfl (fun _ => K) hs287 (cells_cons8 (Or.inl rfl) rfl) rfl rfl rfl ?_
    intro g407 w408 (hs410 : SP [] w0 w408 [rowT 5 eU8 A288 c289 v290, rowT 5 eU8 (some ⟨g407, 0, none⟩) (List.length ([(0 : UInt8)] : List UInt8)) ([(0 : UInt8)] : List UInt8)])
    obtain ⟨hl411, H⟩ := app_elim H
    obtain ⟨l412, hyl412⟩ : ∃ y, v290 ++ ([(0 : UInt8)] : List UInt8) = y := ⟨_, rfl⟩
    rw [hyl412] at H
    refine In.step (k' := 3) rfl K ?_
    refine Step.append (e := eU8) (l := v290) (m := ([(0 : UInt8)] : List UInt8)) (A := A288) (c := c289) (T := 50) (TX := 50) (E := 5) (b := 1) (s := (.tmp 22)) (x := (.tmp 23)) (i := 0) (vx := (.slice (some ⟨g407, 0, none⟩) (List.length ([(0 : UInt8)] : List UInt8)) (List.length ([(0 : UInt8)] : List UInt8)))) (d := (some 24)) (k := 2) K rfl K K K K rfl hs410 rfl (src_rdt (E := 5) K (rowT_rd (SP.get hs410 (i := 1) rfl))) hl411 ?_
    rw [hyl412]
    intro A413 c414 w415 (hs417 : SP [] w0 w415 [rowT 5 eU8 A413 c414 l412, rowT 5 eU8 (some ⟨g407, 0, none⟩) (List.length ([(0 : UInt8)] : List UInt8)) ([(0 : UInt8)] : List UInt8)])
    refine In.run' 1 (k' := 4) rfl [(5, (.slice A413 (List.length l412) c414))] K ?_
    refine In.fin K ?_
    exact ⟨l412, A413, c414, ⟨K, K, trivial⟩, SP.sel hs417 [0] rfl rfl, H⟩
   ·have H := cf H hb406
    refine At.exit K (id := 0) K ?_
    refine At.sq K ?_
    refine At.sq K ?_
    refine At.region K K ?_
    refine In.run' 1 (k' := 1) rfl [(7, (.int .i64 0))] K ?_
    refine In.fin K ?_
    refine At.bk K (id := 2) K ?_
    refine At.lp K (fun f6 ρ w => ∃ (v473 : (List UInt8)) (v474 : Int) (A471 : Option Addr) (c472 : Nat), Known ρ [(1, (.int .u8 ((p5).toNat : Int))), (5, (.slice A471 (List.length v473) c472)), (7, (.int .i64 v474))] ∧ SP [] w0 w [rowT 5 eU8 A471 c472 v473] ∧ L_subwayref03_padded_l6 (L_subwayref03_padded_l4 p5 f5) p5 f6 v473 v474 = some r) (by rintro ρ w ⟨v473, v474, A471, c472, hk, hs, H⟩; cases H) ?_ fuel ?_
    ·rintro f6 ρ w469 ⟨v473, v474, A471, c472, hk, hs470, H⟩
     refine At.known [(1, (.int .u8 ((p5).toNat : Int))), (5, (.slice A471 (List.length v473) c472)), (7, (.int .i64 v474))] hk ?_
     replace H := (show L_subwayref03_padded_b6 (L_subwayref03_padded_l4 p5 f5) (L_subwayref03_padded_l6 (L_subwayref03_padded_l4 p5 f5) p5 f6) p5 v473 v474 = some r from H)
     unfold L_subwayref03_padded_b6 at H
     refine At.sq K ?_
     refine At.sq K ?_
     refine At.region K K ?_
     refine In.run' 2 (k' := 2) rfl [(25, (.int .i64 v474)), (26, (.bool (decide (v474 < 64))))] K ?_
     refine In.fin K ?_
     refine At.cd K (o := (.tmp 26)) K (b := (decide (v474 < 64))) K (fun hb498 => ?_) (fun hb498 => ?_)
     ·have H := ct H hb498
      refine At.skip K ?_
      refine At.sq K ?_
      refine At.bk K (id := 3) K ?_
      refine At.region K K ?_
      refine In.run' 4 (k' := 4) rfl [(29, (.slice A471 (List.length v473) c472)), (30, (.int .i64 v474)), (31, (.slice A471 (List.length v473) c472)), (32, (.int .i64 v474))] K ?_
      obtain ⟨x499, hp500, hq501, hx502, H⟩ := idx_elim H
      refine In.step (k' := 5) rfl K ?_
      refine Step.elem (e := eU8) (l := v473) (A := A471) (c := c472) (T := 50) (E := 5) (x := (.tmp 31)) (ix := (.tmp 32)) (ki := .i64) (iz := v474) (d := (some 33)) (k := 4) K rfl K K K K (rowT_rd (SP.get hs470 (i := 0) rfl)) hp500 hq501 ?_
      intro b503 o504 hA506 hb507 hc505
      refine In.step (k' := 6) rfl K ?_
      refine Step.cell (t := 5) (x := (.tmp 33)) (b := b503) (off := (o504 + Int.toNat v474 * eU8.sz)) (v := (.int .u8 ((x499).toNat : Int))) (d := (some 34)) (k := 5) K rfl K K (elem_cell (e := eU8) (rdt_cells (rowT_rd (SP.get hs470 (i := 0) rfl)) hA506 hp500 hq501) hx502 (j := 0) rfl) ?_
      refine In.run' 2 (k' := 8) rfl [(35, (.int .u8 ((p5).toNat : Int))), (36, (.int .u8 (bXor .u8 ((x499).toNat : Int) ((p5).toNat : Int))))] K ?_
      obtain ⟨x508, hp509, hq510, hx511, H⟩ := idx_elim H
      refine In.step (k' := 9) rfl K ?_
      refine Step.elem (e := eU8) (l := v473) (A := A471) (c := c472) (T := 50) (E := 5) (x := (.tmp 29)) (ix := (.tmp 30)) (ki := .i64) (iz := v474) (d := (some 37)) (k := 8) K rfl K K K K (rowT_rd (SP.get hs470 (i := 0) rfl)) hp509 hq510 ?_
      intro b512 o513 hA515 hb516 hc514
      replace H := some_bind_elim H
      obtain ⟨l517, hyl517⟩ : ∃ y, (List.set v473 (Int.toNat v474) (toU8 (bXor .u8 ((x499).toNat : Int) ((p5).toNat : Int)))) = y := ⟨_, rfl⟩
      rw [hyl517] at H
      have hnl517 : List.length l517 = List.length v473 := by rw [← hyl517, List.length_set]
      refine In.step (k' := 10) rfl K ?_
      refine Step.storeElem (e := eU8) (t := 5) (E := 5) (x := (.tmp 37)) (y := (.tmp 36)) (A := A471) (c := c472) (l := v473) (iz := v474) (b := b512) (off := o513) (i := 0) (v := (.int .u8 (bXor .u8 ((x499).toNat : Int) ((p5).toNat : Int)))) (x' := (toU8 (bXor .u8 ((x499).toNat : Int) ((p5).toNat : Int)))) (d := none) (k := 9) K rfl K K hs470 rfl hA515 rfl hq510 hp509 (by show [Value.int .u8 (((toU8 (bXor .u8 ((x499).toNat : Int) ((p5).toNat : Int)))).toNat : Int)] = _; rw [u8_back (u8_xor _ _)]) K ?_
      rw [hyl517]
      intro w518 (hs520 : SP [] w0 w518 [rowT 5 eU8 A471 c472 l517])
      refine In.known [(5, (.slice A471 (List.length l517) c472)), (29, (.slice A471 (List.length l517) c472)), (31, (.slice A471 (List.length l517) c472))] ⟨(by rw [hnl517]; kernel_rfl), (by rw [hnl517]; kernel_rfl), (by rw [hnl517]; kernel_rfl), trivial⟩ ?_
      refine In.fin K ?_
      refine At.region K K ?_
      refine In.run' 3 (k' := 3) rfl [(27, (.int .i64 v474)), (28, (.int .i64 (IntKind.wrap .i64 (v474 + 1)))), (7, (.int .i64 (IntKind.wrap .i64 (v474 + 1))))] K ?_
      refine In.fin K ?_
      exact ⟨l517, (IntKind.wrap .i64 (v474 + 1)), A471, c472, ⟨K, K, K, trivial⟩, SP.sel hs520 [0] rfl rfl, H⟩
     ·have H := cf H hb498
      refine At.exit K (id := 2) K ?_
      refine At.sq K ?_
      refine At.region K K ?_
      refine In.run' 2 (k' := 2) rfl [(38, (.slice A471 (List.length v473) c472)), (4, (.slice A471 (List.length v473) c472))] K ?_
      refine In.fin K ?_
      refine At.ret K ?_
      refine ⟨(.slice A471 (List.length v473) c472), K, ?_⟩
      obtain rfl := some_elim H
      exact ⟨A471, c472, rfl, SP.sel hs470 [0] rfl rfl⟩
    ·exact ⟨v290, 0, A288, c289, ⟨K, K, K, trivial⟩, SP.sel hs287 [0] rfl rfl, H⟩
  ·exact ⟨v47, A45, c46, ⟨K, K, trivial⟩, SP.sel hs49 [0] rfl rfl, H⟩
/-! L_subwayref03_Mac -/
def L_subwayref03_Mac (p1 : (List UInt8)) (p5 : (List UInt8)) : Option ((List UInt8)) :=
  ((L_subwayref03_padded p1 (54 : UInt8)).bind fun z13 => ((app z13 p5).bind fun l22 => ((L_subwayref02_Sum l22).bind fun z28 => ((chk (Nat.beq (List.length z28) 32)).bind fun _ => ((L_subwayref03_padded p1 (92 : UInt8)).bind fun z42 => ((app z42 z28).bind fun l51 => ((L_subwayref02_Sum l51).bind fun z57 => ((chk (Nat.beq (List.length z57) 32)).bind fun _ => (some (z57))))))))))
set_option maxRecDepth 100000 in
set_option maxHeartbeats 4000000 in
theorem L_subwayref03_Mac_walk (A2 : Option Addr) (c3 : Nat) (A6 : Option Addr) (c7 : Nat) (p1 : (List UInt8)) (p5 : (List UInt8)) (w0 : World) (hr4 : RdT eU8 w0 A2 c3 p1) (hr8 : RdT eU8 w0 A6 c7 p5) (r : ((List UInt8))) (H : L_subwayref03_Mac p1 p5 = some r) :
  Calls Tryd.prog 31 #[(.slice A2 (List.length p1) c3), (.slice A6 (List.length p5) c7)] w0 (fun e w' => e = .returned (.agg (cellsOf eU8 r).toArray) ∧ SP [] w0 w' []) := by
 unfold L_subwayref03_Mac at H
 refine calls_go (n := 16) Tryd.func31 K K K ?_
 have hs0 := SP.start [] w0
 refine At.sq K ?_
 refine At.region K K ?_
 refine In.step (k' := 1) rfl K ?_
 refine Step.allocA (e := eU8) (l := (List.replicate 32 (0 : UInt8))) (m := 32) (t := 69) (z := .agg (cellsOf eU8 (List.replicate 32 (0 : UInt8))).toArray) (d := (some 4)) (k := 0) K rfl K rfl rfl K hs0 ?_
 intro g9 w10 (hs12 : SP [] w0 w10 [arrE 69 eU8 g9 32 (List.replicate 32 (0 : UInt8))])
 refine In.fin K ?_
 refine At.sq K ?_
 refine At.region K K ?_
 refine In.run' 1 (k' := 1) rfl [(6, (.slice A2 (List.length p1) c3))] K ?_
 obtain ⟨z13, hz14, H⟩ := bind_elim H
 refine In.step (k' := 2) rfl K ?_
 refine Step.callF (f := 39) (fo := (.func 39)) (xs := #[(.tmp 6), (.const (.int .u8 (54)))]) (tys := #[50, 5]) (first := #[]) (captured := #[]) (d := (some 7)) (k := 1) K rfl K K Tryd.call39 (L_subwayref03_padded_walk A2 c3 p1 (54 : UInt8) w10 (RdT.sp hr4 hs12) z13 hz14) ?_
 rintro e w15 ⟨A17, c18, rfl, hs16⟩
 refine ⟨_, rfl, ?_⟩
 have hs20 : SP [] w0 w15 [arrE 69 eU8 g9 32 (List.replicate 32 (0 : UInt8)), rowT 5 eU8 A17 c18 z13] := SP.call hs12 hs16
 clear hs16
 refine In.run' 1 (k' := 3) rfl [(8, (.slice A6 (List.length p5) c7))] K ?_
 obtain ⟨hl21, H⟩ := app_elim H
 obtain ⟨l22, hyl22⟩ : ∃ y, z13 ++ p5 = y := ⟨_, rfl⟩
 rw [hyl22] at H
 refine In.step (k' := 4) rfl K ?_
 refine Step.append (e := eU8) (l := z13) (m := p5) (A := A17) (c := c18) (T := 50) (TX := 50) (E := 5) (b := 1) (s := (.tmp 7)) (x := (.tmp 8)) (i := 1) (vx := (.slice A6 (List.length p5) c7)) (d := (some 9)) (k := 3) K rfl K K K K rfl hs20 rfl (src_rdt (E := 5) K (RdT.sp hr8 hs20)) hl21 ?_
 rw [hyl22]
 intro A23 c24 w25 (hs27 : SP [] w0 w25 [arrE 69 eU8 g9 32 (List.replicate 32 (0 : UInt8)), rowT 5 eU8 A23 c24 l22])
 obtain ⟨z28, hz29, H⟩ := bind_elim H
 obtain ⟨ha30, H⟩ := chk_elim H
 replace ha30 := Nat.eq_of_beq_eq_true ha30
 refine In.step (k' := 5) rfl K ?_
 refine Step.callF (f := 38) (fo := (.func 38)) (xs := #[(.tmp 9)]) (tys := #[50]) (first := #[]) (captured := #[]) (d := (some 10)) (k := 4) K rfl K K Tryd.call38 (L_subwayref02_Sum_walk A23 c24 l22 w25 (rowT_rd (SP.get hs27 (i := 1) rfl)) z28 hz29) ?_
 rintro e w31 ⟨rfl, hs32⟩
 refine ⟨_, rfl, ?_⟩
 have hs34 : SP [] w0 w31 [arrE 69 eU8 g9 32 (List.replicate 32 (0 : UInt8)), rowT 5 eU8 A23 c24 l22] := SP.call hs27 hs32
 clear hs32
 refine In.step (k' := 6) rfl K ?_
 refine Step.allocA (e := eU8) (l := (List.replicate 32 (0 : UInt8))) (m := 32) (t := 69) (z := .agg (cellsOf eU8 (List.replicate 32 (0 : UInt8))).toArray) (d := (some 5)) (k := 5) K rfl K rfl rfl K hs34 ?_
 intro g35 w36 (hs38 : SP [] w0 w36 [arrE 69 eU8 g9 32 (List.replicate 32 (0 : UInt8)), rowT 5 eU8 A23 c24 l22, arrE 69 eU8 g35 32 (List.replicate 32 (0 : UInt8))])
 refine In.step (k' := 7) rfl K ?_
 refine Step.storeA (e := eU8) (l := (List.replicate 32 (0 : UInt8))) (l' := z28) (m := 32) (t := 69) (x := (.tmp 5)) (y := (.tmp 10)) (g := g35) (i := 2) (d := none) (k := 6) K rfl K K ha30 hs38 rfl K ?_
 intro w39 (hs41 : SP [] w0 w39 [arrE 69 eU8 g9 32 (List.replicate 32 (0 : UInt8)), rowT 5 eU8 A23 c24 l22, arrE 69 eU8 g35 32 z28])
 refine In.fin K ?_
 refine At.sq K ?_
 obtain ⟨z42, hz43, H⟩ := bind_elim H
 obtain ⟨hl50, H⟩ := app_elim H
 obtain ⟨l51, hyl51⟩ : ∃ y, z42 ++ z28 = y := ⟨_, rfl⟩
 rw [hyl51] at H
 obtain ⟨z57, hz58, H⟩ := bind_elim H
 obtain ⟨ha59, H⟩ := chk_elim H
 replace ha59 := Nat.eq_of_beq_eq_true ha59
 refine At.stages K K K K K [GEq (.slice A2 (List.length p1) c3), GAny, GEq (.slice (some ⟨g35, 0, none⟩) (List.length z28) 32), GAny, GEq (.agg (cellsOf eU8 z57).toArray), GAny] [1, 3, 4, 5] [([], fun vs w => VL vs [] ∧ SP [] w0 w [arrE 69 eU8 g9 32 (List.replicate 32 (0 : UInt8)), rowT 5 eU8 A23 c24 l22, arrE 69 eU8 g35 32 z28]), ([1], fun vs w => ∃ (A69 : Option Addr), ∃ (c70 : Nat), VL vs [(.slice A69 (List.length z42) c70)] ∧ SP [] w0 w [arrE 69 eU8 g9 32 (List.replicate 32 (0 : UInt8)), rowT 5 eU8 A23 c24 l22, arrE 69 eU8 g35 32 z28, rowT 5 eU8 A69 c70 z42]), ([1, 3], fun vs w => ∃ (A75 : Option Addr), ∃ (c76 : Nat), ∃ (A79 : Option Addr), ∃ (c80 : Nat), VL vs [(.slice A75 (List.length z42) c76), (.slice A79 (List.length l51) c80)] ∧ SP [] w0 w [arrE 69 eU8 g9 32 (List.replicate 32 (0 : UInt8)), rowT 5 eU8 A23 c24 l22, arrE 69 eU8 g35 32 z28, rowT 5 eU8 A79 c80 l51]), ([1, 3, 4], fun vs w => ∃ (A86 : Option Addr), ∃ (c87 : Nat), ∃ (A90 : Option Addr), ∃ (c91 : Nat), VL vs [(.slice A86 (List.length z42) c87), (.slice A90 (List.length l51) c91), (.agg (cellsOf eU8 z57).toArray)] ∧ SP [] w0 w [arrE 69 eU8 g9 32 (List.replicate 32 (0 : UInt8)), rowT 5 eU8 A23 c24 l22, arrE 69 eU8 g35 32 z28, rowT 5 eU8 A90 c91 l51]), ([1, 3, 4, 5], fun vs w => ∃ (A101 : Option Addr), ∃ (c102 : Nat), ∃ (A105 : Option Addr), ∃ (c106 : Nat), VL vs [(.slice A101 (List.length z42) c102), (.slice A105 (List.length l51) c106), (.agg (cellsOf eU8 z57).toArray), undef] ∧ SP [] w0 w [arrE 69 eU8 g9 32 z57, rowT 5 eU8 A23 c24 l22, arrE 69 eU8 g35 32 z28, rowT 5 eU8 A105 c106 l51])] (N := 6) K ⟨K, Nat.zero_lt_succ _⟩ (show VL [] [] ∧ SP [] w0 w39.drew [arrE 69 eU8 g9 32 (List.replicate 32 (0 : UInt8)), rowT 5 eU8 A23 c24 l22, arrE 69 eU8 g35 32 z28] from ⟨trivial, SP.drew hs41⟩) ⟨⟨⟨⟨⟨⟨trivial, ?_⟩, ?_⟩, ?_⟩, ?_⟩, ?_⟩, ?_⟩ (last := 4) K ?_
 ·exact Owe.run K [(0, (.slice A2 (List.length p1) c3))] ⟨gS K K, trivial⟩ (.slice A2 (List.length p1) c3) (fun _ _ => K) rfl
 ·refine Owe.heavy K [(0, 1)] K (all_cons ⟨K, K, ?_⟩ all_nil)
  ·rintro ρ' w' hs hah ⟨hvl118, hs117⟩
   have hkn : Known ρ' [(11, (.slice A2 (List.length p1) c3))] := ⟨hah 0 11 K, trivial⟩
   refine Step.known _ hkn ?_
   refine Step.callF (f := 39) (fo := (.func 39)) (xs := #[(.tmp 11), (.const (.int .u8 (92)))]) (tys := #[50, 5]) (first := #[]) (captured := #[]) (d := (some 12)) (k := 1) K rfl K K Tryd.call39 (L_subwayref03_padded_walk A2 c3 p1 (92 : UInt8) w' (RdT.sp hr4 hs117) z42 hz43) ?_
   rintro e w119 ⟨A121, c122, rfl, hs120⟩
   refine ⟨_, rfl, ?_⟩
   have hs124 : SP [] w0 w119 [arrE 69 eU8 g9 32 (List.replicate 32 (0 : UInt8)), rowT 5 eU8 A23 c24 l22, arrE 69 eU8 g35 32 z28, rowT 5 eU8 A121 c122 z42] := SP.call hs117 hs120
   clear hs120
   refine ⟨_, updO_known hkn, trivial, ?_⟩
   exact (Exists.intro A121 (Exists.intro c122 (And.intro (And.intro rfl (trivial)) (hs124))))
 ·refine Owe.light K [0, 1] K (all_cons ?_ (all_cons ?_ all_nil))
  ·rintro ρ' w' hs hah ⟨hvl126, hs125⟩
   have hkn : Known ρ' [(5, (pt g35 0))] := ⟨(hs 5 K).trans K, trivial⟩
   refine Step.known _ hkn ?_
   refine Step.sliceA0 (e := eU8) (l := z28) (m := 32) (g := g35) (T := 69) (E := 5) (x := (.tmp 5)) (q := 2) (d := (some 13)) (k := 2) K rfl K K K hs125 rfl ?_
   exact ⟨rfl, _, updO_known hkn, rfl⟩
  ·rintro ρ' w' hs hah ⟨A69, c70, ⟨q128, -⟩, hs127⟩
   have hkn : Known ρ' [(5, (pt g35 0))] := ⟨(hs 5 K).trans K, trivial⟩
   refine Step.known _ hkn ?_
   refine Step.sliceA0 (e := eU8) (l := z28) (m := 32) (g := g35) (T := 69) (E := 5) (x := (.tmp 5)) (q := 2) (d := (some 13)) (k := 2) K rfl K K K hs127 rfl ?_
   exact ⟨rfl, _, updO_known hkn, rfl⟩
 ·refine Owe.heavy K [(1, 2)] K (all_cons ⟨K, K, ?_⟩ all_nil)
  ·rintro ρ' w' hs hah ⟨A69, c70, ⟨q131, -⟩, hs130⟩
   have hkn : Known ρ' [(12, (.slice A69 (List.length z42) c70)), (13, (.slice (some ⟨g35, 0, none⟩) (List.length z28) 32))] := ⟨(valF_eq (h := 1) K).symm.trans q131, hah 2 13 K, trivial⟩
   refine Step.known _ hkn ?_
   refine Step.append (e := eU8) (l := z42) (m := z28) (A := A69) (c := c70) (T := 50) (TX := 50) (E := 5) (b := 1) (s := (.tmp 12)) (x := (.tmp 13)) (i := 3) (vx := (.slice (some ⟨g35, 0, none⟩) (List.length z28) 32)) (d := (some 14)) (k := 3) K rfl K K K K rfl hs130 rfl (src_rdt (E := 5) K (arrE_rd (SP.get hs130 (i := 2) rfl))) hl50 ?_
   rw [hyl51]
   intro A133 c134 w135 (hs137 : SP [] w0 w135 [arrE 69 eU8 g9 32 (List.replicate 32 (0 : UInt8)), rowT 5 eU8 A23 c24 l22, arrE 69 eU8 g35 32 z28, rowT 5 eU8 A133 c134 l51])
   refine ⟨_, updO_known hkn, trivial, ?_⟩
   exact (Exists.intro A69 (Exists.intro c70 (Exists.intro A133 (Exists.intro c134 (And.intro (And.intro q131 (And.intro rfl (trivial))) (hs137))))))
 ·refine Owe.heavy K [(2, 3)] K (all_cons ⟨K, K, ?_⟩ all_nil)
  ·rintro ρ' w' hs hah ⟨A75, c76, A79, c80, ⟨q139, q140, -⟩, hs138⟩
   have hkn : Known ρ' [(14, (.slice A79 (List.length l51) c80))] := ⟨(valF_eq (h := 3) K).symm.trans q140, trivial⟩
   refine Step.known _ hkn ?_
   refine Step.callF (f := 38) (fo := (.func 38)) (xs := #[(.tmp 14)]) (tys := #[50]) (first := #[]) (captured := #[]) (d := (some 15)) (k := 4) K rfl K K Tryd.call38 (L_subwayref02_Sum_walk A79 c80 l51 w' (rowT_rd (SP.get hs138 (i := 3) rfl)) z57 hz58) ?_
   rintro e w142 ⟨rfl, hs143⟩
   refine ⟨_, rfl, ?_⟩
   have hs145 : SP [] w0 w142 [arrE 69 eU8 g9 32 (List.replicate 32 (0 : UInt8)), rowT 5 eU8 A23 c24 l22, arrE 69 eU8 g35 32 z28, rowT 5 eU8 A79 c80 l51] := SP.call hs138 hs143
   clear hs143
   refine ⟨_, updO_known hkn, rfl, ?_⟩
   exact (Exists.intro A75 (Exists.intro c76 (Exists.intro A79 (Exists.intro c80 (And.intro (And.intro q139 (And.intro q140 (And.intro rfl (trivial)))) (hs145))))))
 ·refine Owe.heavy K [(3, 4)] K (all_cons ⟨K, K, ?_⟩ all_nil)
  ·rintro ρ' w' hs hah ⟨A86, c87, A90, c91, ⟨q147, q148, q149, -⟩, hs146⟩
   have hkn : Known ρ' [(4, (pt g9 0)), (15, (.agg (cellsOf eU8 z57).toArray))] := ⟨(hs 4 K).trans K, (valF_eq (h := 4) K).symm.trans q149, trivial⟩
   refine Step.known _ hkn ?_
   refine Step.storeA (e := eU8) (l := (List.replicate 32 (0 : UInt8))) (l' := z57) (m := 32) (t := 69) (x := (.tmp 4)) (y := (.tmp 15)) (g := g9) (i := 0) (d := none) (k := 5) K rfl K K ha59 hs146 rfl K ?_
   intro w151 (hs153 : SP [] w0 w151 [arrE 69 eU8 g9 32 z57, rowT 5 eU8 A23 c24 l22, arrE 69 eU8 g35 32 z28, rowT 5 eU8 A90 c91 l51])
   refine ⟨_, updO_known hkn, trivial, ?_⟩
   exact (Exists.intro A86 (Exists.intro c87 (Exists.intro A90 (Exists.intro c91 (And.intro (And.intro q147 (And.intro q148 (And.intro q149 (And.intro rfl (trivial))))) (hs153))))))
 ·rintro ρ' w' hs hf ⟨A101, c102, A105, c106, ⟨q155, q156, q157, q158, -⟩, hs154⟩
  refine postKnown [(4, (pt g9 0))] ⟨(hs 4 K).trans K, trivial⟩ ?_
  obtain ⟨w160, hww160⟩ : ∃ x, w' = x := ⟨_, rfl⟩
  rw [hww160] at hs154 ⊢
  refine At.ret K ?_
  refine ⟨(.agg (cellsOf eU8 z57).toArray), res_1 K (rv_cellA (e := eU8) (l := z57) (a := 4) (t := 69) K (SP.get hs154 (i := 0) rfl) K K), ?_⟩
  obtain rfl := some_elim H
  exact ⟨rfl, SP.sel hs154 [] rfl rfl⟩
/-! L_subwayref03_Proof -/
def L_subwayref03_Proof_b1 (rec1 : (List UInt8) → Int → Option ((List UInt8))) (p1 : (List UInt8)) (p5 : (List (List UInt8))) (v72 : (List UInt8)) (v73 : Int) : Option ((List UInt8)) :=
  (cond (decide (v73 < ((List.length p5 : Nat) : Int))) ((idx p5 v73).bind fun x130 => (cond (decide (((List.length x130 : Nat) : Int) > 255)) (some (([] : List UInt8))) ((idx p5 v73).bind fun x140 => ((L_subwayref01_Text x140).bind fun z149 => ((app v72 z149).bind fun l158 => (rec1 l158 (IntKind.wrap .i64 (v73 + 1)))))))) ((L_subwayref03_Mac p1 v72).bind fun z164 => ((chk (Nat.beq (List.length z164) 32)).bind fun _ => ((L_subwayref02_Hex z164).bind fun z178 => (some (z178))))))
def L_subwayref03_Proof_l1 (p1 : (List UInt8)) (p5 : (List (List UInt8))) : Nat → (List UInt8) → Int → Option ((List UInt8))
  | 0, _, _ => none
  | f + 1, v72, v73 => L_subwayref03_Proof_b1  (L_subwayref03_Proof_l1 p1 p5 f) p1 p5 v72 v73
def L_subwayref03_Proof (p1 : (List UInt8)) (p5 : (List (List UInt8))) : Option ((List UInt8)) :=
  (L_subwayref03_Proof_l1 p1 p5 fuel ([] : List UInt8) 0)
set_option maxRecDepth 100000 in
set_option maxHeartbeats 4000000 in
theorem L_subwayref03_Proof_walk (A2 : Option Addr) (c3 : Nat) (A6 : Option Addr) (c7 : Nat) (p1 : (List UInt8)) (p5 : (List (List UInt8))) (w0 : World) (hr4 : RdT eU8 w0 A2 c3 p1) (hr8 : RdT eStr w0 A6 c7 p5) (r : ((List UInt8))) (H : L_subwayref03_Proof p1 p5 = some r) :
  Calls Tryd.prog 21 #[(.slice A2 (List.length p1) c3), (.slice A6 (List.length p5) c7)] w0 (fun e w' => e = .returned (.string ⟨List.toArray r⟩) ∧ SP [] w0 w' []) := by
 unfold L_subwayref03_Proof at H
 refine calls_go (n := 32) Tryd.func21 K K K ?_
 have hs0 := SP.start [] w0
 refine At.sq K ?_
 refine At.region K K ?_
 refine In.run' 1 (k' := 1) rfl [(4, (.string ⟨List.toArray ([] : List UInt8)⟩))] K ?_
 refine In.fin K ?_
 refine At.sq K ?_
 refine At.region K K ?_
 refine In.run' 1 (k' := 1) rfl [(5, (.slice none (List.length ([] : List UInt8)) 0))] K ?_
 refine In.fin K ?_
 refine At.sq K ?_
 refine At.sq K ?_
 refine At.region K K ?_
 refine In.run' 1 (k' := 1) rfl [(6, (.int .i64 0))] K ?_
 refine In.fin K ?_
 refine At.bk K (id := 0) K ?_
 refine At.lp K (fun f1 ρ w => ∃ (v72 : (List UInt8)) (v73 : Int) (A70 : Option Addr) (c71 : Nat), Known ρ [(0, (.slice A2 (List.length p1) c3)), (1, (.slice A6 (List.length p5) c7)), (5, (.slice A70 (List.length v72) c71)), (6, (.int .i64 v73))] ∧ SP [] w0 w [rowT 5 eU8 A70 c71 v72] ∧ L_subwayref03_Proof_l1 p1 p5 f1 v72 v73 = some r) (by rintro ρ w ⟨v72, v73, A70, c71, hk, hs, H⟩; cases H) ?_ fuel ?_
 ·rintro f1 ρ w68 ⟨v72, v73, A70, c71, hk, hs69, H⟩
  refine At.known [(0, (.slice A2 (List.length p1) c3)), (1, (.slice A6 (List.length p5) c7)), (5, (.slice A70 (List.length v72) c71)), (6, (.int .i64 v73))] hk ?_
  replace H := (show L_subwayref03_Proof_b1 (L_subwayref03_Proof_l1 p1 p5 f1) p1 p5 v72 v73 = some r from H)
  unfold L_subwayref03_Proof_b1 at H
  refine At.sq K ?_
  refine At.sq K ?_
  refine At.region K K ?_
  refine In.run' 4 (k' := 4) rfl [(8, (.int .i64 v73)), (9, (.slice A6 (List.length p5) c7)), (10, (.int .i64 ((List.length p5 : Nat) : Int))), (11, (.bool (decide (v73 < ((List.length p5 : Nat) : Int)))))] K ?_
  refine In.fin K ?_
  refine At.cd K (o := (.tmp 11)) K (b := (decide (v73 < ((List.length p5 : Nat) : Int)))) K (fun hb129 => ?_) (fun hb129 => ?_)
  ·have H := ct H hb129
   refine At.skip K ?_
   refine At.sq K ?_
   refine At.bk K (id := 1) K ?_
   refine At.sq K ?_
   refine At.sq K ?_
   refine At.region K K ?_
   refine In.run' 2 (k' := 2) rfl [(14, (.slice A6 (List.length p5) c7)), (15, (.int .i64 v73))] K ?_
   obtain ⟨x130, hp131, hq132, hx133, H⟩ := idx_elim H
   refine In.step (k' := 3) rfl K ?_
   refine Step.elem (e := eStr) (l := p5) (A := A6) (c := c7) (T := 29) (E := 9) (x := (.tmp 14)) (ix := (.tmp 15)) (ki := .i64) (iz := v73) (d := (some 16)) (k := 2) K rfl K K K K (RdT.sp hr8 hs69) hp131 hq132 ?_
   intro b134 o135 hA137 hb138 hc136
   refine In.step (k' := 4) rfl K ?_
   refine Step.cell (t := 9) (x := (.tmp 16)) (b := b134) (off := (o135 + Int.toNat v73 * eStr.sz)) (v := (.string ⟨List.toArray x130⟩)) (d := (some 17)) (k := 3) K rfl K K (elem_cell (e := eStr) (rdt_cells (RdT.sp hr8 hs69) hA137 hp131 hq132) hx133 (j := 0) rfl) ?_
   refine In.run' 2 (k' := 6) rfl [(18, (.int .i64 ((List.length x130 : Nat) : Int))), (19, (.bool (decide (((List.length x130 : Nat) : Int) > 255))))] K ?_
   refine In.fin K ?_
   refine At.cd K (o := (.tmp 19)) K (b := (decide (((List.length x130 : Nat) : Int) > 255))) K (fun hb139 => ?_) (fun hb139 => ?_)
   ·have H := ct H hb139
    refine At.sq K ?_
    refine At.region K K ?_
    refine In.run' 1 (k' := 1) rfl [(4, (.string ⟨List.toArray ([] : List UInt8)⟩))] K ?_
    refine In.fin K ?_
    refine At.ret K ?_
    refine ⟨(.string ⟨List.toArray ([] : List UInt8)⟩), K, ?_⟩
    obtain rfl := some_elim H
    exact ⟨rfl, SP.sel hs69 [] rfl rfl⟩
   ·have H := cf H hb139
    refine At.skip K ?_
    refine At.region K K ?_
    refine In.run' 3 (k' := 3) rfl [(20, (.slice A70 (List.length v72) c71)), (21, (.slice A6 (List.length p5) c7)), (22, (.int .i64 v73))] K ?_
    obtain ⟨x140, hp141, hq142, hx143, H⟩ := idx_elim H
    refine In.step (k' := 4) rfl K ?_
    refine Step.elem (e := eStr) (l := p5) (A := A6) (c := c7) (T := 29) (E := 9) (x := (.tmp 21)) (ix := (.tmp 22)) (ki := .i64) (iz := v73) (d := (some 23)) (k := 3) K rfl K K K K (RdT.sp hr8 hs69) hp141 hq142 ?_
    intro b144 o145 hA147 hb148 hc146
    refine In.step (k' := 5) rfl K ?_
    refine Step.cell (t := 9) (x := (.tmp 23)) (b := b144) (off := (o145 + Int.toNat v73 * eStr.sz)) (v := (.string ⟨List.toArray x140⟩)) (d := (some 24)) (k := 4) K rfl K K (elem_cell (e := eStr) (rdt_cells (RdT.sp hr8 hs69) hA147 hp141 hq142) hx143 (j := 0) rfl) ?_
    obtain ⟨z149, hz150, H⟩ := bind_elim H
    refine In.step (k' := 6) rfl K ?_
    refine Step.callF (f := 30) (fo := (.func 30)) (xs := #[(.tmp 24)]) (tys := #[9]) (first := #[]) (captured := #[]) (d := (some 25)) (k := 5) K rfl K K Tryd.call30 (L_subwayref01_Text_walk  x140 w68  z149 hz150) ?_
    rintro e w151 ⟨A153, c154, rfl, hs152⟩
    refine ⟨_, rfl, ?_⟩
    have hs156 : SP [] w0 w151 [rowT 5 eU8 A70 c71 v72, rowT 5 eU8 A153 c154 z149] := SP.call hs69 hs152
    clear hs152
    obtain ⟨hl157, H⟩ := app_elim H
    obtain ⟨l158, hyl158⟩ : ∃ y, v72 ++ z149 = y := ⟨_, rfl⟩
    rw [hyl158] at H
    refine In.step (k' := 7) rfl K ?_
    refine Step.append (e := eU8) (l := v72) (m := z149) (A := A70) (c := c71) (T := 50) (TX := 50) (E := 5) (b := 1) (s := (.tmp 20)) (x := (.tmp 25)) (i := 0) (vx := (.slice A153 (List.length z149) c154)) (d := (some 26)) (k := 6) K rfl K K K K rfl hs156 rfl (src_rdt (E := 5) K (rowT_rd (SP.get hs156 (i := 1) rfl))) hl157 ?_
    rw [hyl158]
    intro A159 c160 w161 (hs163 : SP [] w0 w161 [rowT 5 eU8 A159 c160 l158, rowT 5 eU8 A153 c154 z149])
    refine In.run' 1 (k' := 8) rfl [(5, (.slice A159 (List.length l158) c160))] K ?_
    refine In.fin K ?_
    refine At.region K K ?_
    refine In.run' 3 (k' := 3) rfl [(12, (.int .i64 v73)), (13, (.int .i64 (IntKind.wrap .i64 (v73 + 1)))), (6, (.int .i64 (IntKind.wrap .i64 (v73 + 1))))] K ?_
    refine In.fin K ?_
    exact ⟨l158, (IntKind.wrap .i64 (v73 + 1)), A159, c160, ⟨K, K, K, K, trivial⟩, SP.sel hs163 [0] rfl rfl, H⟩
  ·have H := cf H hb129
   refine At.exit K (id := 0) K ?_
   refine At.sq K ?_
   refine At.region K K ?_
   refine In.run' 2 (k' := 2) rfl [(27, (.slice A2 (List.length p1) c3)), (28, (.slice A70 (List.length v72) c71))] K ?_
   obtain ⟨z164, hz165, H⟩ := bind_elim H
   obtain ⟨ha166, H⟩ := chk_elim H
   replace ha166 := Nat.eq_of_beq_eq_true ha166
   refine In.step (k' := 3) rfl K ?_
   refine Step.callF (f := 31) (fo := (.func 31)) (xs := #[(.tmp 27), (.tmp 28)]) (tys := #[50, 50]) (first := #[]) (captured := #[]) (d := (some 29)) (k := 2) K rfl K K Tryd.call31 (L_subwayref03_Mac_walk A2 c3 A70 c71 p1 v72 w68 (RdT.sp hr4 hs69) (rowT_rd (SP.get hs69 (i := 0) rfl)) z164 hz165) ?_
   rintro e w167 ⟨rfl, hs168⟩
   refine ⟨_, rfl, ?_⟩
   have hs170 : SP [] w0 w167 [rowT 5 eU8 A70 c71 v72] := SP.call hs69 hs168
   clear hs168
   refine In.step (k' := 4) rfl K ?_
   refine Step.allocA (e := eU8) (l := (List.replicate 32 (0 : UInt8))) (m := 32) (t := 69) (z := .agg (cellsOf eU8 (List.replicate 32 (0 : UInt8))).toArray) (d := (some 7)) (k := 3) K rfl K rfl rfl K hs170 ?_
   intro g171 w172 (hs174 : SP [] w0 w172 [rowT 5 eU8 A70 c71 v72, arrE 69 eU8 g171 32 (List.replicate 32 (0 : UInt8))])
   refine In.step (k' := 5) rfl K ?_
   refine Step.storeA (e := eU8) (l := (List.replicate 32 (0 : UInt8))) (l' := z164) (m := 32) (t := 69) (x := (.tmp 7)) (y := (.tmp 29)) (g := g171) (i := 1) (d := none) (k := 4) K rfl K K ha166 hs174 rfl K ?_
   intro w175 (hs177 : SP [] w0 w175 [rowT 5 eU8 A70 c71 v72, arrE 69 eU8 g171 32 z164])
   refine In.fin K ?_
   refine At.sq K ?_
   refine At.region K K ?_
   refine In.step (k' := 1) rfl K ?_
   refine Step.sliceA0 (e := eU8) (l := z164) (m := 32) (g := g171) (T := 69) (E := 5) (x := (.tmp 7)) (q := 1) (d := (some 30)) (k := 0) K rfl K K K hs177 rfl ?_
   obtain ⟨z178, hz179, H⟩ := bind_elim H
   refine In.step (k' := 2) rfl K ?_
   refine Step.callF (f := 32) (fo := (.func 32)) (xs := #[(.tmp 30)]) (tys := #[50]) (first := #[]) (captured := #[]) (d := (some 31)) (k := 1) K rfl K K Tryd.call32 (L_subwayref02_Hex_walk (some ⟨g171, 0, none⟩) 32 z164 w175 (arrE_rd (SP.get hs177 (i := 1) rfl)) z178 hz179) ?_
   rintro e w180 ⟨rfl, hs181⟩
   refine ⟨_, rfl, ?_⟩
   have hs183 : SP [] w0 w180 [rowT 5 eU8 A70 c71 v72, arrE 69 eU8 g171 32 z164] := SP.call hs177 hs181
   clear hs181
   refine In.run' 1 (k' := 3) rfl [(4, (.string ⟨List.toArray z178⟩))] K ?_
   refine In.fin K ?_
   refine At.ret K ?_
   refine ⟨(.string ⟨List.toArray z178⟩), K, ?_⟩
   obtain rfl := some_elim H
   exact ⟨rfl, SP.sel hs183 [] rfl rfl⟩
 ·exact ⟨([] : List UInt8), 0, none, 0, ⟨K, K, K, K, trivial⟩, SP.sel (SP.nilrow hs0 5 eU8) [0] rfl rfl, H⟩
end Go.Proofs.YtjllaeceghmjgaaDoor
