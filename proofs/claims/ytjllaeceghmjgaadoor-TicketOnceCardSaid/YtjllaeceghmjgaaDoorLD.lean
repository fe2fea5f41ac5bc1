/- LIFTED BY PROGRAM (tools/lift.py): what functions compute, and that they do. -/
import Derived.Test.YtjllaeceghmjgaaDoorArr
namespace Go.Proofs.YtjllaeceghmjgaaDoor
set_option linter.unusedSimpArgs false
set_option linter.unusedVariables false
open Go.RowKit

/-! L_math_bits_RotateLeft32 -/
def L_math_bits_RotateLeft32 (p1 : Int) (p2 : Int) : Option (Int) :=
  ((chk (decide (0 ≤ (bAnd .u64 (IntKind.wrap .u64 p2) 31)))).bind fun _ => ((chk (decide (0 ≤ (IntKind.wrap .u64 (32 - (bAnd .u64 (IntKind.wrap .u64 p2) 31)))))).bind fun _ => (some ((bOr .u32 (bShl .u32 p1 (bAnd .u64 (IntKind.wrap .u64 p2) 31)) (bShr .u32 p1 (IntKind.wrap .u64 (32 - (bAnd .u64 (IntKind.wrap .u64 p2) 31)))))))))
set_option maxRecDepth 100000 in
set_option maxHeartbeats 4000000 in
theorem L_math_bits_RotateLeft32_walk  (p1 : Int) (p2 : Int) (w0 : World)  (r : (Int)) (H : L_math_bits_RotateLeft32 p1 p2 = some r) :
  Calls Tryd.prog 66 #[(.int .u32 p1), (.int .i64 p2)] w0 (fun e w' => e = .returned (.int .u32 r) ∧ SP [] w0 w' []) := by
 unfold L_math_bits_RotateLeft32 at H
 refine calls_go (n := 17) Tryd.func66 K K K ?_
 have hs0 := SP.start [] w0
 refine At.sq K ?_
 refine At.region K K ?_
 refine In.run' 1 (k' := 1) rfl [(4, (.int .u32 0))] K ?_
 refine In.fin K ?_
 refine At.sq K ?_
 refine At.region K K ?_
 refine In.run' 4 (k' := 4) rfl [(6, (.int .i64 p2)), (7, (.int .u64 (IntKind.wrap .u64 p2))), (8, (.int .u64 (bAnd .u64 (IntKind.wrap .u64 p2) 31))), (5, (.int .u64 (bAnd .u64 (IntKind.wrap .u64 p2) 31)))] K ?_
 refine In.fin K ?_
 refine At.sq K ?_
 refine At.region K K ?_
 refine In.run' 2 (k' := 2) rfl [(9, (.int .u32 p1)), (10, (.int .u64 (bAnd .u64 (IntKind.wrap .u64 p2) 31)))] K ?_
 obtain ⟨hl3, H⟩ := chk_elim H
 refine In.step (k' := 3) rfl K ?_
 refine Step.shift (op := .shl) (T := 81) (T' := 80) (x := (.tmp 9)) (y := (.tmp 10)) (kx := .u32) (ky := .u64) (a := p1) (b := (bAnd .u64 (IntKind.wrap .u64 p2) 31)) (v := (.int .u32 (bShl .u32 p1 (bAnd .u64 (IntKind.wrap .u64 p2) 31)))) (d := (some 11)) (k := 2) K rfl K K (of_decide_eq_true hl3) rfl ?_
 refine In.run' 3 (k' := 6) rfl [(12, (.int .u32 p1)), (13, (.int .u64 (bAnd .u64 (IntKind.wrap .u64 p2) 31))), (14, (.int .u64 (IntKind.wrap .u64 (32 - (bAnd .u64 (IntKind.wrap .u64 p2) 31)))))] K ?_
 obtain ⟨hl4, H⟩ := chk_elim H
 refine In.step (k' := 7) rfl K ?_
 refine Step.shift (op := .shr) (T := 81) (T' := 80) (x := (.tmp 12)) (y := (.tmp 14)) (kx := .u32) (ky := .u64) (a := p1) (b := (IntKind.wrap .u64 (32 - (bAnd .u64 (IntKind.wrap .u64 p2) 31)))) (v := (.int .u32 (bShr .u32 p1 (IntKind.wrap .u64 (32 - (bAnd .u64 (IntKind.wrap .u64 p2) 31)))))) (d := (some 15)) (k := 6) K rfl K K (of_decide_eq_true hl4) rfl ?_
 refine In.run' 2 (k' := 9) rfl [(16, (.int .u32 (bOr .u32 (bShl .u32 p1 (bAnd .u64 (IntKind.wrap .u64 p2) 31)) (bShr .u32 p1 (IntKind.wrap .u64 (32 - (bAnd .u64 (IntKind.wrap .u64 p2) 31))))))), (4, (.int .u32 (bOr .u32 (bShl .u32 p1 (bAnd .u64 (IntKind.wrap .u64 p2) 31)) (bShr .u32 p1 (IntKind.wrap .u64 (32 - (bAnd .u64 (IntKind.wrap .u64 p2) 31)))))))] K ?_
 refine In.fin K ?_
 refine At.ret K ?_
 refine ⟨(.int .u32 (bOr .u32 (bShl .u32 p1 (bAnd .u64 (IntKind.wrap .u64 p2) 31)) (bShr .u32 p1 (IntKind.wrap .u64 (32 - (bAnd .u64 (IntKind.wrap .u64 p2) 31)))))), K, ?_⟩
 obtain rfl := some_elim H
 exact ⟨rfl, SP.sel hs0 [] rfl rfl⟩
/-! L_digest_beginning -/
def L_digest_beginning  : Option ((List Int)) :=
  (some (([1779033703, 3144134277, 1013904242, 2773480762, 1359893119, 2600822924, 528734635, 1541459225] : List Int)))
set_option maxRecDepth 100000 in
set_option maxHeartbeats 4000000 in
theorem L_digest_beginning_walk   (w0 : World)  (r : ((List Int))) (H : L_digest_beginning  = some r) :
  Calls Tryd.prog 52 #[] w0 (fun e w' => e = .returned (.agg (cellsOf (eInt .u32) r).toArray) ∧ SP [] w0 w' []) := by
 unfold L_digest_beginning at H
 refine calls_go (n := 2) Tryd.func52 K K K ?_
 have hs0 := SP.start [] w0
 refine At.sq K ?_
 refine At.region K K ?_
 refine In.step (k' := 1) rfl K ?_
 refine Step.allocA (e := (eInt .u32)) (l := (List.replicate 8 0)) (m := 8) (t := 95) (z := .agg (cellsOf (eInt .u32) (List.replicate 8 0)).toArray) (d := (some 0)) (k := 0) K rfl K rfl rfl K hs0 ?_
 intro g1 w2 (hs4 : SP [] w0 w2 [arrE 95 (eInt .u32) g1 8 (List.replicate 8 0)])
 refine In.fin K ?_
 refine At.sq K ?_
 refine At.region K K ?_
 refine In.run' 1 (k' := 1) rfl [(1, (.agg (cellsOf (eInt .u32) ([1779033703, 3144134277, 1013904242, 2773480762, 1359893119, 2600822924, 528734635, 1541459225] : List Int)).toArray))] K ?_
 refine In.step (k' := 2) rfl K ?_
 refine Step.storeA (e := (eInt .u32)) (l := (List.replicate 8 0)) (l' := ([1779033703, 3144134277, 1013904242, 2773480762, 1359893119, 2600822924, 528734635, 1541459225] : List Int)) (m := 8) (t := 95) (x := (.tmp 0)) (y := (.tmp 1)) (g := g1) (i := 0) (d := none) (k := 1) K rfl K K rfl hs4 rfl K ?_
 intro w5 (hs7 : SP [] w0 w5 [arrE 95 (eInt .u32) g1 8 ([1779033703, 3144134277, 1013904242, 2773480762, 1359893119, 2600822924, 528734635, 1541459225] : List Int)])
 refine In.fin K ?_
 refine At.ret K ?_
 refine ⟨(.agg (cellsOf (eInt .u32) ([1779033703, 3144134277, 1013904242, 2773480762, 1359893119, 2600822924, 528734635, 1541459225] : List Int)).toArray), res_1 K (rv_cellA (e := (eInt .u32)) (l := ([1779033703, 3144134277, 1013904242, 2773480762, 1359893119, 2600822924, 528734635, 1541459225] : List Int)) (a := 0) (t := 95) K (SP.get hs7 (i := 0) rfl) K K), ?_⟩
 obtain rfl := some_elim H
 exact ⟨rfl, SP.sel hs7 [] rfl rfl⟩
/-! L_digest_roots -/
def L_digest_roots  : Option ((List Int)) :=
  (some (([1116352408, 1899447441, 3049323471, 3921009573, 961987163, 1508970993, 2453635748, 2870763221, 3624381080, 310598401, 607225278, 1426881987, 1925078388, 2162078206, 2614888103, 3248222580, 3835390401, 4022224774, 264347078, 604807628, 770255983, 1249150122, 1555081692, 1996064986, 2554220882, 2821834349, 2952996808, 3210313671, 3336571891, 3584528711, 113926993, 338241895, 666307205, 773529912, 1294757372, 1396182291, 1695183700, 1986661051, 2177026350, 2456956037, 2730485921, 2820302411, 3259730800, 3345764771, 3516065817, 3600352804, 4094571909, 275423344, 430227734, 506948616, 659060556, 883997877, 958139571, 1322822218, 1537002063, 1747873779, 1955562222, 2024104815, 2227730452, 2361852424, 2428436474, 2756734187, 3204031479, 3329325298] : List Int)))
set_option maxRecDepth 100000 in
set_option maxHeartbeats 4000000 in
theorem L_digest_roots_walk   (w0 : World)  (r : ((List Int))) (H : L_digest_roots  = some r) :
  Calls Tryd.prog 62 #[] w0 (fun e w' => e = .returned (.agg (cellsOf (eInt .u32) r).toArray) ∧ SP [] w0 w' []) := by
 unfold L_digest_roots at H
 refine calls_go (n := 2) Tryd.func62 K K K ?_
 have hs0 := SP.start [] w0
 refine At.sq K ?_
 refine At.region K K ?_
 refine In.step (k' := 1) rfl K ?_
 refine Step.allocA (e := (eInt .u32)) (l := (List.replicate 64 0)) (m := 64) (t := 91) (z := .agg (cellsOf (eInt .u32) (List.replicate 64 0)).toArray) (d := (some 0)) (k := 0) K rfl K rfl rfl K hs0 ?_
 intro g1 w2 (hs4 : SP [] w0 w2 [arrE 91 (eInt .u32) g1 64 (List.replicate 64 0)])
 refine In.fin K ?_
 refine At.sq K ?_
 refine At.region K K ?_
 refine In.run' 1 (k' := 1) rfl [(1, (.agg (cellsOf (eInt .u32) ([1116352408, 1899447441, 3049323471, 3921009573, 961987163, 1508970993, 2453635748, 2870763221, 3624381080, 310598401, 607225278, 1426881987, 1925078388, 2162078206, 2614888103, 3248222580, 3835390401, 4022224774, 264347078, 604807628, 770255983, 1249150122, 1555081692, 1996064986, 2554220882, 2821834349, 2952996808, 3210313671, 3336571891, 3584528711, 113926993, 338241895, 666307205, 773529912, 1294757372, 1396182291, 1695183700, 1986661051, 2177026350, 2456956037, 2730485921, 2820302411, 3259730800, 3345764771, 3516065817, 3600352804, 4094571909, 275423344, 430227734, 506948616, 659060556, 883997877, 958139571, 1322822218, 1537002063, 1747873779, 1955562222, 2024104815, 2227730452, 2361852424, 2428436474, 2756734187, 3204031479, 3329325298] : List Int)).toArray))] K ?_
 refine In.step (k' := 2) rfl K ?_
 refine Step.storeA (e := (eInt .u32)) (l := (List.replicate 64 0)) (l' := ([1116352408, 1899447441, 3049323471, 3921009573, 961987163, 1508970993, 2453635748, 2870763221, 3624381080, 310598401, 607225278, 1426881987, 1925078388, 2162078206, 2614888103, 3248222580, 3835390401, 4022224774, 264347078, 604807628, 770255983, 1249150122, 1555081692, 1996064986, 2554220882, 2821834349, 2952996808, 3210313671, 3336571891, 3584528711, 113926993, 338241895, 666307205, 773529912, 1294757372, 1396182291, 1695183700, 1986661051, 2177026350, 2456956037, 2730485921, 2820302411, 3259730800, 3345764771, 3516065817, 3600352804, 4094571909, 275423344, 430227734, 506948616, 659060556, 883997877, 958139571, 1322822218, 1537002063, 1747873779, 1955562222, 2024104815, 2227730452, 2361852424, 2428436474, 2756734187, 3204031479, 3329325298] : List Int)) (m := 64) (t := 91) (x := (.tmp 0)) (y := (.tmp 1)) (g := g1) (i := 0) (d := none) (k := 1) K rfl K K rfl hs4 rfl K ?_
 intro w5 (hs7 : SP [] w0 w5 [arrE 91 (eInt .u32) g1 64 ([1116352408, 1899447441, 3049323471, 3921009573, 961987163, 1508970993, 2453635748, 2870763221, 3624381080, 310598401, 607225278, 1426881987, 1925078388, 2162078206, 2614888103, 3248222580, 3835390401, 4022224774, 264347078, 604807628, 770255983, 1249150122, 1555081692, 1996064986, 2554220882, 2821834349, 2952996808, 3210313671, 3336571891, 3584528711, 113926993, 338241895, 666307205, 773529912, 1294757372, 1396182291, 1695183700, 1986661051, 2177026350, 2456956037, 2730485921, 2820302411, 3259730800, 3345764771, 3516065817, 3600352804, 4094571909, 275423344, 430227734, 506948616, 659060556, 883997877, 958139571, 1322822218, 1537002063, 1747873779, 1955562222, 2024104815, 2227730452, 2361852424, 2428436474, 2756734187, 3204031479, 3329325298] : List Int)])
 refine In.fin K ?_
 refine At.ret K ?_
 refine ⟨(.agg (cellsOf (eInt .u32) ([1116352408, 1899447441, 3049323471, 3921009573, 961987163, 1508970993, 2453635748, 2870763221, 3624381080, 310598401, 607225278, 1426881987, 1925078388, 2162078206, 2614888103, 3248222580, 3835390401, 4022224774, 264347078, 604807628, 770255983, 1249150122, 1555081692, 1996064986, 2554220882, 2821834349, 2952996808, 3210313671, 3336571891, 3584528711, 113926993, 338241895, 666307205, 773529912, 1294757372, 1396182291, 1695183700, 1986661051, 2177026350, 2456956037, 2730485921, 2820302411, 3259730800, 3345764771, 3516065817, 3600352804, 4094571909, 275423344, 430227734, 506948616, 659060556, 883997877, 958139571, 1322822218, 1537002063, 1747873779, 1955562222, 2024104815, 2227730452, 2361852424, 2428436474, 2756734187, 3204031479, 3329325298] : List Int)).toArray), res_1 K (rv_cellA (e := (eInt .u32)) (l := ([1116352408, 1899447441, 3049323471, 3921009573, 961987163, 1508970993, 2453635748, 2870763221, 3624381080, 310598401, 607225278, 1426881987, 1925078388, 2162078206, 2614888103, 3248222580, 3835390401, 4022224774, 264347078, 604807628, 770255983, 1249150122, 1555081692, 1996064986, 2554220882, 2821834349, 2952996808, 3210313671, 3336571891, 3584528711, 113926993, 338241895, 666307205, 773529912, 1294757372, 1396182291, 1695183700, 1986661051, 2177026350, 2456956037, 2730485921, 2820302411, 3259730800, 3345764771, 3516065817, 3600352804, 4094571909, 275423344, 430227734, 506948616, 659060556, 883997877, 958139571, 1322822218, 1537002063, 1747873779, 1955562222, 2024104815, 2227730452, 2361852424, 2428436474, 2756734187, 3204031479, 3329325298] : List Int)) (a := 0) (t := 91) K (SP.get hs7 (i := 0) rfl) K K), ?_⟩
 obtain rfl := some_elim H
 exact ⟨rfl, SP.sel hs7 [] rfl rfl⟩
/-! L_digest_mixed -/
def L_digest_mixed_k1 (p1 : Int) (p2 : (List Int)) (v25 : Int) : Option (Int) :=
  ((idx p2 0).bind fun x29 => ((L_math_bits_RotateLeft32 p1 (IntKind.wrap .i64 (0 - x29))).bind fun z33 => ((idx p2 1).bind fun x39 => ((L_math_bits_RotateLeft32 p1 (IntKind.wrap .i64 (0 - x39))).bind fun z43 => (some ((bXor .u32 (bXor .u32 z33 z43) v25)))))))
def L_digest_mixed (p1 : Int) (p2 : (List Int)) (p4 : Bool) : Option (Int) :=
  ((idx p2 2).bind fun x9 => ((L_math_bits_RotateLeft32 p1 (IntKind.wrap .i64 (0 - x9))).bind fun z13 => (cond p4 ((idx p2 2).bind fun x103 => ((chk (decide (0 ≤ x103))).bind fun _ => (L_digest_mixed_k1 p1 p2 (bShr .u32 p1 x103)))) (L_digest_mixed_k1 p1 p2 z13))))
set_option maxRecDepth 100000 in
set_option maxHeartbeats 4000000 in
theorem L_digest_mixed_walk  (p1 : Int) (p2 : (List Int)) (p4 : Bool) (w0 : World) (ha3 : List.length p2 = 3) (r : (Int)) (H : L_digest_mixed p1 p2 p4 = some r) :
  Calls Tryd.prog 63 #[(.int .u32 p1), (.agg (cellsOf (eInt .i64) p2).toArray), (.bool p4)] w0 (fun e w' => e = .returned (.int .u32 r) ∧ SP [] w0 w' []) := by
 unfold L_digest_mixed at H
 refine calls_go (n := 31) Tryd.func63 K K K ?_
 have hs0 := SP.start [] w0
 refine At.sq K ?_
 refine At.region K K ?_
 refine In.step (k' := 1) rfl K ?_
 refine Step.boxA (e := (eInt .i64)) (l := p2) (m := 3) (t := 105) (x := (.tmp 1)) (d := (some 4)) (k := 0) K rfl K ha3 K hs0 ?_
 intro g5 w6 (hs8 : SP [] w0 w6 [arrE 105 (eInt .i64) g5 3 p2])
 refine In.run' 1 (k' := 2) rfl [(6, (.int .u32 0))] K ?_
 refine In.fin K ?_
 refine At.sq K ?_
 refine At.region K K ?_
 refine In.run' 1 (k' := 1) rfl [(8, (.int .u32 p1))] K ?_
 obtain ⟨x9, hp10, hq11, hx12, H⟩ := idx_elim H
 refine In.step (k' := 2) rfl K ?_
 refine Step.elemA (e := (eInt .i64)) (l := p2) (m := 3) (g := g5) (T := 105) (E := 3) (x := (.tmp 4)) (ix := (.const (.int .i64 (2)))) (ki := .i64) (iz := 2) (i := 0) (d := (some 9)) (k := 1) K rfl K K K K hs8 rfl hp10 hq11 ?_
 refine In.step (k' := 3) rfl K ?_
 refine Step.cell (t := 3) (x := (.tmp 9)) (b := g5) (off := (0 + Int.toNat 2 * (eInt .i64).sz)) (v := (.int .i64 x9)) (d := (some 10)) (k := 2) K rfl K K (elem_cell (e := (eInt .i64)) (rdt_cells (arrE_rd (SP.get hs8 (i := 0) rfl)) rfl hp10 hq11) hx12 (j := 0) rfl) ?_
 refine In.run' 1 (k' := 4) rfl [(11, (.int .i64 (IntKind.wrap .i64 (0 - x9))))] K ?_
 obtain ⟨z13, hz14, H⟩ := bind_elim H
 refine In.step (k' := 5) rfl K ?_
 refine Step.callF (f := 66) (fo := (.func 66)) (xs := #[(.tmp 8), (.tmp 11)]) (tys := #[81, 3]) (first := #[]) (captured := #[]) (d := (some 12)) (k := 4) K rfl K K Tryd.call66 (L_math_bits_RotateLeft32_walk  p1 (IntKind.wrap .i64 (0 - x9)) w6  z13 hz14) ?_
 rintro e w15 ⟨rfl, hs16⟩
 refine ⟨_, rfl, ?_⟩
 have hs18 : SP [] w0 w15 [arrE 105 (eInt .i64) g5 3 p2] := SP.call hs8 hs16
 clear hs16
 refine In.run' 1 (k' := 6) rfl [(7, (.int .u32 z13))] K ?_
 refine In.fin K ?_
 refine At.sq K ?_
 refine At.sq K ?_
 refine At.region K K ?_
 refine In.run' 1 (k' := 1) rfl [(13, (.bool p4))] K ?_
 refine In.fin K ?_
 refine At.join (fun ρ w => ∃ (v25 : Int), Known ρ [(0, (.int .u32 p1)), (4, (pt g5 0)), (7, (.int .u32 v25))] ∧ SP [] w0 w [arrE 105 (eInt .i64) g5 3 p2] ∧ L_digest_mixed_k1 p1 p2 v25 = some r) ?_ ?_
 ·refine At.cd K (o := (.tmp 13)) K (b := p4) K (fun hb102 => ?_) (fun hb102 => ?_)
  ·have H := ct H hb102
   refine At.region K K ?_
   refine In.run' 1 (k' := 1) rfl [(14, (.int .u32 p1))] K ?_
   obtain ⟨x103, hp104, hq105, hx106, H⟩ := idx_elim H
   refine In.step (k' := 2) rfl K ?_
   refine Step.elemA (e := (eInt .i64)) (l := p2) (m := 3) (g := g5) (T := 105) (E := 3) (x := (.tmp 4)) (ix := (.const (.int .i64 (2)))) (ki := .i64) (iz := 2) (i := 0) (d := (some 15)) (k := 1) K rfl K K K K hs18 rfl hp104 hq105 ?_
   refine In.step (k' := 3) rfl K ?_
   refine Step.cell (t := 3) (x := (.tmp 15)) (b := g5) (off := (0 + Int.toNat 2 * (eInt .i64).sz)) (v := (.int .i64 x103)) (d := (some 16)) (k := 2) K rfl K K (elem_cell (e := (eInt .i64)) (rdt_cells (arrE_rd (SP.get hs18 (i := 0) rfl)) rfl hp104 hq105) hx106 (j := 0) rfl) ?_
   obtain ⟨hl107, H⟩ := chk_elim H
   refine In.step (k' := 4) rfl K ?_
   refine Step.shift (op := .shr) (T := 81) (T' := 3) (x := (.tmp 14)) (y := (.tmp 16)) (kx := .u32) (ky := .i64) (a := p1) (b := x103) (v := (.int .u32 (bShr .u32 p1 x103))) (d := (some 17)) (k := 3) K rfl K K (of_decide_eq_true hl107) rfl ?_
   refine In.run' 1 (k' := 5) rfl [(7, (.int .u32 (bShr .u32 p1 x103)))] K ?_
   refine In.fin K ?_
   exact ⟨(bShr .u32 p1 x103), ⟨K, K, K, trivial⟩, SP.sel hs18 [0] rfl rfl, H⟩
  ·have H := cf H hb102
   refine At.skip K ?_
   exact ⟨z13, ⟨K, K, K, trivial⟩, SP.sel hs18 [0] rfl rfl, H⟩
 ·rintro ρ w26 ⟨v25, hk, hs27, H⟩
  unfold L_digest_mixed_k1 at H
  first | refine At.known [(0, (.int .u32 p1)), (4, (pt g5 0)), (7, (.int .u32 v25))] hk ?_ | rw [← known_updL (l := [(0, (.int .u32 p1)), (4, (pt g5 0)), (7, (.int .u32 v25))]) hk]
  have ha28 := arrE_len (SP.get hs27 (i := 0) rfl)
  refine At.sq K ?_
  obtain ⟨x29, hp30, hq31, hx32, H⟩ := idx_elim H
  obtain ⟨z33, hz34, H⟩ := bind_elim H
  obtain ⟨x39, hp40, hq41, hx42, H⟩ := idx_elim H
  obtain ⟨z43, hz44, H⟩ := bind_elim H
  refine At.stages K K K K K [GEq (.int .u32 p1), GElem0 (some ⟨g5, 0, none⟩) (eInt .i64).sz 0, GEq (.int .i64 x29), GEq (.int .i64 (IntKind.wrap .i64 (0 - x29))), GEq (.int .u32 z33), GEq (.int .u32 p1), GElem0 (some ⟨g5, 0, none⟩) (eInt .i64).sz 1, GEq (.int .i64 x39), GEq (.int .i64 (IntKind.wrap .i64 (0 - x39))), GEq (.int .u32 z43), GEq (.int .u32 (bXor .u32 z33 z43)), GEq (.int .u32 v25), GEq (.int .u32 (bXor .u32 (bXor .u32 z33 z43) v25)), GEq (.int .u32 (bXor .u32 (bXor .u32 z33 z43) v25))] [4, 9] [([], fun vs w => VL vs [] ∧ SP [] w0 w [arrE 105 (eInt .i64) g5 3 p2]), ([4], fun vs w => VL vs [(.int .u32 z33)] ∧ SP [] w0 w [arrE 105 (eInt .i64) g5 3 p2]), ([4, 9], fun vs w => VL vs [(.int .u32 z33), (.int .u32 z43)] ∧ SP [] w0 w [arrE 105 (eInt .i64) g5 3 p2])] (N := 14) K ⟨K, Nat.zero_lt_succ _⟩ (show VL [] [] ∧ SP [] w0 w26.drew [arrE 105 (eInt .i64) g5 3 p2] from ⟨trivial, SP.drew hs27⟩) ⟨⟨⟨⟨⟨⟨⟨⟨⟨⟨⟨⟨⟨⟨trivial, ?_⟩, ?_⟩, ?_⟩, ?_⟩, ?_⟩, ?_⟩, ?_⟩, ?_⟩, ?_⟩, ?_⟩, ?_⟩, ?_⟩, ?_⟩, ?_⟩ (last := 2) K ?_
  ·exact Owe.run K [(0, (.int .u32 p1))] ⟨gS K K, trivial⟩ (.int .u32 p1) (fun _ _ => K) rfl
  ·refine Owe.light K [0] K (all_cons ?_ all_nil)
   ·rintro ρ' w' hs hah ⟨hvl62, hs61⟩
    have hkn : Known ρ' [(4, (pt g5 0))] := ⟨(hs 4 K).trans K, trivial⟩
    refine Step.known _ hkn ?_
    refine Step.elemA (e := (eInt .i64)) (l := p2) (m := 3) (g := g5) (T := 105) (E := 3) (x := (.tmp 4)) (ix := (.const (.int .i64 (0)))) (ki := .i64) (iz := 0) (i := 0) (d := (some 19)) (k := 1) K rfl K K K K hs61 rfl hp30 hq31 ?_
    exact ⟨rfl, _, updO_known hkn, ⟨g5, 0, rfl, rfl⟩⟩
  ·refine Owe.light K [0] K (all_cons ?_ all_nil)
   ·rintro ρ' w' hs hah ⟨hvl64, hs63⟩
    obtain ⟨b65, o66, hA67, e19⟩ := hah 1 19 K
    have hkn : Known ρ' [(19, (.pointer (some ⟨b65, (o66 + Int.toNat 0 * (eInt .i64).sz), none⟩)))] := ⟨e19, trivial⟩
    refine Step.known _ hkn ?_
    refine Step.cell (t := 3) (x := (.tmp 19)) (b := b65) (off := (o66 + Int.toNat 0 * (eInt .i64).sz)) (v := (.int .i64 x29)) (d := (some 20)) (k := 2) K rfl K K (elem_cell (e := (eInt .i64)) (rdt_cells (arrE_rd (SP.get hs63 (i := 0) rfl)) hA67 hp30 hq31) hx32 (j := 0) rfl) ?_
    exact ⟨rfl, _, updO_known hkn, rfl⟩
  ·exact Owe.run K [(20, (.int .i64 x29))] ⟨gA 2 K K, trivial⟩ (.int .i64 (IntKind.wrap .i64 (0 - x29))) (fun _ _ => K) rfl
  ·refine Owe.heavy K [(0, 1)] K (all_cons ⟨K, K, ?_⟩ all_nil)
   ·rintro ρ' w' hs hah ⟨hvl69, hs68⟩
    have hkn : Known ρ' [(18, (.int .u32 p1)), (21, (.int .i64 (IntKind.wrap .i64 (0 - x29))))] := ⟨hah 0 18 K, hah 3 21 K, trivial⟩
    refine Step.known _ hkn ?_
    refine Step.callF (f := 66) (fo := (.func 66)) (xs := #[(.tmp 18), (.tmp 21)]) (tys := #[81, 3]) (first := #[]) (captured := #[]) (d := (some 22)) (k := 4) K rfl K K Tryd.call66 (L_math_bits_RotateLeft32_walk  p1 (IntKind.wrap .i64 (0 - x29)) w'  z33 hz34) ?_
    rintro e w70 ⟨rfl, hs71⟩
    refine ⟨_, rfl, ?_⟩
    have hs73 : SP [] w0 w70 [arrE 105 (eInt .i64) g5 3 p2] := SP.call hs68 hs71
    clear hs71
    refine ⟨_, updO_known hkn, rfl, ?_⟩
    exact (And.intro (And.intro rfl (trivial)) (hs73))
  ·exact Owe.run K [(0, (.int .u32 p1))] ⟨gS K K, trivial⟩ (.int .u32 p1) (fun _ _ => K) rfl
  ·refine Owe.light K [0, 1] K (all_cons ?_ (all_cons ?_ all_nil))
   ·rintro ρ' w' hs hah ⟨hvl75, hs74⟩
    have hkn : Known ρ' [(4, (pt g5 0))] := ⟨(hs 4 K).trans K, trivial⟩
    refine Step.known _ hkn ?_
    refine Step.elemA (e := (eInt .i64)) (l := p2) (m := 3) (g := g5) (T := 105) (E := 3) (x := (.tmp 4)) (ix := (.const (.int .i64 (1)))) (ki := .i64) (iz := 1) (i := 0) (d := (some 24)) (k := 6) K rfl K K K K hs74 rfl hp40 hq41 ?_
    exact ⟨rfl, _, updO_known hkn, ⟨g5, 0, rfl, rfl⟩⟩
   ·rintro ρ' w' hs hah ⟨⟨q77, -⟩, hs76⟩
    have hkn : Known ρ' [(4, (pt g5 0))] := ⟨(hs 4 K).trans K, trivial⟩
    refine Step.known _ hkn ?_
    refine Step.elemA (e := (eInt .i64)) (l := p2) (m := 3) (g := g5) (T := 105) (E := 3) (x := (.tmp 4)) (ix := (.const (.int .i64 (1)))) (ki := .i64) (iz := 1) (i := 0) (d := (some 24)) (k := 6) K rfl K K K K hs76 rfl hp40 hq41 ?_
    exact ⟨rfl, _, updO_known hkn, ⟨g5, 0, rfl, rfl⟩⟩
  ·refine Owe.light K [0, 1] K (all_cons ?_ (all_cons ?_ all_nil))
   ·rintro ρ' w' hs hah ⟨hvl80, hs79⟩
    obtain ⟨b81, o82, hA83, e24⟩ := hah 6 24 K
    have hkn : Known ρ' [(24, (.pointer (some ⟨b81, (o82 + Int.toNat 1 * (eInt .i64).sz), none⟩)))] := ⟨e24, trivial⟩
    refine Step.known _ hkn ?_
    refine Step.cell (t := 3) (x := (.tmp 24)) (b := b81) (off := (o82 + Int.toNat 1 * (eInt .i64).sz)) (v := (.int .i64 x39)) (d := (some 25)) (k := 7) K rfl K K (elem_cell (e := (eInt .i64)) (rdt_cells (arrE_rd (SP.get hs79 (i := 0) rfl)) hA83 hp40 hq41) hx42 (j := 0) rfl) ?_
    exact ⟨rfl, _, updO_known hkn, rfl⟩
   ·rintro ρ' w' hs hah ⟨⟨q85, -⟩, hs84⟩
    obtain ⟨b87, o88, hA89, e24⟩ := hah 6 24 K
    have hkn : Known ρ' [(24, (.pointer (some ⟨b87, (o88 + Int.toNat 1 * (eInt .i64).sz), none⟩)))] := ⟨e24, trivial⟩
    refine Step.known _ hkn ?_
    refine Step.cell (t := 3) (x := (.tmp 24)) (b := b87) (off := (o88 + Int.toNat 1 * (eInt .i64).sz)) (v := (.int .i64 x39)) (d := (some 25)) (k := 7) K rfl K K (elem_cell (e := (eInt .i64)) (rdt_cells (arrE_rd (SP.get hs84 (i := 0) rfl)) hA89 hp40 hq41) hx42 (j := 0) rfl) ?_
    exact ⟨rfl, _, updO_known hkn, rfl⟩
  ·exact Owe.run K [(25, (.int .i64 x39))] ⟨gA 7 K K, trivial⟩ (.int .i64 (IntKind.wrap .i64 (0 - x39))) (fun _ _ => K) rfl
  ·refine Owe.heavy K [(1, 2)] K (all_cons ⟨K, K, ?_⟩ all_nil)
   ·rintro ρ' w' hs hah ⟨⟨q91, -⟩, hs90⟩
    have hkn : Known ρ' [(23, (.int .u32 p1)), (26, (.int .i64 (IntKind.wrap .i64 (0 - x39))))] := ⟨hah 5 23 K, hah 8 26 K, trivial⟩
    refine Step.known _ hkn ?_
    refine Step.callF (f := 66) (fo := (.func 66)) (xs := #[(.tmp 23), (.tmp 26)]) (tys := #[81, 3]) (first := #[]) (captured := #[]) (d := (some 27)) (k := 9) K rfl K K Tryd.call66 (L_math_bits_RotateLeft32_walk  p1 (IntKind.wrap .i64 (0 - x39)) w'  z43 hz44) ?_
    rintro e w93 ⟨rfl, hs94⟩
    refine ⟨_, rfl, ?_⟩
    have hs96 : SP [] w0 w93 [arrE 105 (eInt .i64) g5 3 p2] := SP.call hs90 hs94
    clear hs94
    refine ⟨_, updO_known hkn, rfl, ?_⟩
    exact (And.intro (And.intro q91 (And.intro rfl (trivial))) (hs96))
  ·exact Owe.run K [(22, (.int .u32 z33)), (27, (.int .u32 z43))] ⟨gA 4 K K, gA 9 K K, trivial⟩ (.int .u32 (bXor .u32 z33 z43)) (fun _ _ => K) rfl
  ·exact Owe.run K [(7, (.int .u32 v25))] ⟨gS K K, trivial⟩ (.int .u32 v25) (fun _ _ => K) rfl
  ·exact Owe.run K [(28, (.int .u32 (bXor .u32 z33 z43))), (29, (.int .u32 v25))] ⟨gA 10 K K, gA 11 K K, trivial⟩ (.int .u32 (bXor .u32 (bXor .u32 z33 z43) v25)) (fun _ _ => K) rfl
  ·exact Owe.run K [(30, (.int .u32 (bXor .u32 (bXor .u32 z33 z43) v25)))] ⟨gA 12 K K, trivial⟩ (.int .u32 (bXor .u32 (bXor .u32 z33 z43) v25)) (fun _ _ => K) rfl
  ·rintro ρ' w' hs hf ⟨⟨q98, q99, -⟩, hs97⟩
   refine postKnown [(6, (.int .u32 (bXor .u32 (bXor .u32 z33 z43) v25)))] ⟨hf 13 6 K, trivial⟩ ?_
   obtain ⟨w101, hww101⟩ : ∃ x, w' = x := ⟨_, rfl⟩
   rw [hww101] at hs97 ⊢
   refine At.ret K ?_
   refine ⟨(.int .u32 (bXor .u32 (bXor .u32 z33 z43) v25)), K, ?_⟩
   obtain rfl := some_elim H
   exact ⟨rfl, SP.sel hs97 [] rfl rfl⟩
/-! L_digest_words -/
def L_digest_words_b5 (rec4 : (List Int) → Int → Option ((List Int))) (rec5 : (List Int) → Int → Option ((List Int))) (v2596 : (List Int)) (v2597 : Int) : Option ((List Int)) :=
  (cond (decide (v2597 < 64)) ((idx v2596 (IntKind.wrap .i64 (v2597 - 2))).bind fun x2776 => ((L_digest_mixed x2776 ([17, 19, 10] : List Int) true).bind fun z2780 => ((idx v2596 (IntKind.wrap .i64 (v2597 - 7))).bind fun x2786 => ((idx v2596 (IntKind.wrap .i64 (v2597 - 15))).bind fun x2790 => ((L_digest_mixed x2790 ([7, 18, 3] : List Int) true).bind fun z2794 => ((idx v2596 (IntKind.wrap .i64 (v2597 - 16))).bind fun x2800 => ((idx v2596 v2597).bind fun x2804 => ((some (List.set v2596 (Int.toNat v2597) (IntKind.wrap .u32 ((IntKind.wrap .u32 ((IntKind.wrap .u32 (z2780 + x2786)) + z2794)) + x2800)))).bind fun l2808 => (rec5 l2808 (IntKind.wrap .i64 (v2597 + 1))))))))))) (some (v2596)))
def L_digest_words_l5 (rec4 : (List Int) → Int → Option ((List Int))) : Nat → (List Int) → Int → Option ((List Int))
  | 0, _, _ => none
  | f + 1, v2596, v2597 => L_digest_words_b5 rec4 (L_digest_words_l5 rec4 f) v2596 v2597
def L_digest_words_b3 (rec4 : (List Int) → Int → Option ((List Int))) (l16 : (List UInt8)) (v1484 : (List Int)) (v1485 : Int) : Option ((List Int)) :=
  (cond (decide (v1485 < ((List.length l16 : Nat) : Int))) ((idx l16 v1485).bind fun x2220 => ((idx v1484 (IntKind.wrap .i64 (Int.tdiv v1485 4))).bind fun x2229 => ((idx v1484 (IntKind.wrap .i64 (Int.tdiv v1485 4))).bind fun x2233 => ((some (List.set v1484 (Int.toNat (IntKind.wrap .i64 (Int.tdiv v1485 4))) (bOr .u32 (bShl .u32 x2229 8) (IntKind.wrap .u32 ((x2220).toNat : Int))))).bind fun l2237 => (rec4 l2237 (IntKind.wrap .i64 (v1485 + 1))))))) (L_digest_words_l5 rec4 fuel v1484 16))
def L_digest_words_l3 (l16 : (List UInt8)) : Nat → (List Int) → Int → Option ((List Int))
  | 0, _, _ => none
  | f + 1, v1484, v1485 => L_digest_words_b3  (L_digest_words_l3 l16 f) l16 v1484 v1485
def L_digest_words (p1 : (List UInt8)) : Option ((List Int)) :=
  ((sub p1 0 64).bind fun l16 => (L_digest_words_l3 l16 fuel (List.replicate 64 0) 0))
set_option maxRecDepth 100000 in
set_option maxHeartbeats 4000000 in
theorem L_digest_words_walk (A2 : Option Addr) (c3 : Nat) (p1 : (List UInt8)) (w0 : World) (hr4 : RdT eU8 w0 A2 c3 p1) (r : ((List Int))) (H : L_digest_words p1 = some r) :
  Calls Tryd.prog 54 #[(.slice A2 (List.length p1) c3)] w0 (fun e w' => e = .returned (.agg (cellsOf (eInt .u32) r).toArray) ∧ SP [] w0 w' []) := by
 unfold L_digest_words at H
 refine calls_go (n := 57) Tryd.func54 K K K ?_
 have hs0 := SP.start [] w0
 refine At.sq K ?_
 refine At.region K K ?_
 refine In.step (k' := 1) rfl K ?_
 refine Step.allocA (e := (eInt .u32)) (l := (List.replicate 64 0)) (m := 64) (t := 91) (z := .agg (cellsOf (eInt .u32) (List.replicate 64 0)).toArray) (d := (some 2)) (k := 0) K rfl K rfl rfl K hs0 ?_
 intro g5 w6 (hs8 : SP [] w0 w6 [arrE 91 (eInt .u32) g5 64 (List.replicate 64 0)])
 refine In.fin K ?_
 refine At.sq K ?_
 refine At.region K K ?_
 refine In.step (k' := 1) rfl K ?_
 refine Step.allocA (e := (eInt .u32)) (l := (List.replicate 64 0)) (m := 64) (t := 91) (z := .agg (cellsOf (eInt .u32) (List.replicate 64 0)).toArray) (d := (some 3)) (k := 0) K rfl K rfl rfl K hs8 ?_
 intro g9 w10 (hs12 : SP [] w0 w10 [arrE 91 (eInt .u32) g5 64 (List.replicate 64 0), arrE 91 (eInt .u32) g9 64 (List.replicate 64 0)])
 refine In.fin K ?_
 refine At.sq K ?_
 refine At.sq K ?_
 refine At.region K K ?_
 refine In.run' 1 (k' := 1) rfl [(7, (.slice A2 (List.length p1) c3))] K ?_
 obtain ⟨hz13, hz14, hz15, H⟩ := sub_elim H
 obtain ⟨l16, hyl16⟩ : ∃ y, (List.drop (Int.toNat 0) (List.take (Int.toNat 64) p1)) = y := ⟨_, rfl⟩
 rw [hyl16] at H
 refine In.step (k' := 2) rfl K ?_
 refine Step.slice2 (e := eU8) (l := p1) (m := l16) (A := A2) (c := c3) (T := 50) (E := 5) (x := (.tmp 7)) (lo := none) (hi := (some (.const (.int .i64 (64))))) (i := 0) (j := 64) (d := (some 8)) (k := 1) K rfl K K K rfl ⟨.i64, K⟩ (RdX.le (RdT.sp hr4 hs12)) hz13 hz14 hz15 hyl16 ?_
 refine In.run' 2 (k' := 4) rfl [(9, (.int .i64 ((List.length l16 : Nat) : Int))), (10, (.int .i64 0))] K ?_
 refine In.fin K ?_
 refine At.bk K (id := 0) K ?_
 refine At.lp K (fun f4 ρ w => ∃ (v1484 : (List Int)) (v1485 : Int), Known ρ [(2, (pt g5 0)), (3, (pt g9 0)), (8, (.slice (cutA eU8.sz c3 (Int.toNat 0) A2) (List.length l16) (c3 - Int.toNat 0))), (9, (.int .i64 ((List.length l16 : Nat) : Int))), (10, (.int .i64 v1485))] ∧ SP [] w0 w [arrE 91 (eInt .u32) g5 64 (List.replicate 64 0), arrE 91 (eInt .u32) g9 64 v1484] ∧ L_digest_words_l3 l16 f4 v1484 v1485 = some r) (by rintro ρ w ⟨v1484, v1485, hk, hs, H⟩; cases H) ?_ fuel ?_
 ·rintro f4 ρ w1482 ⟨v1484, v1485, hk, hs1483, H⟩
  refine At.known [(2, (pt g5 0)), (3, (pt g9 0)), (8, (.slice (cutA eU8.sz c3 (Int.toNat 0) A2) (List.length l16) (c3 - Int.toNat 0))), (9, (.int .i64 ((List.length l16 : Nat) : Int))), (10, (.int .i64 v1485))] hk ?_
  replace H := (show L_digest_words_b3 (L_digest_words_l3 l16 f4) l16 v1484 v1485 = some r from H)
  unfold L_digest_words_b3 at H
  have ha2217 := arrE_len (SP.get hs1483 (i := 0) rfl)
  have ha2218 := arrE_len (SP.get hs1483 (i := 1) rfl)
  refine At.sq K ?_
  refine At.region K K ?_
  refine In.run' 1 (k' := 1) rfl [(11, (.bool (decide (v1485 < ((List.length l16 : Nat) : Int)))))] K ?_
  refine In.fin K ?_
  refine At.sq K ?_
  refine At.cd K (o := (.tmp 11)) K (b := (decide (v1485 < ((List.length l16 : Nat) : Int)))) K (fun hb2219 => ?_) (fun hb2219 => ?_)
  ·have H := ct H hb2219
   refine At.skip K ?_
   refine At.sq K ?_
   refine At.bk K (id := 1) K ?_
   refine At.sq K ?_
   refine At.region K K ?_
   refine In.run' 1 (k' := 1) rfl [(12, (.int .i64 v1485))] K ?_
   obtain ⟨x2220, hp2221, hq2222, hx2223, H⟩ := idx_elim H
   refine In.step (k' := 2) rfl K ?_
   refine Step.elem (e := eU8) (l := l16) (A := (cutA eU8.sz c3 (Int.toNat 0) A2)) (c := (c3 - Int.toNat 0)) (T := 50) (E := 5) (x := (.tmp 8)) (ix := (.tmp 10)) (ki := .i64) (iz := v1485) (d := (some 13)) (k := 1) K rfl K K K K ((cut_rd hz13 hz14 hz15 hyl16) w1482 (RdT.sp hr4 hs1483)) hp2221 hq2222 ?_
   intro b2224 o2225 hA2227 hb2228 hc2226
   refine In.step (k' := 3) rfl K ?_
   refine Step.cell (t := 5) (x := (.tmp 13)) (b := b2224) (off := (o2225 + Int.toNat v1485 * eU8.sz)) (v := (.int .u8 ((x2220).toNat : Int))) (d := (some 14)) (k := 2) K rfl K K (elem_cell (e := eU8) (rdt_cells ((cut_rd hz13 hz14 hz15 hyl16) w1482 (RdT.sp hr4 hs1483)) hA2227 hp2221 hq2222) hx2223 (j := 0) rfl) ?_
   refine In.run' 2 (k' := 5) rfl [(4, (.int .i64 v1485)), (5, (.int .u8 ((x2220).toNat : Int)))] K ?_
   refine In.fin K ?_
   refine At.region K K ?_
   refine In.run' 4 (k' := 4) rfl [(15, (.int .i64 v1485)), (16, (.int .i64 (IntKind.wrap .i64 (Int.tdiv v1485 4)))), (17, (.int .i64 v1485)), (18, (.int .i64 (IntKind.wrap .i64 (Int.tdiv v1485 4))))] K ?_
   obtain ⟨x2229, hp2230, hq2231, hx2232, H⟩ := idx_elim H
   refine In.step (k' := 5) rfl K ?_
   refine Step.elemA (e := (eInt .u32)) (l := v1484) (m := 64) (g := g9) (T := 91) (E := 81) (x := (.tmp 3)) (ix := (.tmp 18)) (ki := .i64) (iz := (IntKind.wrap .i64 (Int.tdiv v1485 4))) (i := 1) (d := (some 19)) (k := 4) K rfl K K K K hs1483 rfl hp2230 hq2231 ?_
   refine In.step (k' := 6) rfl K ?_
   refine Step.cell (t := 81) (x := (.tmp 19)) (b := g9) (off := (0 + Int.toNat (IntKind.wrap .i64 (Int.tdiv v1485 4)) * (eInt .u32).sz)) (v := (.int .u32 x2229)) (d := (some 20)) (k := 5) K rfl K K (elem_cell (e := (eInt .u32)) (rdt_cells (arrE_rd (SP.get hs1483 (i := 1) rfl)) rfl hp2230 hq2231) hx2232 (j := 0) rfl) ?_
   refine In.run' 4 (k' := 10) rfl [(21, (.int .u32 (bShl .u32 x2229 8))), (22, (.int .u8 ((x2220).toNat : Int))), (23, (.int .u32 (IntKind.wrap .u32 ((x2220).toNat : Int)))), (24, (.int .u32 (bOr .u32 (bShl .u32 x2229 8) (IntKind.wrap .u32 ((x2220).toNat : Int)))))] K ?_
   obtain ⟨x2233, hp2234, hq2235, hx2236, H⟩ := idx_elim H
   refine In.step (k' := 11) rfl K ?_
   refine Step.elemA (e := (eInt .u32)) (l := v1484) (m := 64) (g := g9) (T := 91) (E := 81) (x := (.tmp 3)) (ix := (.tmp 16)) (ki := .i64) (iz := (IntKind.wrap .i64 (Int.tdiv v1485 4))) (i := 1) (d := (some 25)) (k := 10) K rfl K K K K hs1483 rfl hp2234 hq2235 ?_
   replace H := some_bind_elim H
   obtain ⟨l2237, hyl2237⟩ : ∃ y, (List.set v1484 (Int.toNat (IntKind.wrap .i64 (Int.tdiv v1485 4))) (bOr .u32 (bShl .u32 x2229 8) (IntKind.wrap .u32 ((x2220).toNat : Int)))) = y := ⟨_, rfl⟩
   rw [hyl2237] at H
   have hnl2237 : List.length l2237 = List.length v1484 := by rw [← hyl2237, List.length_set]
   refine In.step (k' := 12) rfl K ?_
   refine Step.storeElemA (e := (eInt .u32)) (t := 81) (x := (.tmp 25)) (y := (.tmp 24)) (l := v1484) (iz := (IntKind.wrap .i64 (Int.tdiv v1485 4))) (m := 64) (g := g9) (b := g9) (off := 0) (i := 1) (v := (.int .u32 (bOr .u32 (bShl .u32 x2229 8) (IntKind.wrap .u32 ((x2220).toNat : Int))))) (x' := (bOr .u32 (bShl .u32 x2229 8) (IntKind.wrap .u32 ((x2220).toNat : Int)))) (d := none) (k := 11) K rfl rfl K K hs1483 rfl rfl hq2235 hp2234 rfl K ?_
   rw [hyl2237]
   intro w2238 (hs2240 : SP [] w0 w2238 [arrE 91 (eInt .u32) g5 64 (List.replicate 64 0), arrE 91 (eInt .u32) g9 64 l2237])
   refine In.known [] trivial ?_
   refine In.fin K ?_
   refine At.region K K ?_
   refine In.run' 2 (k' := 2) rfl [(26, (.int .i64 (IntKind.wrap .i64 (v1485 + 1)))), (10, (.int .i64 (IntKind.wrap .i64 (v1485 + 1))))] K ?_
   refine In.fin K ?_
   exact ⟨l2237, (IntKind.wrap .i64 (v1485 + 1)), ⟨K, K, K, K, K, trivial⟩, SP.sel hs2240 [0, 1] rfl rfl, H⟩
  ·have H := cf H hb2219
   refine At.exit K (id := 0) K ?_
   refine At.sq K ?_
   refine At.sq K ?_
   refine At.region K K ?_
   refine In.run' 1 (k' := 1) rfl [(6, (.int .i64 16))] K ?_
   refine In.fin K ?_
   refine At.bk K (id := 2) K ?_
   refine At.lp K (fun f5 ρ w => ∃ (v2596 : (List Int)) (v2597 : Int), Known ρ [(2, (pt g5 0)), (3, (pt g9 0)), (6, (.int .i64 v2597))] ∧ SP [] w0 w [arrE 91 (eInt .u32) g5 64 (List.replicate 64 0), arrE 91 (eInt .u32) g9 64 v2596] ∧ L_digest_words_l5 (L_digest_words_l3 l16 f4) f5 v2596 v2597 = some r) (by rintro ρ w ⟨v2596, v2597, hk, hs, H⟩; cases H) ?_ fuel ?_
   ·rintro f5 ρ w2594 ⟨v2596, v2597, hk, hs2595, H⟩
    refine At.known [(2, (pt g5 0)), (3, (pt g9 0)), (6, (.int .i64 v2597))] hk ?_
    replace H := (show L_digest_words_b5 (L_digest_words_l3 l16 f4) (L_digest_words_l5 (L_digest_words_l3 l16 f4) f5) v2596 v2597 = some r from H)
    unfold L_digest_words_b5 at H
    have ha2773 := arrE_len (SP.get hs2595 (i := 0) rfl)
    have ha2774 := arrE_len (SP.get hs2595 (i := 1) rfl)
    refine At.sq K ?_
    refine At.sq K ?_
    refine At.region K K ?_
    refine In.run' 2 (k' := 2) rfl [(27, (.int .i64 v2597)), (28, (.bool (decide (v2597 < 64))))] K ?_
    refine In.fin K ?_
    refine At.cd K (o := (.tmp 28)) K (b := (decide (v2597 < 64))) K (fun hb2775 => ?_) (fun hb2775 => ?_)
    ·have H := ct H hb2775
     refine At.skip K ?_
     refine At.sq K ?_
     refine At.bk K (id := 3) K ?_
     obtain ⟨x2776, hp2777, hq2778, hx2779, H⟩ := idx_elim H
     obtain ⟨z2780, hz2781, H⟩ := bind_elim H
     obtain ⟨x2786, hp2787, hq2788, hx2789, H⟩ := idx_elim H
     obtain ⟨x2790, hp2791, hq2792, hx2793, H⟩ := idx_elim H
     obtain ⟨z2794, hz2795, H⟩ := bind_elim H
     obtain ⟨x2800, hp2801, hq2802, hx2803, H⟩ := idx_elim H
     obtain ⟨x2804, hp2805, hq2806, hx2807, H⟩ := idx_elim H
     replace H := some_bind_elim H
     obtain ⟨l2808, hyl2808⟩ : ∃ y, (List.set v2596 (Int.toNat v2597) (IntKind.wrap .u32 ((IntKind.wrap .u32 ((IntKind.wrap .u32 (z2780 + x2786)) + z2794)) + x2800))) = y := ⟨_, rfl⟩
     rw [hyl2808] at H
     have hnl2808 : List.length l2808 = List.length v2596 := by rw [← hyl2808, List.length_set]
     refine At.stages K K K K K [GEq (.int .i64 v2597), GEq (.int .i64 v2597), GEq (.int .i64 (IntKind.wrap .i64 (v2597 - 2))), GElem0 (some ⟨g9, 0, none⟩) (eInt .u32).sz (IntKind.wrap .i64 (v2597 - 2)), GEq (.int .u32 x2776), GEq (.agg (cellsOf (eInt .i64) ([17, 19, 10] : List Int)).toArray), GEq (.int .u32 z2780), GEq (.int .i64 v2597), GEq (.int .i64 (IntKind.wrap .i64 (v2597 - 7))), GElem0 (some ⟨g9, 0, none⟩) (eInt .u32).sz (IntKind.wrap .i64 (v2597 - 7)), GEq (.int .u32 x2786), GEq (.int .u32 (IntKind.wrap .u32 (z2780 + x2786))), GEq (.int .i64 v2597), GEq (.int .i64 (IntKind.wrap .i64 (v2597 - 15))), GElem0 (some ⟨g9, 0, none⟩) (eInt .u32).sz (IntKind.wrap .i64 (v2597 - 15)), GEq (.int .u32 x2790), GEq (.agg (cellsOf (eInt .i64) ([7, 18, 3] : List Int)).toArray), GEq (.int .u32 z2794), GEq (.int .u32 (IntKind.wrap .u32 ((IntKind.wrap .u32 (z2780 + x2786)) + z2794))), GEq (.int .i64 v2597), GEq (.int .i64 (IntKind.wrap .i64 (v2597 - 16))), GElem0 (some ⟨g9, 0, none⟩) (eInt .u32).sz (IntKind.wrap .i64 (v2597 - 16)), GEq (.int .u32 x2800), GEq (.int .u32 (IntKind.wrap .u32 ((IntKind.wrap .u32 ((IntKind.wrap .u32 (z2780 + x2786)) + z2794)) + x2800))), GElem0 (some ⟨g9, 0, none⟩) (eInt .u32).sz v2597, GAny] [6, 17, 25] [([], fun vs w => VL vs [] ∧ SP [] w0 w [arrE 91 (eInt .u32) g5 64 (List.replicate 64 0), arrE 91 (eInt .u32) g9 64 v2596]), ([6], fun vs w => VL vs [(.int .u32 z2780)] ∧ SP [] w0 w [arrE 91 (eInt .u32) g5 64 (List.replicate 64 0), arrE 91 (eInt .u32) g9 64 v2596]), ([6, 17], fun vs w => VL vs [(.int .u32 z2780), (.int .u32 z2794)] ∧ SP [] w0 w [arrE 91 (eInt .u32) g5 64 (List.replicate 64 0), arrE 91 (eInt .u32) g9 64 v2596]), ([6, 17, 25], fun vs w => VL vs [(.int .u32 z2780), (.int .u32 z2794), undef] ∧ SP [] w0 w [arrE 91 (eInt .u32) g5 64 (List.replicate 64 0), arrE 91 (eInt .u32) g9 64 l2808])] (N := 26) K ⟨K, Nat.zero_lt_succ _⟩ (show VL [] [] ∧ SP [] w0 w2594.drew [arrE 91 (eInt .u32) g5 64 (List.replicate 64 0), arrE 91 (eInt .u32) g9 64 v2596] from ⟨trivial, SP.drew hs2595⟩) ⟨⟨⟨⟨⟨⟨⟨⟨⟨⟨⟨⟨⟨⟨⟨⟨⟨⟨⟨⟨⟨⟨⟨⟨⟨⟨trivial, ?_⟩, ?_⟩, ?_⟩, ?_⟩, ?_⟩, ?_⟩, ?_⟩, ?_⟩, ?_⟩, ?_⟩, ?_⟩, ?_⟩, ?_⟩, ?_⟩, ?_⟩, ?_⟩, ?_⟩, ?_⟩, ?_⟩, ?_⟩, ?_⟩, ?_⟩, ?_⟩, ?_⟩, ?_⟩, ?_⟩ (last := 3) K ?_
     ·exact Owe.run K [(6, (.int .i64 v2597))] ⟨gS K K, trivial⟩ (.int .i64 v2597) (fun _ _ => K) rfl
     ·exact Owe.run K [(6, (.int .i64 v2597))] ⟨gS K K, trivial⟩ (.int .i64 v2597) (fun _ _ => K) rfl
     ·exact Owe.run K [(32, (.int .i64 v2597))] ⟨gA 1 K K, trivial⟩ (.int .i64 (IntKind.wrap .i64 (v2597 - 2))) (fun _ _ => K) rfl
     ·refine Owe.light K [0] K (all_cons ?_ all_nil)
      ·rintro ρ' w' hs hah ⟨hvl2836, hs2835⟩
       have hkn : Known ρ' [(3, (pt g9 0)), (33, (.int .i64 (IntKind.wrap .i64 (v2597 - 2))))] := ⟨(hs 3 K).trans K, hah 2 33 K, trivial⟩
       refine Step.known _ hkn ?_
       refine Step.elemA (e := (eInt .u32)) (l := v2596) (m := 64) (g := g9) (T := 91) (E := 81) (x := (.tmp 3)) (ix := (.tmp 33)) (ki := .i64) (iz := (IntKind.wrap .i64 (v2597 - 2))) (i := 1) (d := (some 34)) (k := 3) K rfl K K K K hs2835 rfl hp2777 hq2778 ?_
       exact ⟨rfl, _, updO_known hkn, ⟨g9, 0, rfl, rfl⟩⟩
     ·refine Owe.light K [0] K (all_cons ?_ all_nil)
      ·rintro ρ' w' hs hah ⟨hvl2838, hs2837⟩
       obtain ⟨b2839, o2840, hA2841, e34⟩ := hah 3 34 K
       have hkn : Known ρ' [(34, (.pointer (some ⟨b2839, (o2840 + Int.toNat (IntKind.wrap .i64 (v2597 - 2)) * (eInt .u32).sz), none⟩)))] := ⟨e34, trivial⟩
       refine Step.known _ hkn ?_
       refine Step.cell (t := 81) (x := (.tmp 34)) (b := b2839) (off := (o2840 + Int.toNat (IntKind.wrap .i64 (v2597 - 2)) * (eInt .u32).sz)) (v := (.int .u32 x2776)) (d := (some 35)) (k := 4) K rfl K K (elem_cell (e := (eInt .u32)) (rdt_cells (arrE_rd (SP.get hs2837 (i := 1) rfl)) hA2841 hp2777 hq2778) hx2779 (j := 0) rfl) ?_
       exact ⟨rfl, _, updO_known hkn, rfl⟩
     ·exact Owe.run K [] trivial (.agg (cellsOf (eInt .i64) ([17, 19, 10] : List Int)).toArray) (fun _ _ => K) rfl
     ·refine Owe.heavy K [(0, 1)] K (all_cons ⟨K, K, ?_⟩ all_nil)
      ·rintro ρ' w' hs hah ⟨hvl2843, hs2842⟩
       have hkn : Known ρ' [(35, (.int .u32 x2776)), (36, (.agg (cellsOf (eInt .i64) ([17, 19, 10] : List Int)).toArray))] := ⟨hah 4 35 K, hah 5 36 K, trivial⟩
       refine Step.known _ hkn ?_
       refine Step.callF (f := 63) (fo := (.func 63)) (xs := #[(.tmp 35), (.tmp 36), (.const (.bool true))]) (tys := #[81, 105, 4]) (first := #[]) (captured := #[]) (d := (some 37)) (k := 6) K rfl K K Tryd.call63 (L_digest_mixed_walk  x2776 ([17, 19, 10] : List Int) true w' rfl z2780 hz2781) ?_
       rintro e w2844 ⟨rfl, hs2845⟩
       refine ⟨_, rfl, ?_⟩
       have hs2847 : SP [] w0 w2844 [arrE 91 (eInt .u32) g5 64 (List.replicate 64 0), arrE 91 (eInt .u32) g9 64 v2596] := SP.call hs2842 hs2845
       clear hs2845
       refine ⟨_, updO_known hkn, rfl, ?_⟩
       exact (And.intro (And.intro rfl (trivial)) (hs2847))
     ·exact Owe.run K [(6, (.int .i64 v2597))] ⟨gS K K, trivial⟩ (.int .i64 v2597) (fun _ _ => K) rfl
     ·exact Owe.run K [(38, (.int .i64 v2597))] ⟨gA 7 K K, trivial⟩ (.int .i64 (IntKind.wrap .i64 (v2597 - 7))) (fun _ _ => K) rfl
     ·refine Owe.light K [0, 1, 2] K (all_cons ?_ (all_cons ?_ (all_cons ?_ all_nil)))
      ·rintro ρ' w' hs hah ⟨hvl2849, hs2848⟩
       have hkn : Known ρ' [(3, (pt g9 0)), (39, (.int .i64 (IntKind.wrap .i64 (v2597 - 7))))] := ⟨(hs 3 K).trans K, hah 8 39 K, trivial⟩
       refine Step.known _ hkn ?_
       refine Step.elemA (e := (eInt .u32)) (l := v2596) (m := 64) (g := g9) (T := 91) (E := 81) (x := (.tmp 3)) (ix := (.tmp 39)) (ki := .i64) (iz := (IntKind.wrap .i64 (v2597 - 7))) (i := 1) (d := (some 40)) (k := 9) K rfl K K K K hs2848 rfl hp2787 hq2788 ?_
       exact ⟨rfl, _, updO_known hkn, ⟨g9, 0, rfl, rfl⟩⟩
      ·rintro ρ' w' hs hah ⟨⟨q2851, -⟩, hs2850⟩
       have hkn : Known ρ' [(3, (pt g9 0)), (39, (.int .i64 (IntKind.wrap .i64 (v2597 - 7))))] := ⟨(hs 3 K).trans K, hah 8 39 K, trivial⟩
       refine Step.known _ hkn ?_
       refine Step.elemA (e := (eInt .u32)) (l := v2596) (m := 64) (g := g9) (T := 91) (E := 81) (x := (.tmp 3)) (ix := (.tmp 39)) (ki := .i64) (iz := (IntKind.wrap .i64 (v2597 - 7))) (i := 1) (d := (some 40)) (k := 9) K rfl K K K K hs2850 rfl hp2787 hq2788 ?_
       exact ⟨rfl, _, updO_known hkn, ⟨g9, 0, rfl, rfl⟩⟩
      ·rintro ρ' w' hs hah ⟨⟨q2854, q2855, -⟩, hs2853⟩
       have hkn : Known ρ' [(3, (pt g9 0)), (39, (.int .i64 (IntKind.wrap .i64 (v2597 - 7))))] := ⟨(hs 3 K).trans K, hah 8 39 K, trivial⟩
       refine Step.known _ hkn ?_
       refine Step.elemA (e := (eInt .u32)) (l := v2596) (m := 64) (g := g9) (T := 91) (E := 81) (x := (.tmp 3)) (ix := (.tmp 39)) (ki := .i64) (iz := (IntKind.wrap .i64 (v2597 - 7))) (i := 1) (d := (some 40)) (k := 9) K rfl K K K K hs2853 rfl hp2787 hq2788 ?_
       exact ⟨rfl, _, updO_known hkn, ⟨g9, 0, rfl, rfl⟩⟩
     ·refine Owe.light K [0, 1, 2] K (all_cons ?_ (all_cons ?_ (all_cons ?_ all_nil)))
      ·rintro ρ' w' hs hah ⟨hvl2858, hs2857⟩
       obtain ⟨b2859, o2860, hA2861, e40⟩ := hah 9 40 K
       have hkn : Known ρ' [(40, (.pointer (some ⟨b2859, (o2860 + Int.toNat (IntKind.wrap .i64 (v2597 - 7)) * (eInt .u32).sz), none⟩)))] := ⟨e40, trivial⟩
       refine Step.known _ hkn ?_
       refine Step.cell (t := 81) (x := (.tmp 40)) (b := b2859) (off := (o2860 + Int.toNat (IntKind.wrap .i64 (v2597 - 7)) * (eInt .u32).sz)) (v := (.int .u32 x2786)) (d := (some 41)) (k := 10) K rfl K K (elem_cell (e := (eInt .u32)) (rdt_cells (arrE_rd (SP.get hs2857 (i := 1) rfl)) hA2861 hp2787 hq2788) hx2789 (j := 0) rfl) ?_
       exact ⟨rfl, _, updO_known hkn, rfl⟩
      ·rintro ρ' w' hs hah ⟨⟨q2863, -⟩, hs2862⟩
       obtain ⟨b2865, o2866, hA2867, e40⟩ := hah 9 40 K
       have hkn : Known ρ' [(40, (.pointer (some ⟨b2865, (o2866 + Int.toNat (IntKind.wrap .i64 (v2597 - 7)) * (eInt .u32).sz), none⟩)))] := ⟨e40, trivial⟩
       refine Step.known _ hkn ?_
       refine Step.cell (t := 81) (x := (.tmp 40)) (b := b2865) (off := (o2866 + Int.toNat (IntKind.wrap .i64 (v2597 - 7)) * (eInt .u32).sz)) (v := (.int .u32 x2786)) (d := (some 41)) (k := 10) K rfl K K (elem_cell (e := (eInt .u32)) (rdt_cells (arrE_rd (SP.get hs2862 (i := 1) rfl)) hA2867 hp2787 hq2788) hx2789 (j := 0) rfl) ?_
       exact ⟨rfl, _, updO_known hkn, rfl⟩
      ·rintro ρ' w' hs hah ⟨⟨q2869, q2870, -⟩, hs2868⟩
       obtain ⟨b2872, o2873, hA2874, e40⟩ := hah 9 40 K
       have hkn : Known ρ' [(40, (.pointer (some ⟨b2872, (o2873 + Int.toNat (IntKind.wrap .i64 (v2597 - 7)) * (eInt .u32).sz), none⟩)))] := ⟨e40, trivial⟩
       refine Step.known _ hkn ?_
       refine Step.cell (t := 81) (x := (.tmp 40)) (b := b2872) (off := (o2873 + Int.toNat (IntKind.wrap .i64 (v2597 - 7)) * (eInt .u32).sz)) (v := (.int .u32 x2786)) (d := (some 41)) (k := 10) K rfl K K (elem_cell (e := (eInt .u32)) (rdt_cells (arrE_rd (SP.get hs2868 (i := 1) rfl)) hA2874 hp2787 hq2788) hx2789 (j := 0) rfl) ?_
       exact ⟨rfl, _, updO_known hkn, rfl⟩
     ·exact Owe.run K [(37, (.int .u32 z2780)), (41, (.int .u32 x2786))] ⟨gA 6 K K, gA 10 K K, trivial⟩ (.int .u32 (IntKind.wrap .u32 (z2780 + x2786))) (fun _ _ => K) rfl
     ·exact Owe.run K [(6, (.int .i64 v2597))] ⟨gS K K, trivial⟩ (.int .i64 v2597) (fun _ _ => K) rfl
     ·exact Owe.run K [(43, (.int .i64 v2597))] ⟨gA 12 K K, trivial⟩ (.int .i64 (IntKind.wrap .i64 (v2597 - 15))) (fun _ _ => K) rfl
     ·refine Owe.light K [0, 1] K (all_cons ?_ (all_cons ?_ all_nil))
      ·rintro ρ' w' hs hah ⟨hvl2876, hs2875⟩
       have hkn : Known ρ' [(3, (pt g9 0)), (44, (.int .i64 (IntKind.wrap .i64 (v2597 - 15))))] := ⟨(hs 3 K).trans K, hah 13 44 K, trivial⟩
       refine Step.known _ hkn ?_
       refine Step.elemA (e := (eInt .u32)) (l := v2596) (m := 64) (g := g9) (T := 91) (E := 81) (x := (.tmp 3)) (ix := (.tmp 44)) (ki := .i64) (iz := (IntKind.wrap .i64 (v2597 - 15))) (i := 1) (d := (some 45)) (k := 14) K rfl K K K K hs2875 rfl hp2791 hq2792 ?_
       exact ⟨rfl, _, updO_known hkn, ⟨g9, 0, rfl, rfl⟩⟩
      ·rintro ρ' w' hs hah ⟨⟨q2878, -⟩, hs2877⟩
       have hkn : Known ρ' [(3, (pt g9 0)), (44, (.int .i64 (IntKind.wrap .i64 (v2597 - 15))))] := ⟨(hs 3 K).trans K, hah 13 44 K, trivial⟩
       refine Step.known _ hkn ?_
       refine Step.elemA (e := (eInt .u32)) (l := v2596) (m := 64) (g := g9) (T := 91) (E := 81) (x := (.tmp 3)) (ix := (.tmp 44)) (ki := .i64) (iz := (IntKind.wrap .i64 (v2597 - 15))) (i := 1) (d := (some 45)) (k := 14) K rfl K K K K hs2877 rfl hp2791 hq2792 ?_
       exact ⟨rfl, _, updO_known hkn, ⟨g9, 0, rfl, rfl⟩⟩
     ·refine Owe.light K [0, 1] K (all_cons ?_ (all_cons ?_ all_nil))
      ·rintro ρ' w' hs hah ⟨hvl2881, hs2880⟩
       obtain ⟨b2882, o2883, hA2884, e45⟩ := hah 14 45 K
       have hkn : Known ρ' [(45, (.pointer (some ⟨b2882, (o2883 + Int.toNat (IntKind.wrap .i64 (v2597 - 15)) * (eInt .u32).sz), none⟩)))] := ⟨e45, trivial⟩
       refine Step.known _ hkn ?_
       refine Step.cell (t := 81) (x := (.tmp 45)) (b := b2882) (off := (o2883 + Int.toNat (IntKind.wrap .i64 (v2597 - 15)) * (eInt .u32).sz)) (v := (.int .u32 x2790)) (d := (some 46)) (k := 15) K rfl K K (elem_cell (e := (eInt .u32)) (rdt_cells (arrE_rd (SP.get hs2880 (i := 1) rfl)) hA2884 hp2791 hq2792) hx2793 (j := 0) rfl) ?_
       exact ⟨rfl, _, updO_known hkn, rfl⟩
      ·rintro ρ' w' hs hah ⟨⟨q2886, -⟩, hs2885⟩
       obtain ⟨b2888, o2889, hA2890, e45⟩ := hah 14 45 K
       have hkn : Known ρ' [(45, (.pointer (some ⟨b2888, (o2889 + Int.toNat (IntKind.wrap .i64 (v2597 - 15)) * (eInt .u32).sz), none⟩)))] := ⟨e45, trivial⟩
       refine Step.known _ hkn ?_
       refine Step.cell (t := 81) (x := (.tmp 45)) (b := b2888) (off := (o2889 + Int.toNat (IntKind.wrap .i64 (v2597 - 15)) * (eInt .u32).sz)) (v := (.int .u32 x2790)) (d := (some 46)) (k := 15) K rfl K K (elem_cell (e := (eInt .u32)) (rdt_cells (arrE_rd (SP.get hs2885 (i := 1) rfl)) hA2890 hp2791 hq2792) hx2793 (j := 0) rfl) ?_
       exact ⟨rfl, _, updO_known hkn, rfl⟩
     ·exact Owe.run K [] trivial (.agg (cellsOf (eInt .i64) ([7, 18, 3] : List Int)).toArray) (fun _ _ => K) rfl
     ·refine Owe.heavy K [(1, 2)] K (all_cons ⟨K, K, ?_⟩ all_nil)
      ·rintro ρ' w' hs hah ⟨⟨q2892, -⟩, hs2891⟩
       have hkn : Known ρ' [(46, (.int .u32 x2790)), (47, (.agg (cellsOf (eInt .i64) ([7, 18, 3] : List Int)).toArray))] := ⟨hah 15 46 K, hah 16 47 K, trivial⟩
       refine Step.known _ hkn ?_
       refine Step.callF (f := 63) (fo := (.func 63)) (xs := #[(.tmp 46), (.tmp 47), (.const (.bool true))]) (tys := #[81, 105, 4]) (first := #[]) (captured := #[]) (d := (some 48)) (k := 17) K rfl K K Tryd.call63 (L_digest_mixed_walk  x2790 ([7, 18, 3] : List Int) true w' rfl z2794 hz2795) ?_
       rintro e w2894 ⟨rfl, hs2895⟩
       refine ⟨_, rfl, ?_⟩
       have hs2897 : SP [] w0 w2894 [arrE 91 (eInt .u32) g5 64 (List.replicate 64 0), arrE 91 (eInt .u32) g9 64 v2596] := SP.call hs2891 hs2895
       clear hs2895
       refine ⟨_, updO_known hkn, rfl, ?_⟩
       exact (And.intro (And.intro q2892 (And.intro rfl (trivial))) (hs2897))
     ·exact Owe.run K [(42, (.int .u32 (IntKind.wrap .u32 (z2780 + x2786)))), (48, (.int .u32 z2794))] ⟨gA 11 K K, gA 17 K K, trivial⟩ (.int .u32 (IntKind.wrap .u32 ((IntKind.wrap .u32 (z2780 + x2786)) + z2794))) (fun _ _ => K) rfl
     ·exact Owe.run K [(6, (.int .i64 v2597))] ⟨gS K K, trivial⟩ (.int .i64 v2597) (fun _ _ => K) rfl
     ·exact Owe.run K [(50, (.int .i64 v2597))] ⟨gA 19 K K, trivial⟩ (.int .i64 (IntKind.wrap .i64 (v2597 - 16))) (fun _ _ => K) rfl
     ·refine Owe.light K [0, 1, 2] K (all_cons ?_ (all_cons ?_ (all_cons ?_ all_nil)))
      ·rintro ρ' w' hs hah ⟨hvl2899, hs2898⟩
       have hkn : Known ρ' [(3, (pt g9 0)), (51, (.int .i64 (IntKind.wrap .i64 (v2597 - 16))))] := ⟨(hs 3 K).trans K, hah 20 51 K, trivial⟩
       refine Step.known _ hkn ?_
       refine Step.elemA (e := (eInt .u32)) (l := v2596) (m := 64) (g := g9) (T := 91) (E := 81) (x := (.tmp 3)) (ix := (.tmp 51)) (ki := .i64) (iz := (IntKind.wrap .i64 (v2597 - 16))) (i := 1) (d := (some 52)) (k := 21) K rfl K K K K hs2898 rfl hp2801 hq2802 ?_
       exact ⟨rfl, _, updO_known hkn, ⟨g9, 0, rfl, rfl⟩⟩
      ·rintro ρ' w' hs hah ⟨⟨q2901, -⟩, hs2900⟩
       have hkn : Known ρ' [(3, (pt g9 0)), (51, (.int .i64 (IntKind.wrap .i64 (v2597 - 16))))] := ⟨(hs 3 K).trans K, hah 20 51 K, trivial⟩
       refine Step.known _ hkn ?_
       refine Step.elemA (e := (eInt .u32)) (l := v2596) (m := 64) (g := g9) (T := 91) (E := 81) (x := (.tmp 3)) (ix := (.tmp 51)) (ki := .i64) (iz := (IntKind.wrap .i64 (v2597 - 16))) (i := 1) (d := (some 52)) (k := 21) K rfl K K K K hs2900 rfl hp2801 hq2802 ?_
       exact ⟨rfl, _, updO_known hkn, ⟨g9, 0, rfl, rfl⟩⟩
      ·rintro ρ' w' hs hah ⟨⟨q2904, q2905, -⟩, hs2903⟩
       have hkn : Known ρ' [(3, (pt g9 0)), (51, (.int .i64 (IntKind.wrap .i64 (v2597 - 16))))] := ⟨(hs 3 K).trans K, hah 20 51 K, trivial⟩
       refine Step.known _ hkn ?_
       refine Step.elemA (e := (eInt .u32)) (l := v2596) (m := 64) (g := g9) (T := 91) (E := 81) (x := (.tmp 3)) (ix := (.tmp 51)) (ki := .i64) (iz := (IntKind.wrap .i64 (v2597 - 16))) (i := 1) (d := (some 52)) (k := 21) K rfl K K K K hs2903 rfl hp2801 hq2802 ?_
       exact ⟨rfl, _, updO_known hkn, ⟨g9, 0, rfl, rfl⟩⟩
     ·refine Owe.light K [0, 1, 2] K (all_cons ?_ (all_cons ?_ (all_cons ?_ all_nil)))
      ·rintro ρ' w' hs hah ⟨hvl2908, hs2907⟩
       obtain ⟨b2909, o2910, hA2911, e52⟩ := hah 21 52 K
       have hkn : Known ρ' [(52, (.pointer (some ⟨b2909, (o2910 + Int.toNat (IntKind.wrap .i64 (v2597 - 16)) * (eInt .u32).sz), none⟩)))] := ⟨e52, trivial⟩
       refine Step.known _ hkn ?_
       refine Step.cell (t := 81) (x := (.tmp 52)) (b := b2909) (off := (o2910 + Int.toNat (IntKind.wrap .i64 (v2597 - 16)) * (eInt .u32).sz)) (v := (.int .u32 x2800)) (d := (some 53)) (k := 22) K rfl K K (elem_cell (e := (eInt .u32)) (rdt_cells (arrE_rd (SP.get hs2907 (i := 1) rfl)) hA2911 hp2801 hq2802) hx2803 (j := 0) rfl) ?_
       exact ⟨rfl, _, updO_known hkn, rfl⟩
      ·rintro ρ' w' hs hah ⟨⟨q2913, -⟩, hs2912⟩
       obtain ⟨b2915, o2916, hA2917, e52⟩ := hah 21 52 K
       have hkn : Known ρ' [(52, (.pointer (some ⟨b2915, (o2916 + Int.toNat (IntKind.wrap .i64 (v2597 - 16)) * (eInt .u32).sz), none⟩)))] := ⟨e52, trivial⟩
       refine Step.known _ hkn ?_
       refine Step.cell (t := 81) (x := (.tmp 52)) (b := b2915) (off := (o2916 + Int.toNat (IntKind.wrap .i64 (v2597 - 16)) * (eInt .u32).sz)) (v := (.int .u32 x2800)) (d := (some 53)) (k := 22) K rfl K K (elem_cell (e := (eInt .u32)) (rdt_cells (arrE_rd (SP.get hs2912 (i := 1) rfl)) hA2917 hp2801 hq2802) hx2803 (j := 0) rfl) ?_
       exact ⟨rfl, _, updO_known hkn, rfl⟩
      ·rintro ρ' w' hs hah ⟨⟨q2919, q2920, -⟩, hs2918⟩
       obtain ⟨b2922, o2923, hA2924, e52⟩ := hah 21 52 K
       have hkn : Known ρ' [(52, (.pointer (some ⟨b2922, (o2923 + Int.toNat (IntKind.wrap .i64 (v2597 - 16)) * (eInt .u32).sz), none⟩)))] := ⟨e52, trivial⟩
       refine Step.known _ hkn ?_
       refine Step.cell (t := 81) (x := (.tmp 52)) (b := b2922) (off := (o2923 + Int.toNat (IntKind.wrap .i64 (v2597 - 16)) * (eInt .u32).sz)) (v := (.int .u32 x2800)) (d := (some 53)) (k := 22) K rfl K K (elem_cell (e := (eInt .u32)) (rdt_cells (arrE_rd (SP.get hs2918 (i := 1) rfl)) hA2924 hp2801 hq2802) hx2803 (j := 0) rfl) ?_
       exact ⟨rfl, _, updO_known hkn, rfl⟩
     ·exact Owe.run K [(49, (.int .u32 (IntKind.wrap .u32 ((IntKind.wrap .u32 (z2780 + x2786)) + z2794)))), (53, (.int .u32 x2800))] ⟨gA 18 K K, gA 22 K K, trivial⟩ (.int .u32 (IntKind.wrap .u32 ((IntKind.wrap .u32 ((IntKind.wrap .u32 (z2780 + x2786)) + z2794)) + x2800))) (fun _ _ => K) rfl
     ·refine Owe.light K [2] K (all_cons ?_ all_nil)
      ·rintro ρ' w' hs hah ⟨⟨q2926, q2927, -⟩, hs2925⟩
       have hkn : Known ρ' [(3, (pt g9 0)), (31, (.int .i64 v2597))] := ⟨(hs 3 K).trans K, hah 0 31 K, trivial⟩
       refine Step.known _ hkn ?_
       refine Step.elemA (e := (eInt .u32)) (l := v2596) (m := 64) (g := g9) (T := 91) (E := 81) (x := (.tmp 3)) (ix := (.tmp 31)) (ki := .i64) (iz := v2597) (i := 1) (d := (some 55)) (k := 24) K rfl K K K K hs2925 rfl hp2805 hq2806 ?_
       exact ⟨rfl, _, updO_known hkn, ⟨g9, 0, rfl, rfl⟩⟩
     ·refine Owe.heavy K [(2, 3)] K (all_cons ⟨K, K, ?_⟩ all_nil)
      ·rintro ρ' w' hs hah ⟨⟨q2930, q2931, -⟩, hs2929⟩
       obtain ⟨b2933, o2934, hA2935, e55⟩ := hah 24 55 K
       have hkn : Known ρ' [(55, (.pointer (some ⟨b2933, (o2934 + Int.toNat v2597 * (eInt .u32).sz), none⟩))), (54, (.int .u32 (IntKind.wrap .u32 ((IntKind.wrap .u32 ((IntKind.wrap .u32 (z2780 + x2786)) + z2794)) + x2800))))] := ⟨e55, hah 23 54 K, trivial⟩
       refine Step.known _ hkn ?_
       refine Step.storeElemA (e := (eInt .u32)) (t := 81) (x := (.tmp 55)) (y := (.tmp 54)) (l := v2596) (iz := v2597) (m := 64) (g := g9) (b := b2933) (off := o2934) (i := 1) (v := (.int .u32 (IntKind.wrap .u32 ((IntKind.wrap .u32 ((IntKind.wrap .u32 (z2780 + x2786)) + z2794)) + x2800)))) (x' := (IntKind.wrap .u32 ((IntKind.wrap .u32 ((IntKind.wrap .u32 (z2780 + x2786)) + z2794)) + x2800))) (d := none) (k := 25) K rfl hA2935 K K hs2929 rfl rfl hq2806 hp2805 rfl K ?_
       rw [hyl2808]
       intro w2936 (hs2938 : SP [] w0 w2936 [arrE 91 (eInt .u32) g5 64 (List.replicate 64 0), arrE 91 (eInt .u32) g9 64 l2808])
       refine ⟨_, updO_known hkn, trivial, ?_⟩
       exact (And.intro (And.intro q2930 (And.intro q2931 (And.intro rfl (trivial)))) (hs2938))
     ·rintro ρ' w' hs hf ⟨⟨q2940, q2941, q2942, -⟩, hs2939⟩
      refine postKnown [(2, (pt g5 0)), (3, (pt g9 0)), (6, (.int .i64 v2597))] ⟨(hs 2 K).trans K, (hs 3 K).trans K, (hs 6 K).trans K, trivial⟩ ?_
      obtain ⟨w2944, hww2944⟩ : ∃ x, w' = x := ⟨_, rfl⟩
      rw [hww2944] at hs2939 ⊢
      refine At.region K K ?_
      refine In.run' 3 (k' := 3) rfl [(29, (.int .i64 v2597)), (30, (.int .i64 (IntKind.wrap .i64 (v2597 + 1)))), (6, (.int .i64 (IntKind.wrap .i64 (v2597 + 1))))] K ?_
      refine In.fin K ?_
      exact ⟨l2808, (IntKind.wrap .i64 (v2597 + 1)), ⟨K, K, K, trivial⟩, SP.sel hs2939 [0, 1] rfl rfl, H⟩
    ·have H := cf H hb2775
     refine At.exit K (id := 2) K ?_
     refine At.sq K ?_
     refine At.region K K ?_
     refine In.step (k' := 1) rfl K ?_
     refine Step.loadA (e := (eInt .u32)) (l := v2596) (m := 64) (t := 91) (x := (.tmp 3)) (g := g9) (i := 1) (d := (some 56)) (k := 0) K rfl K hs2595 rfl K K ?_
     refine In.step (k' := 2) rfl K ?_
     refine Step.storeA (e := (eInt .u32)) (l := (List.replicate 64 0)) (l' := v2596) (m := 64) (t := 91) (x := (.tmp 2)) (y := (.tmp 56)) (g := g5) (i := 0) (d := none) (k := 1) K rfl K K ha2774 hs2595 rfl K ?_
     intro w2945 (hs2947 : SP [] w0 w2945 [arrE 91 (eInt .u32) g5 64 v2596, arrE 91 (eInt .u32) g9 64 v2596])
     refine In.fin K ?_
     refine At.ret K ?_
     refine ⟨(.agg (cellsOf (eInt .u32) v2596).toArray), res_1 K (rv_cellA (e := (eInt .u32)) (l := v2596) (a := 2) (t := 91) K (SP.get hs2947 (i := 0) rfl) K K), ?_⟩
     obtain rfl := some_elim H
     exact ⟨rfl, SP.sel hs2947 [] rfl rfl⟩
   ·exact ⟨v1484, 16, ⟨K, K, K, trivial⟩, SP.sel hs1483 [0, 1] rfl rfl, H⟩
 ·exact ⟨(List.replicate 64 0), 0, ⟨K, K, K, K, K, trivial⟩, SP.sel hs12 [0, 1] rfl rfl, H⟩
/-! L_digest_state_behind -/
def L_digest_state_behind_b5 (rec4 : (List Int) → Int → Option ((List Int))) (rec5 : (List Int) → Int → Option ((List Int))) (p1 : (List Int)) (v2037 : (List Int)) (v2038 : Int) : Option ((List Int)) :=
  (cond (decide (v2038 < 8)) ((idx v2037 v2038).bind fun x2097 => ((idx p1 v2038).bind fun x2101 => ((idx v2037 v2038).bind fun x2105 => ((some (List.set v2037 (Int.toNat v2038) (IntKind.wrap .u32 (x2097 + x2101)))).bind fun l2109 => (rec5 l2109 (IntKind.wrap .i64 (v2038 + 1))))))) (some (v2037)))
def L_digest_state_behind_l5 (rec4 : (List Int) → Int → Option ((List Int))) (p1 : (List Int)) : Nat → (List Int) → Int → Option ((List Int))
  | 0, _, _ => none
  | f + 1, v2037, v2038 => L_digest_state_behind_b5 rec4 (L_digest_state_behind_l5 rec4 p1 f) p1 v2037 v2038
def L_digest_state_behind_b3 (rec4 : (List Int) → Int → Option ((List Int))) (p1 : (List Int)) (p3 : (List Int)) (z17 : ((List Int))) (v1203 : (List Int)) (v1204 : Int) : Option ((List Int)) :=
  (cond (decide (v1204 < 64)) ((idx v1203 0).bind fun x1682 => ((idx v1203 1).bind fun x1686 => ((idx v1203 2).bind fun x1690 => ((idx v1203 4).bind fun x1694 => ((idx v1203 7).bind fun x1729 => ((L_digest_mixed x1694 ([6, 11, 25] : List Int) false).bind fun z1733 => ((idx v1203 6).bind fun x1739 => ((idx v1203 5).bind fun x1743 => ((idx v1203 6).bind fun x1747 => ((idx z17 v1204).bind fun x1751 => ((idx p3 v1204).bind fun x1755 => ((L_digest_mixed x1682 ([2, 13, 22] : List Int) false).bind fun z1869 => ((sub v1203 1 ((List.length v1203 : Nat) : Int)).bind fun l1878 => ((sub v1203 0 7).bind fun l1882 => ((some (cpy v1203 (Int.toNat 1) (List.length l1878) l1882)).bind fun l1883 => ((idx l1883 4).bind fun x1904 => ((idx l1883 0).bind fun x1908 => ((some (List.set l1883 (Int.toNat 0) (IntKind.wrap .u32 ((IntKind.wrap .u32 ((IntKind.wrap .u32 ((IntKind.wrap .u32 ((IntKind.wrap .u32 (x1729 + z1733)) + (bXor .u32 x1739 (bAnd .u32 x1694 (bXor .u32 x1743 x1747))))) + x1751)) + x1755)) + (IntKind.wrap .u32 (z1869 + (bOr .u32 (bAnd .u32 x1682 (bOr .u32 x1686 x1690)) (bAnd .u32 x1686 x1690)))))))).bind fun l1912 => ((idx l1912 4).bind fun x1916 => ((some (List.set l1912 (Int.toNat 4) (IntKind.wrap .u32 (x1904 + (IntKind.wrap .u32 ((IntKind.wrap .u32 ((IntKind.wrap .u32 ((IntKind.wrap .u32 (x1729 + z1733)) + (bXor .u32 x1739 (bAnd .u32 x1694 (bXor .u32 x1743 x1747))))) + x1751)) + x1755)))))).bind fun l1920 => (rec4 l1920 (IntKind.wrap .i64 (v1204 + 1))))))))))))))))))))))) (L_digest_state_behind_l5 rec4 p1 fuel v1203 0))
def L_digest_state_behind_l3 (p1 : (List Int)) (p3 : (List Int)) (z17 : ((List Int))) : Nat → (List Int) → Int → Option ((List Int))
  | 0, _, _ => none
  | f + 1, v1203, v1204 => L_digest_state_behind_b3  (L_digest_state_behind_l3 p1 p3 z17 f) p1 p3 z17 v1203 v1204
def L_digest_state_behind (p1 : (List Int)) (p3 : (List Int)) : Option ((List Int)) :=
  ((L_digest_roots ).bind fun z17 => ((chk (Nat.beq (List.length z17) 64)).bind fun _ => (L_digest_state_behind_l3 p1 p3 z17 fuel p1 0)))
set_option maxRecDepth 100000 in
set_option maxHeartbeats 4000000 in
theorem L_digest_state_behind_walk  (p1 : (List Int)) (p3 : (List Int)) (w0 : World) (ha2 : List.length p1 = 8) (ha4 : List.length p3 = 64) (r : ((List Int))) (H : L_digest_state_behind p1 p3 = some r) :
  Calls Tryd.prog 53 #[(.agg (cellsOf (eInt .u32) p1).toArray), (.agg (cellsOf (eInt .u32) p3).toArray)] w0 (fun e w' => e = .returned (.agg (cellsOf (eInt .u32) r).toArray) ∧ SP [] w0 w' []) := by
 unfold L_digest_state_behind at H
 refine calls_go (n := 92) Tryd.func53 K K K ?_
 have hs0 := SP.start [] w0
 refine At.sq K ?_
 refine At.region K K ?_
 refine In.step (k' := 1) rfl K ?_
 refine Step.boxA (e := (eInt .u32)) (l := p1) (m := 8) (t := 95) (x := (.tmp 0)) (d := (some 2)) (k := 0) K rfl K ha2 K hs0 ?_
 intro g5 w6 (hs8 : SP [] w0 w6 [arrE 95 (eInt .u32) g5 8 p1])
 refine In.step (k' := 2) rfl K ?_
 refine Step.boxA (e := (eInt .u32)) (l := p3) (m := 64) (t := 91) (x := (.tmp 1)) (d := (some 3)) (k := 1) K rfl K ha4 K hs8 ?_
 intro g9 w10 (hs12 : SP [] w0 w10 [arrE 95 (eInt .u32) g5 8 p1, arrE 91 (eInt .u32) g9 64 p3])
 refine In.step (k' := 3) rfl K ?_
 refine Step.allocA (e := (eInt .u32)) (l := (List.replicate 8 0)) (m := 8) (t := 95) (z := .agg (cellsOf (eInt .u32) (List.replicate 8 0)).toArray) (d := (some 4)) (k := 2) K rfl K rfl rfl K hs12 ?_
 intro g13 w14 (hs16 : SP [] w0 w14 [arrE 95 (eInt .u32) g5 8 p1, arrE 91 (eInt .u32) g9 64 p3, arrE 95 (eInt .u32) g13 8 (List.replicate 8 0)])
 refine In.fin K ?_
 refine At.sq K ?_
 obtain ⟨z17, hz18, H⟩ := bind_elim H
 obtain ⟨ha19, H⟩ := chk_elim H
 replace ha19 := Nat.eq_of_beq_eq_true ha19
 refine At.stages K K K K K [GEq (.agg (cellsOf (eInt .u32) p1).toArray), GEq (.agg (cellsOf (eInt .u32) z17).toArray), GAny, GAny, GAny, GAny] [1, 2, 3, 4, 5] [([], fun vs w => VL vs [] ∧ SP [] w0 w [arrE 95 (eInt .u32) g5 8 p1, arrE 91 (eInt .u32) g9 64 p3, arrE 95 (eInt .u32) g13 8 (List.replicate 8 0)]), ([1], fun vs w => VL vs [(.agg (cellsOf (eInt .u32) z17).toArray)] ∧ SP [] w0 w [arrE 95 (eInt .u32) g5 8 p1, arrE 91 (eInt .u32) g9 64 p3, arrE 95 (eInt .u32) g13 8 (List.replicate 8 0)]), ([2], fun vs w => ∃ (g42 : Nat), VL vs [(pt g42 0)] ∧ SP [] w0 w [arrE 95 (eInt .u32) g5 8 p1, arrE 91 (eInt .u32) g9 64 p3, arrE 95 (eInt .u32) g13 8 (List.replicate 8 0), arrE 95 (eInt .u32) g42 8 (List.replicate 8 0)]), ([3], fun vs w => ∃ (g46 : Nat), VL vs [(pt g46 0)] ∧ SP [] w0 w [arrE 95 (eInt .u32) g5 8 p1, arrE 91 (eInt .u32) g9 64 p3, arrE 95 (eInt .u32) g13 8 (List.replicate 8 0), arrE 91 (eInt .u32) g46 64 (List.replicate 64 0)]), ([1, 2], fun vs w => ∃ (g54 : Nat), VL vs [(.agg (cellsOf (eInt .u32) z17).toArray), (pt g54 0)] ∧ SP [] w0 w [arrE 95 (eInt .u32) g5 8 p1, arrE 91 (eInt .u32) g9 64 p3, arrE 95 (eInt .u32) g13 8 (List.replicate 8 0), arrE 95 (eInt .u32) g54 8 (List.replicate 8 0)]), ([1, 3], fun vs w => ∃ (g62 : Nat), VL vs [(.agg (cellsOf (eInt .u32) z17).toArray), (pt g62 0)] ∧ SP [] w0 w [arrE 95 (eInt .u32) g5 8 p1, arrE 91 (eInt .u32) g9 64 p3, arrE 95 (eInt .u32) g13 8 (List.replicate 8 0), arrE 91 (eInt .u32) g62 64 (List.replicate 64 0)]), ([2, 3], fun vs w => ∃ (g66 : Nat), ∃ (g70 : Nat), VL vs [(pt g66 0), (pt g70 0)] ∧ SP [] w0 w [arrE 95 (eInt .u32) g5 8 p1, arrE 91 (eInt .u32) g9 64 p3, arrE 95 (eInt .u32) g13 8 (List.replicate 8 0), arrE 95 (eInt .u32) g66 8 (List.replicate 8 0), arrE 91 (eInt .u32) g70 64 (List.replicate 64 0)]), ([1, 2, 3], fun vs w => ∃ (g78 : Nat), ∃ (g82 : Nat), VL vs [(.agg (cellsOf (eInt .u32) z17).toArray), (pt g78 0), (pt g82 0)] ∧ SP [] w0 w [arrE 95 (eInt .u32) g5 8 p1, arrE 91 (eInt .u32) g9 64 p3, arrE 95 (eInt .u32) g13 8 (List.replicate 8 0), arrE 95 (eInt .u32) g78 8 (List.replicate 8 0), arrE 91 (eInt .u32) g82 64 (List.replicate 64 0)]), ([1, 2, 3, 4], fun vs w => ∃ (g90 : Nat), ∃ (g94 : Nat), VL vs [(.agg (cellsOf (eInt .u32) z17).toArray), (pt g90 0), (pt g94 0), undef] ∧ SP [] w0 w [arrE 95 (eInt .u32) g5 8 p1, arrE 91 (eInt .u32) g9 64 p3, arrE 95 (eInt .u32) g13 8 (List.replicate 8 0), arrE 95 (eInt .u32) g90 8 p1, arrE 91 (eInt .u32) g94 64 (List.replicate 64 0)]), ([1, 2, 3, 4, 5], fun vs w => ∃ (g105 : Nat), ∃ (g109 : Nat), VL vs [(.agg (cellsOf (eInt .u32) z17).toArray), (pt g105 0), (pt g109 0), undef, undef] ∧ SP [] w0 w [arrE 95 (eInt .u32) g5 8 p1, arrE 91 (eInt .u32) g9 64 p3, arrE 95 (eInt .u32) g13 8 (List.replicate 8 0), arrE 95 (eInt .u32) g105 8 p1, arrE 91 (eInt .u32) g109 64 z17])] (N := 6) K ⟨K, Nat.zero_lt_succ _⟩ (show VL [] [] ∧ SP [] w0 w14.drew [arrE 95 (eInt .u32) g5 8 p1, arrE 91 (eInt .u32) g9 64 p3, arrE 95 (eInt .u32) g13 8 (List.replicate 8 0)] from ⟨trivial, SP.drew hs16⟩) ⟨⟨⟨⟨⟨⟨trivial, ?_⟩, ?_⟩, ?_⟩, ?_⟩, ?_⟩, ?_⟩ (last := 9) K ?_
 ·refine Owe.light K [0, 1, 2, 3, 4, 5, 6, 7] K (all_cons ?_ (all_cons ?_ (all_cons ?_ (all_cons ?_ (all_cons ?_ (all_cons ?_ (all_cons ?_ (all_cons ?_ all_nil))))))))
  ·rintro ρ' w' hs hah ⟨hvl120, hs119⟩
   have hkn : Known ρ' [(2, (pt g5 0))] := ⟨(hs 2 K).trans K, trivial⟩
   refine Step.known _ hkn ?_
   refine Step.loadA (e := (eInt .u32)) (l := p1) (m := 8) (t := 95) (x := (.tmp 2)) (g := g5) (i := 0) (d := (some 15)) (k := 0) K rfl K hs119 rfl K K ?_
   exact ⟨rfl, _, updO_known hkn, rfl⟩
  ·rintro ρ' w' hs hah ⟨⟨q122, -⟩, hs121⟩
   have hkn : Known ρ' [(2, (pt g5 0))] := ⟨(hs 2 K).trans K, trivial⟩
   refine Step.known _ hkn ?_
   refine Step.loadA (e := (eInt .u32)) (l := p1) (m := 8) (t := 95) (x := (.tmp 2)) (g := g5) (i := 0) (d := (some 15)) (k := 0) K rfl K hs121 rfl K K ?_
   exact ⟨rfl, _, updO_known hkn, rfl⟩
  ·rintro ρ' w' hs hah ⟨g42, ⟨q125, -⟩, hs124⟩
   have hkn : Known ρ' [(2, (pt g5 0))] := ⟨(hs 2 K).trans K, trivial⟩
   refine Step.known _ hkn ?_
   refine Step.loadA (e := (eInt .u32)) (l := p1) (m := 8) (t := 95) (x := (.tmp 2)) (g := g5) (i := 0) (d := (some 15)) (k := 0) K rfl K hs124 rfl K K ?_
   exact ⟨rfl, _, updO_known hkn, rfl⟩
  ·rintro ρ' w' hs hah ⟨g46, ⟨q128, -⟩, hs127⟩
   have hkn : Known ρ' [(2, (pt g5 0))] := ⟨(hs 2 K).trans K, trivial⟩
   refine Step.known _ hkn ?_
   refine Step.loadA (e := (eInt .u32)) (l := p1) (m := 8) (t := 95) (x := (.tmp 2)) (g := g5) (i := 0) (d := (some 15)) (k := 0) K rfl K hs127 rfl K K ?_
   exact ⟨rfl, _, updO_known hkn, rfl⟩
  ·rintro ρ' w' hs hah ⟨g54, ⟨q131, q132, -⟩, hs130⟩
   have hkn : Known ρ' [(2, (pt g5 0))] := ⟨(hs 2 K).trans K, trivial⟩
   refine Step.known _ hkn ?_
   refine Step.loadA (e := (eInt .u32)) (l := p1) (m := 8) (t := 95) (x := (.tmp 2)) (g := g5) (i := 0) (d := (some 15)) (k := 0) K rfl K hs130 rfl K K ?_
   exact ⟨rfl, _, updO_known hkn, rfl⟩
  ·rintro ρ' w' hs hah ⟨g62, ⟨q135, q136, -⟩, hs134⟩
   have hkn : Known ρ' [(2, (pt g5 0))] := ⟨(hs 2 K).trans K, trivial⟩
   refine Step.known _ hkn ?_
   refine Step.loadA (e := (eInt .u32)) (l := p1) (m := 8) (t := 95) (x := (.tmp 2)) (g := g5) (i := 0) (d := (some 15)) (k := 0) K rfl K hs134 rfl K K ?_
   exact ⟨rfl, _, updO_known hkn, rfl⟩
  ·rintro ρ' w' hs hah ⟨g66, g70, ⟨q139, q140, -⟩, hs138⟩
   have hkn : Known ρ' [(2, (pt g5 0))] := ⟨(hs 2 K).trans K, trivial⟩
   refine Step.known _ hkn ?_
   refine Step.loadA (e := (eInt .u32)) (l := p1) (m := 8) (t := 95) (x := (.tmp 2)) (g := g5) (i := 0) (d := (some 15)) (k := 0) K rfl K hs138 rfl K K ?_
   exact ⟨rfl, _, updO_known hkn, rfl⟩
  ·rintro ρ' w' hs hah ⟨g78, g82, ⟨q143, q144, q145, -⟩, hs142⟩
   have hkn : Known ρ' [(2, (pt g5 0))] := ⟨(hs 2 K).trans K, trivial⟩
   refine Step.known _ hkn ?_
   refine Step.loadA (e := (eInt .u32)) (l := p1) (m := 8) (t := 95) (x := (.tmp 2)) (g := g5) (i := 0) (d := (some 15)) (k := 0) K rfl K hs142 rfl K K ?_
   exact ⟨rfl, _, updO_known hkn, rfl⟩
 ·refine Owe.heavy K [(0, 1), (2, 4), (3, 5), (6, 7)] K (all_cons ⟨K, K, ?_⟩ (all_cons ⟨K, K, ?_⟩ (all_cons ⟨K, K, ?_⟩ (all_cons ⟨K, K, ?_⟩ all_nil))))
  ·rintro ρ' w' hs hah ⟨hvl148, hs147⟩
   have hkn : Known ρ' [] := trivial
   refine Step.known _ hkn ?_
   refine Step.callF (f := 62) (fo := (.func 62)) (xs := #[]) (tys := #[]) (first := #[]) (captured := #[]) (d := (some 16)) (k := 1) K rfl K K Tryd.call62 (L_digest_roots_walk   w'  z17 hz18) ?_
   rintro e w149 ⟨rfl, hs150⟩
   refine ⟨_, rfl, ?_⟩
   have hs152 : SP [] w0 w149 [arrE 95 (eInt .u32) g5 8 p1, arrE 91 (eInt .u32) g9 64 p3, arrE 95 (eInt .u32) g13 8 (List.replicate 8 0)] := SP.call hs147 hs150
   clear hs150
   refine ⟨_, updO_known hkn, rfl, ?_⟩
   exact (And.intro (And.intro rfl (trivial)) (hs152))
  ·rintro ρ' w' hs hah ⟨g42, ⟨q154, -⟩, hs153⟩
   have hkn : Known ρ' [] := trivial
   refine Step.known _ hkn ?_
   refine Step.callF (f := 62) (fo := (.func 62)) (xs := #[]) (tys := #[]) (first := #[]) (captured := #[]) (d := (some 16)) (k := 1) K rfl K K Tryd.call62 (L_digest_roots_walk   w'  z17 hz18) ?_
   rintro e w156 ⟨rfl, hs157⟩
   refine ⟨_, rfl, ?_⟩
   have hs159 : SP [] w0 w156 [arrE 95 (eInt .u32) g5 8 p1, arrE 91 (eInt .u32) g9 64 p3, arrE 95 (eInt .u32) g13 8 (List.replicate 8 0), arrE 95 (eInt .u32) g42 8 (List.replicate 8 0)] := SP.call hs153 hs157
   clear hs157
   refine ⟨_, updO_known hkn, rfl, ?_⟩
   exact (Exists.intro g42 (And.intro (And.intro rfl (And.intro q154 (trivial))) (hs159)))
  ·rintro ρ' w' hs hah ⟨g46, ⟨q161, -⟩, hs160⟩
   have hkn : Known ρ' [] := trivial
   refine Step.known _ hkn ?_
   refine Step.callF (f := 62) (fo := (.func 62)) (xs := #[]) (tys := #[]) (first := #[]) (captured := #[]) (d := (some 16)) (k := 1) K rfl K K Tryd.call62 (L_digest_roots_walk   w'  z17 hz18) ?_
   rintro e w163 ⟨rfl, hs164⟩
   refine ⟨_, rfl, ?_⟩
   have hs166 : SP [] w0 w163 [arrE 95 (eInt .u32) g5 8 p1, arrE 91 (eInt .u32) g9 64 p3, arrE 95 (eInt .u32) g13 8 (List.replicate 8 0), arrE 91 (eInt .u32) g46 64 (List.replicate 64 0)] := SP.call hs160 hs164
   clear hs164
   refine ⟨_, updO_known hkn, rfl, ?_⟩
   exact (Exists.intro g46 (And.intro (And.intro rfl (And.intro q161 (trivial))) (hs166)))
  ·rintro ρ' w' hs hah ⟨g66, g70, ⟨q168, q169, -⟩, hs167⟩
   have hkn : Known ρ' [] := trivial
   refine Step.known _ hkn ?_
   refine Step.callF (f := 62) (fo := (.func 62)) (xs := #[]) (tys := #[]) (first := #[]) (captured := #[]) (d := (some 16)) (k := 1) K rfl K K Tryd.call62 (L_digest_roots_walk   w'  z17 hz18) ?_
   rintro e w171 ⟨rfl, hs172⟩
   refine ⟨_, rfl, ?_⟩
   have hs174 : SP [] w0 w171 [arrE 95 (eInt .u32) g5 8 p1, arrE 91 (eInt .u32) g9 64 p3, arrE 95 (eInt .u32) g13 8 (List.replicate 8 0), arrE 95 (eInt .u32) g66 8 (List.replicate 8 0), arrE 91 (eInt .u32) g70 64 (List.replicate 64 0)] := SP.call hs167 hs172
   clear hs172
   refine ⟨_, updO_known hkn, rfl, ?_⟩
   exact (Exists.intro g66 (Exists.intro g70 (And.intro (And.intro rfl (And.intro q168 (And.intro q169 (trivial)))) (hs174))))
 ·refine Owe.heavy K [(0, 2), (1, 4), (3, 6), (5, 7)] K (all_cons ⟨K, K, ?_⟩ (all_cons ⟨K, K, ?_⟩ (all_cons ⟨K, K, ?_⟩ (all_cons ⟨K, K, ?_⟩ all_nil))))
  ·rintro ρ' w' hs hah ⟨hvl176, hs175⟩
   have hkn : Known ρ' [] := trivial
   refine Step.known _ hkn ?_
   refine Step.allocA (e := (eInt .u32)) (l := (List.replicate 8 0)) (m := 8) (t := 95) (z := .agg (cellsOf (eInt .u32) (List.replicate 8 0)).toArray) (d := (some 5)) (k := 2) K rfl K rfl rfl K hs175 ?_
   intro g177 w178 (hs180 : SP [] w0 w178 [arrE 95 (eInt .u32) g5 8 p1, arrE 91 (eInt .u32) g9 64 p3, arrE 95 (eInt .u32) g13 8 (List.replicate 8 0), arrE 95 (eInt .u32) g177 8 (List.replicate 8 0)])
   refine ⟨_, updO_known hkn, trivial, ?_⟩
   exact (Exists.intro g177 (And.intro (And.intro rfl (trivial)) (hs180)))
  ·rintro ρ' w' hs hah ⟨⟨q182, -⟩, hs181⟩
   have hkn : Known ρ' [] := trivial
   refine Step.known _ hkn ?_
   refine Step.allocA (e := (eInt .u32)) (l := (List.replicate 8 0)) (m := 8) (t := 95) (z := .agg (cellsOf (eInt .u32) (List.replicate 8 0)).toArray) (d := (some 5)) (k := 2) K rfl K rfl rfl K hs181 ?_
   intro g184 w185 (hs187 : SP [] w0 w185 [arrE 95 (eInt .u32) g5 8 p1, arrE 91 (eInt .u32) g9 64 p3, arrE 95 (eInt .u32) g13 8 (List.replicate 8 0), arrE 95 (eInt .u32) g184 8 (List.replicate 8 0)])
   refine ⟨_, updO_known hkn, trivial, ?_⟩
   exact (Exists.intro g184 (And.intro (And.intro q182 (And.intro rfl (trivial))) (hs187)))
  ·rintro ρ' w' hs hah ⟨g46, ⟨q189, -⟩, hs188⟩
   have hkn : Known ρ' [] := trivial
   refine Step.known _ hkn ?_
   refine Step.allocA (e := (eInt .u32)) (l := (List.replicate 8 0)) (m := 8) (t := 95) (z := .agg (cellsOf (eInt .u32) (List.replicate 8 0)).toArray) (d := (some 5)) (k := 2) K rfl K rfl rfl K hs188 ?_
   intro g191 w192 (hs194 : SP [] w0 w192 [arrE 95 (eInt .u32) g5 8 p1, arrE 91 (eInt .u32) g9 64 p3, arrE 95 (eInt .u32) g13 8 (List.replicate 8 0), arrE 91 (eInt .u32) g46 64 (List.replicate 64 0), arrE 95 (eInt .u32) g191 8 (List.replicate 8 0)])
   refine ⟨_, updO_known hkn, trivial, ?_⟩
   exact (Exists.intro g191 (Exists.intro g46 (And.intro (And.intro rfl (And.intro q189 (trivial))) (SP.sel hs194 [0, 1, 2, 4, 3] rfl rfl))))
  ·rintro ρ' w' hs hah ⟨g62, ⟨q196, q197, -⟩, hs195⟩
   have hkn : Known ρ' [] := trivial
   refine Step.known _ hkn ?_
   refine Step.allocA (e := (eInt .u32)) (l := (List.replicate 8 0)) (m := 8) (t := 95) (z := .agg (cellsOf (eInt .u32) (List.replicate 8 0)).toArray) (d := (some 5)) (k := 2) K rfl K rfl rfl K hs195 ?_
   intro g199 w200 (hs202 : SP [] w0 w200 [arrE 95 (eInt .u32) g5 8 p1, arrE 91 (eInt .u32) g9 64 p3, arrE 95 (eInt .u32) g13 8 (List.replicate 8 0), arrE 91 (eInt .u32) g62 64 (List.replicate 64 0), arrE 95 (eInt .u32) g199 8 (List.replicate 8 0)])
   refine ⟨_, updO_known hkn, trivial, ?_⟩
   exact (Exists.intro g199 (Exists.intro g62 (And.intro (And.intro q196 (And.intro rfl (And.intro q197 (trivial)))) (SP.sel hs202 [0, 1, 2, 4, 3] rfl rfl))))
 ·refine Owe.heavy K [(0, 3), (1, 5), (2, 6), (4, 7)] K (all_cons ⟨K, K, ?_⟩ (all_cons ⟨K, K, ?_⟩ (all_cons ⟨K, K, ?_⟩ (all_cons ⟨K, K, ?_⟩ all_nil))))
  ·rintro ρ' w' hs hah ⟨hvl204, hs203⟩
   have hkn : Known ρ' [] := trivial
   refine Step.known _ hkn ?_
   refine Step.allocA (e := (eInt .u32)) (l := (List.replicate 64 0)) (m := 64) (t := 91) (z := .agg (cellsOf (eInt .u32) (List.replicate 64 0)).toArray) (d := (some 6)) (k := 3) K rfl K rfl rfl K hs203 ?_
   intro g205 w206 (hs208 : SP [] w0 w206 [arrE 95 (eInt .u32) g5 8 p1, arrE 91 (eInt .u32) g9 64 p3, arrE 95 (eInt .u32) g13 8 (List.replicate 8 0), arrE 91 (eInt .u32) g205 64 (List.replicate 64 0)])
   refine ⟨_, updO_known hkn, trivial, ?_⟩
   exact (Exists.intro g205 (And.intro (And.intro rfl (trivial)) (hs208)))
  ·rintro ρ' w' hs hah ⟨⟨q210, -⟩, hs209⟩
   have hkn : Known ρ' [] := trivial
   refine Step.known _ hkn ?_
   refine Step.allocA (e := (eInt .u32)) (l := (List.replicate 64 0)) (m := 64) (t := 91) (z := .agg (cellsOf (eInt .u32) (List.replicate 64 0)).toArray) (d := (some 6)) (k := 3) K rfl K rfl rfl K hs209 ?_
   intro g212 w213 (hs215 : SP [] w0 w213 [arrE 95 (eInt .u32) g5 8 p1, arrE 91 (eInt .u32) g9 64 p3, arrE 95 (eInt .u32) g13 8 (List.replicate 8 0), arrE 91 (eInt .u32) g212 64 (List.replicate 64 0)])
   refine ⟨_, updO_known hkn, trivial, ?_⟩
   exact (Exists.intro g212 (And.intro (And.intro q210 (And.intro rfl (trivial))) (hs215)))
  ·rintro ρ' w' hs hah ⟨g42, ⟨q217, -⟩, hs216⟩
   have hkn : Known ρ' [] := trivial
   refine Step.known _ hkn ?_
   refine Step.allocA (e := (eInt .u32)) (l := (List.replicate 64 0)) (m := 64) (t := 91) (z := .agg (cellsOf (eInt .u32) (List.replicate 64 0)).toArray) (d := (some 6)) (k := 3) K rfl K rfl rfl K hs216 ?_
   intro g219 w220 (hs222 : SP [] w0 w220 [arrE 95 (eInt .u32) g5 8 p1, arrE 91 (eInt .u32) g9 64 p3, arrE 95 (eInt .u32) g13 8 (List.replicate 8 0), arrE 95 (eInt .u32) g42 8 (List.replicate 8 0), arrE 91 (eInt .u32) g219 64 (List.replicate 64 0)])
   refine ⟨_, updO_known hkn, trivial, ?_⟩
   exact (Exists.intro g42 (Exists.intro g219 (And.intro (And.intro q217 (And.intro rfl (trivial))) (hs222))))
  ·rintro ρ' w' hs hah ⟨g54, ⟨q224, q225, -⟩, hs223⟩
   have hkn : Known ρ' [] := trivial
   refine Step.known _ hkn ?_
   refine Step.allocA (e := (eInt .u32)) (l := (List.replicate 64 0)) (m := 64) (t := 91) (z := .agg (cellsOf (eInt .u32) (List.replicate 64 0)).toArray) (d := (some 6)) (k := 3) K rfl K rfl rfl K hs223 ?_
   intro g227 w228 (hs230 : SP [] w0 w228 [arrE 95 (eInt .u32) g5 8 p1, arrE 91 (eInt .u32) g9 64 p3, arrE 95 (eInt .u32) g13 8 (List.replicate 8 0), arrE 95 (eInt .u32) g54 8 (List.replicate 8 0), arrE 91 (eInt .u32) g227 64 (List.replicate 64 0)])
   refine ⟨_, updO_known hkn, trivial, ?_⟩
   exact (Exists.intro g54 (Exists.intro g227 (And.intro (And.intro q224 (And.intro q225 (And.intro rfl (trivial)))) (hs230))))
 ·refine Owe.heavy K [(7, 8)] K (all_cons ⟨K, K, ?_⟩ all_nil)
  ·rintro ρ' w' hs hah ⟨g78, g82, ⟨q232, q233, q234, -⟩, hs231⟩
   have hkn : Known ρ' [(5, (pt g78 0)), (15, (.agg (cellsOf (eInt .u32) p1).toArray))] := ⟨(valF_eq (h := 2) K).symm.trans q233, hah 0 15 K, trivial⟩
   refine Step.known _ hkn ?_
   refine Step.storeA (e := (eInt .u32)) (l := (List.replicate 8 0)) (l' := p1) (m := 8) (t := 95) (x := (.tmp 5)) (y := (.tmp 15)) (g := g78) (i := 3) (d := none) (k := 4) K rfl K K ha2 hs231 rfl K ?_
   intro w236 (hs238 : SP [] w0 w236 [arrE 95 (eInt .u32) g5 8 p1, arrE 91 (eInt .u32) g9 64 p3, arrE 95 (eInt .u32) g13 8 (List.replicate 8 0), arrE 95 (eInt .u32) g78 8 p1, arrE 91 (eInt .u32) g82 64 (List.replicate 64 0)])
   refine ⟨_, updO_known hkn, trivial, ?_⟩
   exact (Exists.intro g78 (Exists.intro g82 (And.intro (And.intro q232 (And.intro q233 (And.intro q234 (And.intro rfl (trivial))))) (hs238))))
 ·refine Owe.heavy K [(8, 9)] K (all_cons ⟨K, K, ?_⟩ all_nil)
  ·rintro ρ' w' hs hah ⟨g90, g94, ⟨q240, q241, q242, q243, -⟩, hs239⟩
   have hkn : Known ρ' [(6, (pt g94 0)), (16, (.agg (cellsOf (eInt .u32) z17).toArray))] := ⟨(valF_eq (h := 3) K).symm.trans q242, (valF_eq (h := 1) K).symm.trans q240, trivial⟩
   refine Step.known _ hkn ?_
   refine Step.storeA (e := (eInt .u32)) (l := (List.replicate 64 0)) (l' := z17) (m := 64) (t := 91) (x := (.tmp 6)) (y := (.tmp 16)) (g := g94) (i := 4) (d := none) (k := 5) K rfl K K ha19 hs239 rfl K ?_
   intro w245 (hs247 : SP [] w0 w245 [arrE 95 (eInt .u32) g5 8 p1, arrE 91 (eInt .u32) g9 64 p3, arrE 95 (eInt .u32) g13 8 (List.replicate 8 0), arrE 95 (eInt .u32) g90 8 p1, arrE 91 (eInt .u32) g94 64 z17])
   refine ⟨_, updO_known hkn, trivial, ?_⟩
   exact (Exists.intro g90 (Exists.intro g94 (And.intro (And.intro q240 (And.intro q241 (And.intro q242 (And.intro q243 (And.intro rfl (trivial)))))) (hs247))))
 ·rintro ρ' w' hs hf ⟨g105, g109, ⟨q249, q250, q251, q252, q253, -⟩, hs248⟩
  refine postKnown [(2, (pt g5 0)), (3, (pt g9 0)), (4, (pt g13 0)), (5, (pt g105 0)), (6, (pt g109 0))] ⟨(hs 2 K).trans K, (hs 3 K).trans K, (hs 4 K).trans K, (valF_eq (h := 2) K).symm.trans q250, (valF_eq (h := 3) K).symm.trans q251, trivial⟩ ?_
  obtain ⟨w255, hww255⟩ : ∃ x, w' = x := ⟨_, rfl⟩
  rw [hww255] at hs248 ⊢
  refine At.sq K ?_
  refine At.sq K ?_
  refine At.region K K ?_
  refine In.run' 1 (k' := 1) rfl [(17, (.int .i64 0))] K ?_
  refine In.fin K ?_
  refine At.bk K (id := 0) K ?_
  refine At.lp K (fun f4 ρ w => ∃ (v1203 : (List Int)) (v1204 : Int), Known ρ [(2, (pt g5 0)), (3, (pt g9 0)), (4, (pt g13 0)), (5, (pt g105 0)), (6, (pt g109 0)), (17, (.int .i64 v1204))] ∧ SP [] w0 w [arrE 95 (eInt .u32) g5 8 p1, arrE 91 (eInt .u32) g9 64 p3, arrE 95 (eInt .u32) g13 8 (List.replicate 8 0), arrE 95 (eInt .u32) g105 8 v1203, arrE 91 (eInt .u32) g109 64 z17] ∧ L_digest_state_behind_l3 p1 p3 z17 f4 v1203 v1204 = some r) (by rintro ρ w ⟨v1203, v1204, hk, hs, H⟩; cases H) ?_ fuel ?_
  ·rintro f4 ρ w1201 ⟨v1203, v1204, hk, hs1202, H⟩
   refine At.known [(2, (pt g5 0)), (3, (pt g9 0)), (4, (pt g13 0)), (5, (pt g105 0)), (6, (pt g109 0)), (17, (.int .i64 v1204))] hk ?_
   replace H := (show L_digest_state_behind_b3 (L_digest_state_behind_l3 p1 p3 z17 f4) p1 p3 z17 v1203 v1204 = some r from H)
   unfold L_digest_state_behind_b3 at H
   have ha1676 := arrE_len (SP.get hs1202 (i := 0) rfl)
   have ha1677 := arrE_len (SP.get hs1202 (i := 1) rfl)
   have ha1678 := arrE_len (SP.get hs1202 (i := 2) rfl)
   have ha1679 := arrE_len (SP.get hs1202 (i := 3) rfl)
   have ha1680 := arrE_len (SP.get hs1202 (i := 4) rfl)
   refine At.sq K ?_
   refine At.region K K ?_
   refine In.run' 1 (k' := 1) rfl [(18, (.bool (decide (v1204 < 64))))] K ?_
   refine In.fin K ?_
   refine At.sq K ?_
   refine At.cd K (o := (.tmp 18)) K (b := (decide (v1204 < 64))) K (fun hb1681 => ?_) (fun hb1681 => ?_)
   ·have H := ct H hb1681
    refine At.skip K ?_
    refine At.sq K ?_
    refine At.bk K (id := 1) K ?_
    refine At.sq K ?_
    refine At.region K K ?_
    refine In.run' 2 (k' := 2) rfl [(19, (.int .i64 v1204)), (7, (.int .i64 v1204))] K ?_
    refine In.fin K ?_
    refine At.sq K ?_
    obtain ⟨x1682, hp1683, hq1684, hx1685, H⟩ := idx_elim H
    obtain ⟨x1686, hp1687, hq1688, hx1689, H⟩ := idx_elim H
    obtain ⟨x1690, hp1691, hq1692, hx1693, H⟩ := idx_elim H
    obtain ⟨x1694, hp1695, hq1696, hx1697, H⟩ := idx_elim H
    refine At.stages K K K K K [GElem0 (some ⟨g105, 0, none⟩) (eInt .u32).sz 0, GEq (.int .u32 x1682), GElem0 (some ⟨g105, 0, none⟩) (eInt .u32).sz 1, GEq (.int .u32 x1686), GElem0 (some ⟨g105, 0, none⟩) (eInt .u32).sz 2, GEq (.int .u32 x1690), GElem0 (some ⟨g105, 0, none⟩) (eInt .u32).sz 4, GEq (.int .u32 x1694), GEq (.int .u32 x1682), GEq (.int .u32 x1686), GEq (.int .u32 x1690), GEq (.int .u32 x1694)] [] [([], fun vs w => VL vs [] ∧ SP [] w0 w [arrE 95 (eInt .u32) g5 8 p1, arrE 91 (eInt .u32) g9 64 p3, arrE 95 (eInt .u32) g13 8 (List.replicate 8 0), arrE 95 (eInt .u32) g105 8 v1203, arrE 91 (eInt .u32) g109 64 z17])] (N := 12) K ⟨K, Nat.zero_lt_succ _⟩ (show VL [] [] ∧ SP [] w0 w1201.drew [arrE 95 (eInt .u32) g5 8 p1, arrE 91 (eInt .u32) g9 64 p3, arrE 95 (eInt .u32) g13 8 (List.replicate 8 0), arrE 95 (eInt .u32) g105 8 v1203, arrE 91 (eInt .u32) g109 64 z17] from ⟨trivial, SP.drew hs1202⟩) ⟨⟨⟨⟨⟨⟨⟨⟨⟨⟨⟨⟨trivial, ?_⟩, ?_⟩, ?_⟩, ?_⟩, ?_⟩, ?_⟩, ?_⟩, ?_⟩, ?_⟩, ?_⟩, ?_⟩, ?_⟩ (last := 0) K ?_
    ·refine Owe.light K [0] K (all_cons ?_ all_nil)
     ·rintro ρ' w' hs hah ⟨hvl1699, hs1698⟩
      have hkn : Known ρ' [(5, (pt g105 0))] := ⟨(hs 5 K).trans K, trivial⟩
      refine Step.known _ hkn ?_
      refine Step.elemA (e := (eInt .u32)) (l := v1203) (m := 8) (g := g105) (T := 95) (E := 81) (x := (.tmp 5)) (ix := (.const (.int .i64 (0)))) (ki := .i64) (iz := 0) (i := 3) (d := (some 20)) (k := 0) K rfl K K K K hs1698 rfl hp1683 hq1684 ?_
      exact ⟨rfl, _, updO_known hkn, ⟨g105, 0, rfl, rfl⟩⟩
    ·refine Owe.light K [0] K (all_cons ?_ all_nil)
     ·rintro ρ' w' hs hah ⟨hvl1701, hs1700⟩
      obtain ⟨b1702, o1703, hA1704, e20⟩ := hah 0 20 K
      have hkn : Known ρ' [(20, (.pointer (some ⟨b1702, (o1703 + Int.toNat 0 * (eInt .u32).sz), none⟩)))] := ⟨e20, trivial⟩
      refine Step.known _ hkn ?_
      refine Step.cell (t := 81) (x := (.tmp 20)) (b := b1702) (off := (o1703 + Int.toNat 0 * (eInt .u32).sz)) (v := (.int .u32 x1682)) (d := (some 21)) (k := 1) K rfl K K (elem_cell (e := (eInt .u32)) (rdt_cells (arrE_rd (SP.get hs1700 (i := 3) rfl)) hA1704 hp1683 hq1684) hx1685 (j := 0) rfl) ?_
      exact ⟨rfl, _, updO_known hkn, rfl⟩
    ·refine Owe.light K [0] K (all_cons ?_ all_nil)
     ·rintro ρ' w' hs hah ⟨hvl1706, hs1705⟩
      have hkn : Known ρ' [(5, (pt g105 0))] := ⟨(hs 5 K).trans K, trivial⟩
      refine Step.known _ hkn ?_
      refine Step.elemA (e := (eInt .u32)) (l := v1203) (m := 8) (g := g105) (T := 95) (E := 81) (x := (.tmp 5)) (ix := (.const (.int .i64 (1)))) (ki := .i64) (iz := 1) (i := 3) (d := (some 22)) (k := 2) K rfl K K K K hs1705 rfl hp1687 hq1688 ?_
      exact ⟨rfl, _, updO_known hkn, ⟨g105, 0, rfl, rfl⟩⟩
    ·refine Owe.light K [0] K (all_cons ?_ all_nil)
     ·rintro ρ' w' hs hah ⟨hvl1708, hs1707⟩
      obtain ⟨b1709, o1710, hA1711, e22⟩ := hah 2 22 K
      have hkn : Known ρ' [(22, (.pointer (some ⟨b1709, (o1710 + Int.toNat 1 * (eInt .u32).sz), none⟩)))] := ⟨e22, trivial⟩
      refine Step.known _ hkn ?_
      refine Step.cell (t := 81) (x := (.tmp 22)) (b := b1709) (off := (o1710 + Int.toNat 1 * (eInt .u32).sz)) (v := (.int .u32 x1686)) (d := (some 23)) (k := 3) K rfl K K (elem_cell (e := (eInt .u32)) (rdt_cells (arrE_rd (SP.get hs1707 (i := 3) rfl)) hA1711 hp1687 hq1688) hx1689 (j := 0) rfl) ?_
      exact ⟨rfl, _, updO_known hkn, rfl⟩
    ·refine Owe.light K [0] K (all_cons ?_ all_nil)
     ·rintro ρ' w' hs hah ⟨hvl1713, hs1712⟩
      have hkn : Known ρ' [(5, (pt g105 0))] := ⟨(hs 5 K).trans K, trivial⟩
      refine Step.known _ hkn ?_
      refine Step.elemA (e := (eInt .u32)) (l := v1203) (m := 8) (g := g105) (T := 95) (E := 81) (x := (.tmp 5)) (ix := (.const (.int .i64 (2)))) (ki := .i64) (iz := 2) (i := 3) (d := (some 24)) (k := 4) K rfl K K K K hs1712 rfl hp1691 hq1692 ?_
      exact ⟨rfl, _, updO_known hkn, ⟨g105, 0, rfl, rfl⟩⟩
    ·refine Owe.light K [0] K (all_cons ?_ all_nil)
     ·rintro ρ' w' hs hah ⟨hvl1715, hs1714⟩
      obtain ⟨b1716, o1717, hA1718, e24⟩ := hah 4 24 K
      have hkn : Known ρ' [(24, (.pointer (some ⟨b1716, (o1717 + Int.toNat 2 * (eInt .u32).sz), none⟩)))] := ⟨e24, trivial⟩
      refine Step.known _ hkn ?_
      refine Step.cell (t := 81) (x := (.tmp 24)) (b := b1716) (off := (o1717 + Int.toNat 2 * (eInt .u32).sz)) (v := (.int .u32 x1690)) (d := (some 25)) (k := 5) K rfl K K (elem_cell (e := (eInt .u32)) (rdt_cells (arrE_rd (SP.get hs1714 (i := 3) rfl)) hA1718 hp1691 hq1692) hx1693 (j := 0) rfl) ?_
      exact ⟨rfl, _, updO_known hkn, rfl⟩
    ·refine Owe.light K [0] K (all_cons ?_ all_nil)
     ·rintro ρ' w' hs hah ⟨hvl1720, hs1719⟩
      have hkn : Known ρ' [(5, (pt g105 0))] := ⟨(hs 5 K).trans K, trivial⟩
      refine Step.known _ hkn ?_
      refine Step.elemA (e := (eInt .u32)) (l := v1203) (m := 8) (g := g105) (T := 95) (E := 81) (x := (.tmp 5)) (ix := (.const (.int .i64 (4)))) (ki := .i64) (iz := 4) (i := 3) (d := (some 26)) (k := 6) K rfl K K K K hs1719 rfl hp1695 hq1696 ?_
      exact ⟨rfl, _, updO_known hkn, ⟨g105, 0, rfl, rfl⟩⟩
    ·refine Owe.light K [0] K (all_cons ?_ all_nil)
     ·rintro ρ' w' hs hah ⟨hvl1722, hs1721⟩
      obtain ⟨b1723, o1724, hA1725, e26⟩ := hah 6 26 K
      have hkn : Known ρ' [(26, (.pointer (some ⟨b1723, (o1724 + Int.toNat 4 * (eInt .u32).sz), none⟩)))] := ⟨e26, trivial⟩
      refine Step.known _ hkn ?_
      refine Step.cell (t := 81) (x := (.tmp 26)) (b := b1723) (off := (o1724 + Int.toNat 4 * (eInt .u32).sz)) (v := (.int .u32 x1694)) (d := (some 27)) (k := 7) K rfl K K (elem_cell (e := (eInt .u32)) (rdt_cells (arrE_rd (SP.get hs1721 (i := 3) rfl)) hA1725 hp1695 hq1696) hx1697 (j := 0) rfl) ?_
      exact ⟨rfl, _, updO_known hkn, rfl⟩
    ·exact Owe.run K [(21, (.int .u32 x1682))] ⟨gA 1 K K, trivial⟩ (.int .u32 x1682) (fun _ _ => K) rfl
    ·exact Owe.run K [(23, (.int .u32 x1686))] ⟨gA 3 K K, trivial⟩ (.int .u32 x1686) (fun _ _ => K) rfl
    ·exact Owe.run K [(25, (.int .u32 x1690))] ⟨gA 5 K K, trivial⟩ (.int .u32 x1690) (fun _ _ => K) rfl
    ·exact Owe.run K [(27, (.int .u32 x1694))] ⟨gA 7 K K, trivial⟩ (.int .u32 x1694) (fun _ _ => K) rfl
    ·rintro ρ' w' hs hf ⟨hvl1727, hs1726⟩
     refine postKnown [(2, (pt g5 0)), (3, (pt g9 0)), (4, (pt g13 0)), (5, (pt g105 0)), (6, (pt g109 0)), (7, (.int .i64 v1204)), (8, (.int .u32 x1682)), (9, (.int .u32 x1686)), (10, (.int .u32 x1690)), (11, (.int .u32 x1694)), (17, (.int .i64 v1204))] ⟨(hs 2 K).trans K, (hs 3 K).trans K, (hs 4 K).trans K, (hs 5 K).trans K, (hs 6 K).trans K, (hs 7 K).trans K, hf 8 8 K, hf 9 9 K, hf 10 10 K, hf 11 11 K, (hs 17 K).trans K, trivial⟩ ?_
     obtain ⟨w1728, hww1728⟩ : ∃ x, w' = x := ⟨_, rfl⟩
     rw [hww1728] at hs1726 ⊢
     refine At.sq K ?_
     obtain ⟨x1729, hp1730, hq1731, hx1732, H⟩ := idx_elim H
     obtain ⟨z1733, hz1734, H⟩ := bind_elim H
     obtain ⟨x1739, hp1740, hq1741, hx1742, H⟩ := idx_elim H
     obtain ⟨x1743, hp1744, hq1745, hx1746, H⟩ := idx_elim H
     obtain ⟨x1747, hp1748, hq1749, hx1750, H⟩ := idx_elim H
     obtain ⟨x1751, hp1752, hq1753, hx1754, H⟩ := idx_elim H
     obtain ⟨x1755, hp1756, hq1757, hx1758, H⟩ := idx_elim H
     refine At.stages K K K K K [GElem0 (some ⟨g105, 0, none⟩) (eInt .u32).sz 7, GEq (.int .u32 x1729), GEq (.int .u32 x1694), GEq (.agg (cellsOf (eInt .i64) ([6, 11, 25] : List Int)).toArray), GEq (.int .u32 z1733), GEq (.int .u32 (IntKind.wrap .u32 (x1729 + z1733))), GElem0 (some ⟨g105, 0, none⟩) (eInt .u32).sz 6, GEq (.int .u32 x1739), GEq (.int .u32 x1694), GElem0 (some ⟨g105, 0, none⟩) (eInt .u32).sz 5, GEq (.int .u32 x1743), GElem0 (some ⟨g105, 0, none⟩) (eInt .u32).sz 6, GEq (.int .u32 x1747), GEq (.int .u32 (bXor .u32 x1743 x1747)), GEq (.int .u32 (bAnd .u32 x1694 (bXor .u32 x1743 x1747))), GEq (.int .u32 (bXor .u32 x1739 (bAnd .u32 x1694 (bXor .u32 x1743 x1747)))), GEq (.int .u32 (IntKind.wrap .u32 ((IntKind.wrap .u32 (x1729 + z1733)) + (bXor .u32 x1739 (bAnd .u32 x1694 (bXor .u32 x1743 x1747)))))), GEq (.int .i64 v1204), GElem0 (some ⟨g109, 0, none⟩) (eInt .u32).sz v1204, GEq (.int .u32 x1751), GEq (.int .u32 (IntKind.wrap .u32 ((IntKind.wrap .u32 ((IntKind.wrap .u32 (x1729 + z1733)) + (bXor .u32 x1739 (bAnd .u32 x1694 (bXor .u32 x1743 x1747))))) + x1751))), GEq (.int .i64 v1204), GElem0 (some ⟨g9, 0, none⟩) (eInt .u32).sz v1204, GEq (.int .u32 x1755), GEq (.int .u32 (IntKind.wrap .u32 ((IntKind.wrap .u32 ((IntKind.wrap .u32 ((IntKind.wrap .u32 (x1729 + z1733)) + (bXor .u32 x1739 (bAnd .u32 x1694 (bXor .u32 x1743 x1747))))) + x1751)) + x1755))), GEq (.int .u32 (IntKind.wrap .u32 ((IntKind.wrap .u32 ((IntKind.wrap .u32 ((IntKind.wrap .u32 (x1729 + z1733)) + (bXor .u32 x1739 (bAnd .u32 x1694 (bXor .u32 x1743 x1747))))) + x1751)) + x1755)))] [4] [([], fun vs w => VL vs [] ∧ SP [] w0 w [arrE 95 (eInt .u32) g5 8 p1, arrE 91 (eInt .u32) g9 64 p3, arrE 95 (eInt .u32) g13 8 (List.replicate 8 0), arrE 95 (eInt .u32) g105 8 v1203, arrE 91 (eInt .u32) g109 64 z17]), ([4], fun vs w => VL vs [(.int .u32 z1733)] ∧ SP [] w0 w [arrE 95 (eInt .u32) g5 8 p1, arrE 91 (eInt .u32) g9 64 p3, arrE 95 (eInt .u32) g13 8 (List.replicate 8 0), arrE 95 (eInt .u32) g105 8 v1203, arrE 91 (eInt .u32) g109 64 z17])] (N := 26) K ⟨K, Nat.zero_lt_succ _⟩ (show VL [] [] ∧ SP [] w0 w1728.drew [arrE 95 (eInt .u32) g5 8 p1, arrE 91 (eInt .u32) g9 64 p3, arrE 95 (eInt .u32) g13 8 (List.replicate 8 0), arrE 95 (eInt .u32) g105 8 v1203, arrE 91 (eInt .u32) g109 64 z17] from ⟨trivial, SP.drew hs1726⟩) ⟨⟨⟨⟨⟨⟨⟨⟨⟨⟨⟨⟨⟨⟨⟨⟨⟨⟨⟨⟨⟨⟨⟨⟨⟨⟨trivial, ?_⟩, ?_⟩, ?_⟩, ?_⟩, ?_⟩, ?_⟩, ?_⟩, ?_⟩, ?_⟩, ?_⟩, ?_⟩, ?_⟩, ?_⟩, ?_⟩, ?_⟩, ?_⟩, ?_⟩, ?_⟩, ?_⟩, ?_⟩, ?_⟩, ?_⟩, ?_⟩, ?_⟩, ?_⟩, ?_⟩ (last := 1) K ?_
     ·refine Owe.light K [0, 1] K (all_cons ?_ (all_cons ?_ all_nil))
      ·rintro ρ' w' hs hah ⟨hvl1764, hs1763⟩
       have hkn : Known ρ' [(5, (pt g105 0))] := ⟨(hs 5 K).trans K, trivial⟩
       refine Step.known _ hkn ?_
       refine Step.elemA (e := (eInt .u32)) (l := v1203) (m := 8) (g := g105) (T := 95) (E := 81) (x := (.tmp 5)) (ix := (.const (.int .i64 (7)))) (ki := .i64) (iz := 7) (i := 3) (d := (some 28)) (k := 0) K rfl K K K K hs1763 rfl hp1730 hq1731 ?_
       exact ⟨rfl, _, updO_known hkn, ⟨g105, 0, rfl, rfl⟩⟩
      ·rintro ρ' w' hs hah ⟨⟨q1766, -⟩, hs1765⟩
       have hkn : Known ρ' [(5, (pt g105 0))] := ⟨(hs 5 K).trans K, trivial⟩
       refine Step.known _ hkn ?_
       refine Step.elemA (e := (eInt .u32)) (l := v1203) (m := 8) (g := g105) (T := 95) (E := 81) (x := (.tmp 5)) (ix := (.const (.int .i64 (7)))) (ki := .i64) (iz := 7) (i := 3) (d := (some 28)) (k := 0) K rfl K K K K hs1765 rfl hp1730 hq1731 ?_
       exact ⟨rfl, _, updO_known hkn, ⟨g105, 0, rfl, rfl⟩⟩
     ·refine Owe.light K [0, 1] K (all_cons ?_ (all_cons ?_ all_nil))
      ·rintro ρ' w' hs hah ⟨hvl1769, hs1768⟩
       obtain ⟨b1770, o1771, hA1772, e28⟩ := hah 0 28 K
       have hkn : Known ρ' [(28, (.pointer (some ⟨b1770, (o1771 + Int.toNat 7 * (eInt .u32).sz), none⟩)))] := ⟨e28, trivial⟩
       refine Step.known _ hkn ?_
       refine Step.cell (t := 81) (x := (.tmp 28)) (b := b1770) (off := (o1771 + Int.toNat 7 * (eInt .u32).sz)) (v := (.int .u32 x1729)) (d := (some 29)) (k := 1) K rfl K K (elem_cell (e := (eInt .u32)) (rdt_cells (arrE_rd (SP.get hs1768 (i := 3) rfl)) hA1772 hp1730 hq1731) hx1732 (j := 0) rfl) ?_
       exact ⟨rfl, _, updO_known hkn, rfl⟩
      ·rintro ρ' w' hs hah ⟨⟨q1774, -⟩, hs1773⟩
       obtain ⟨b1776, o1777, hA1778, e28⟩ := hah 0 28 K
       have hkn : Known ρ' [(28, (.pointer (some ⟨b1776, (o1777 + Int.toNat 7 * (eInt .u32).sz), none⟩)))] := ⟨e28, trivial⟩
       refine Step.known _ hkn ?_
       refine Step.cell (t := 81) (x := (.tmp 28)) (b := b1776) (off := (o1777 + Int.toNat 7 * (eInt .u32).sz)) (v := (.int .u32 x1729)) (d := (some 29)) (k := 1) K rfl K K (elem_cell (e := (eInt .u32)) (rdt_cells (arrE_rd (SP.get hs1773 (i := 3) rfl)) hA1778 hp1730 hq1731) hx1732 (j := 0) rfl) ?_
       exact ⟨rfl, _, updO_known hkn, rfl⟩
     ·exact Owe.run K [(11, (.int .u32 x1694))] ⟨gS K K, trivial⟩ (.int .u32 x1694) (fun _ _ => K) rfl
     ·exact Owe.run K [] trivial (.agg (cellsOf (eInt .i64) ([6, 11, 25] : List Int)).toArray) (fun _ _ => K) rfl
     ·refine Owe.heavy K [(0, 1)] K (all_cons ⟨K, K, ?_⟩ all_nil)
      ·rintro ρ' w' hs hah ⟨hvl1780, hs1779⟩
       have hkn : Known ρ' [(30, (.int .u32 x1694)), (31, (.agg (cellsOf (eInt .i64) ([6, 11, 25] : List Int)).toArray))] := ⟨hah 2 30 K, hah 3 31 K, trivial⟩
       refine Step.known _ hkn ?_
       refine Step.callF (f := 63) (fo := (.func 63)) (xs := #[(.tmp 30), (.tmp 31), (.const (.bool false))]) (tys := #[81, 105, 4]) (first := #[]) (captured := #[]) (d := (some 32)) (k := 4) K rfl K K Tryd.call63 (L_digest_mixed_walk  x1694 ([6, 11, 25] : List Int) false w' rfl z1733 hz1734) ?_
       rintro e w1781 ⟨rfl, hs1782⟩
       refine ⟨_, rfl, ?_⟩
       have hs1784 : SP [] w0 w1781 [arrE 95 (eInt .u32) g5 8 p1, arrE 91 (eInt .u32) g9 64 p3, arrE 95 (eInt .u32) g13 8 (List.replicate 8 0), arrE 95 (eInt .u32) g105 8 v1203, arrE 91 (eInt .u32) g109 64 z17] := SP.call hs1779 hs1782
       clear hs1782
       refine ⟨_, updO_known hkn, rfl, ?_⟩
       exact (And.intro (And.intro rfl (trivial)) (hs1784))
     ·exact Owe.run K [(29, (.int .u32 x1729)), (32, (.int .u32 z1733))] ⟨gA 1 K K, gA 4 K K, trivial⟩ (.int .u32 (IntKind.wrap .u32 (x1729 + z1733))) (fun _ _ => K) rfl
     ·refine Owe.light K [0, 1] K (all_cons ?_ (all_cons ?_ all_nil))
      ·rintro ρ' w' hs hah ⟨hvl1786, hs1785⟩
       have hkn : Known ρ' [(5, (pt g105 0))] := ⟨(hs 5 K).trans K, trivial⟩
       refine Step.known _ hkn ?_
       refine Step.elemA (e := (eInt .u32)) (l := v1203) (m := 8) (g := g105) (T := 95) (E := 81) (x := (.tmp 5)) (ix := (.const (.int .i64 (6)))) (ki := .i64) (iz := 6) (i := 3) (d := (some 34)) (k := 6) K rfl K K K K hs1785 rfl hp1740 hq1741 ?_
       exact ⟨rfl, _, updO_known hkn, ⟨g105, 0, rfl, rfl⟩⟩
      ·rintro ρ' w' hs hah ⟨⟨q1788, -⟩, hs1787⟩
       have hkn : Known ρ' [(5, (pt g105 0))] := ⟨(hs 5 K).trans K, trivial⟩
       refine Step.known _ hkn ?_
       refine Step.elemA (e := (eInt .u32)) (l := v1203) (m := 8) (g := g105) (T := 95) (E := 81) (x := (.tmp 5)) (ix := (.const (.int .i64 (6)))) (ki := .i64) (iz := 6) (i := 3) (d := (some 34)) (k := 6) K rfl K K K K hs1787 rfl hp1740 hq1741 ?_
       exact ⟨rfl, _, updO_known hkn, ⟨g105, 0, rfl, rfl⟩⟩
     ·refine Owe.light K [0, 1] K (all_cons ?_ (all_cons ?_ all_nil))
      ·rintro ρ' w' hs hah ⟨hvl1791, hs1790⟩
       obtain ⟨b1792, o1793, hA1794, e34⟩ := hah 6 34 K
       have hkn : Known ρ' [(34, (.pointer (some ⟨b1792, (o1793 + Int.toNat 6 * (eInt .u32).sz), none⟩)))] := ⟨e34, trivial⟩
       refine Step.known _ hkn ?_
       refine Step.cell (t := 81) (x := (.tmp 34)) (b := b1792) (off := (o1793 + Int.toNat 6 * (eInt .u32).sz)) (v := (.int .u32 x1739)) (d := (some 35)) (k := 7) K rfl K K (elem_cell (e := (eInt .u32)) (rdt_cells (arrE_rd (SP.get hs1790 (i := 3) rfl)) hA1794 hp1740 hq1741) hx1742 (j := 0) rfl) ?_
       exact ⟨rfl, _, updO_known hkn, rfl⟩
      ·rintro ρ' w' hs hah ⟨⟨q1796, -⟩, hs1795⟩
       obtain ⟨b1798, o1799, hA1800, e34⟩ := hah 6 34 K
       have hkn : Known ρ' [(34, (.pointer (some ⟨b1798, (o1799 + Int.toNat 6 * (eInt .u32).sz), none⟩)))] := ⟨e34, trivial⟩
       refine Step.known _ hkn ?_
       refine Step.cell (t := 81) (x := (.tmp 34)) (b := b1798) (off := (o1799 + Int.toNat 6 * (eInt .u32).sz)) (v := (.int .u32 x1739)) (d := (some 35)) (k := 7) K rfl K K (elem_cell (e := (eInt .u32)) (rdt_cells (arrE_rd (SP.get hs1795 (i := 3) rfl)) hA1800 hp1740 hq1741) hx1742 (j := 0) rfl) ?_
       exact ⟨rfl, _, updO_known hkn, rfl⟩
     ·exact Owe.run K [(11, (.int .u32 x1694))] ⟨gS K K, trivial⟩ (.int .u32 x1694) (fun _ _ => K) rfl
     ·refine Owe.light K [0, 1] K (all_cons ?_ (all_cons ?_ all_nil))
      ·rintro ρ' w' hs hah ⟨hvl1802, hs1801⟩
       have hkn : Known ρ' [(5, (pt g105 0))] := ⟨(hs 5 K).trans K, trivial⟩
       refine Step.known _ hkn ?_
       refine Step.elemA (e := (eInt .u32)) (l := v1203) (m := 8) (g := g105) (T := 95) (E := 81) (x := (.tmp 5)) (ix := (.const (.int .i64 (5)))) (ki := .i64) (iz := 5) (i := 3) (d := (some 37)) (k := 9) K rfl K K K K hs1801 rfl hp1744 hq1745 ?_
       exact ⟨rfl, _, updO_known hkn, ⟨g105, 0, rfl, rfl⟩⟩
      ·rintro ρ' w' hs hah ⟨⟨q1804, -⟩, hs1803⟩
       have hkn : Known ρ' [(5, (pt g105 0))] := ⟨(hs 5 K).trans K, trivial⟩
       refine Step.known _ hkn ?_
       refine Step.elemA (e := (eInt .u32)) (l := v1203) (m := 8) (g := g105) (T := 95) (E := 81) (x := (.tmp 5)) (ix := (.const (.int .i64 (5)))) (ki := .i64) (iz := 5) (i := 3) (d := (some 37)) (k := 9) K rfl K K K K hs1803 rfl hp1744 hq1745 ?_
       exact ⟨rfl, _, updO_known hkn, ⟨g105, 0, rfl, rfl⟩⟩
     ·refine Owe.light K [0, 1] K (all_cons ?_ (all_cons ?_ all_nil))
      ·rintro ρ' w' hs hah ⟨hvl1807, hs1806⟩
       obtain ⟨b1808, o1809, hA1810, e37⟩ := hah 9 37 K
       have hkn : Known ρ' [(37, (.pointer (some ⟨b1808, (o1809 + Int.toNat 5 * (eInt .u32).sz), none⟩)))] := ⟨e37, trivial⟩
       refine Step.known _ hkn ?_
       refine Step.cell (t := 81) (x := (.tmp 37)) (b := b1808) (off := (o1809 + Int.toNat 5 * (eInt .u32).sz)) (v := (.int .u32 x1743)) (d := (some 38)) (k := 10) K rfl K K (elem_cell (e := (eInt .u32)) (rdt_cells (arrE_rd (SP.get hs1806 (i := 3) rfl)) hA1810 hp1744 hq1745) hx1746 (j := 0) rfl) ?_
       exact ⟨rfl, _, updO_known hkn, rfl⟩
      ·rintro ρ' w' hs hah ⟨⟨q1812, -⟩, hs1811⟩
       obtain ⟨b1814, o1815, hA1816, e37⟩ := hah 9 37 K
       have hkn : Known ρ' [(37, (.pointer (some ⟨b1814, (o1815 + Int.toNat 5 * (eInt .u32).sz), none⟩)))] := ⟨e37, trivial⟩
       refine Step.known _ hkn ?_
       refine Step.cell (t := 81) (x := (.tmp 37)) (b := b1814) (off := (o1815 + Int.toNat 5 * (eInt .u32).sz)) (v := (.int .u32 x1743)) (d := (some 38)) (k := 10) K rfl K K (elem_cell (e := (eInt .u32)) (rdt_cells (arrE_rd (SP.get hs1811 (i := 3) rfl)) hA1816 hp1744 hq1745) hx1746 (j := 0) rfl) ?_
       exact ⟨rfl, _, updO_known hkn, rfl⟩
     ·refine Owe.light K [0, 1] K (all_cons ?_ (all_cons ?_ all_nil))
      ·rintro ρ' w' hs hah ⟨hvl1818, hs1817⟩
       have hkn : Known ρ' [(5, (pt g105 0))] := ⟨(hs 5 K).trans K, trivial⟩
       refine Step.known _ hkn ?_
       refine Step.elemA (e := (eInt .u32)) (l := v1203) (m := 8) (g := g105) (T := 95) (E := 81) (x := (.tmp 5)) (ix := (.const (.int .i64 (6)))) (ki := .i64) (iz := 6) (i := 3) (d := (some 39)) (k := 11) K rfl K K K K hs1817 rfl hp1748 hq1749 ?_
       exact ⟨rfl, _, updO_known hkn, ⟨g105, 0, rfl, rfl⟩⟩
      ·rintro ρ' w' hs hah ⟨⟨q1820, -⟩, hs1819⟩
       have hkn : Known ρ' [(5, (pt g105 0))] := ⟨(hs 5 K).trans K, trivial⟩
       refine Step.known _ hkn ?_
       refine Step.elemA (e := (eInt .u32)) (l := v1203) (m := 8) (g := g105) (T := 95) (E := 81) (x := (.tmp 5)) (ix := (.const (.int .i64 (6)))) (ki := .i64) (iz := 6) (i := 3) (d := (some 39)) (k := 11) K rfl K K K K hs1819 rfl hp1748 hq1749 ?_
       exact ⟨rfl, _, updO_known hkn, ⟨g105, 0, rfl, rfl⟩⟩
     ·refine Owe.light K [0, 1] K (all_cons ?_ (all_cons ?_ all_nil))
      ·rintro ρ' w' hs hah ⟨hvl1823, hs1822⟩
       obtain ⟨b1824, o1825, hA1826, e39⟩ := hah 11 39 K
       have hkn : Known ρ' [(39, (.pointer (some ⟨b1824, (o1825 + Int.toNat 6 * (eInt .u32).sz), none⟩)))] := ⟨e39, trivial⟩
       refine Step.known _ hkn ?_
       refine Step.cell (t := 81) (x := (.tmp 39)) (b := b1824) (off := (o1825 + Int.toNat 6 * (eInt .u32).sz)) (v := (.int .u32 x1747)) (d := (some 40)) (k := 12) K rfl K K (elem_cell (e := (eInt .u32)) (rdt_cells (arrE_rd (SP.get hs1822 (i := 3) rfl)) hA1826 hp1748 hq1749) hx1750 (j := 0) rfl) ?_
       exact ⟨rfl, _, updO_known hkn, rfl⟩
      ·rintro ρ' w' hs hah ⟨⟨q1828, -⟩, hs1827⟩
       obtain ⟨b1830, o1831, hA1832, e39⟩ := hah 11 39 K
       have hkn : Known ρ' [(39, (.pointer (some ⟨b1830, (o1831 + Int.toNat 6 * (eInt .u32).sz), none⟩)))] := ⟨e39, trivial⟩
       refine Step.known _ hkn ?_
       refine Step.cell (t := 81) (x := (.tmp 39)) (b := b1830) (off := (o1831 + Int.toNat 6 * (eInt .u32).sz)) (v := (.int .u32 x1747)) (d := (some 40)) (k := 12) K rfl K K (elem_cell (e := (eInt .u32)) (rdt_cells (arrE_rd (SP.get hs1827 (i := 3) rfl)) hA1832 hp1748 hq1749) hx1750 (j := 0) rfl) ?_
       exact ⟨rfl, _, updO_known hkn, rfl⟩
     ·exact Owe.run K [(38, (.int .u32 x1743)), (40, (.int .u32 x1747))] ⟨gA 10 K K, gA 12 K K, trivial⟩ (.int .u32 (bXor .u32 x1743 x1747)) (fun _ _ => K) rfl
     ·exact Owe.run K [(36, (.int .u32 x1694)), (41, (.int .u32 (bXor .u32 x1743 x1747)))] ⟨gA 8 K K, gA 13 K K, trivial⟩ (.int .u32 (bAnd .u32 x1694 (bXor .u32 x1743 x1747))) (fun _ _ => K) rfl
     ·exact Owe.run K [(35, (.int .u32 x1739)), (42, (.int .u32 (bAnd .u32 x1694 (bXor .u32 x1743 x1747))))] ⟨gA 7 K K, gA 14 K K, trivial⟩ (.int .u32 (bXor .u32 x1739 (bAnd .u32 x1694 (bXor .u32 x1743 x1747)))) (fun _ _ => K) rfl
     ·exact Owe.run K [(33, (.int .u32 (IntKind.wrap .u32 (x1729 + z1733)))), (43, (.int .u32 (bXor .u32 x1739 (bAnd .u32 x1694 (bXor .u32 x1743 x1747)))))] ⟨gA 5 K K, gA 15 K K, trivial⟩ (.int .u32 (IntKind.wrap .u32 ((IntKind.wrap .u32 (x1729 + z1733)) + (bXor .u32 x1739 (bAnd .u32 x1694 (bXor .u32 x1743 x1747)))))) (fun _ _ => K) rfl
     ·exact Owe.run K [(7, (.int .i64 v1204))] ⟨gS K K, trivial⟩ (.int .i64 v1204) (fun _ _ => K) rfl
     ·refine Owe.light K [0, 1] K (all_cons ?_ (all_cons ?_ all_nil))
      ·rintro ρ' w' hs hah ⟨hvl1834, hs1833⟩
       have hkn : Known ρ' [(6, (pt g109 0)), (45, (.int .i64 v1204))] := ⟨(hs 6 K).trans K, hah 17 45 K, trivial⟩
       refine Step.known _ hkn ?_
       refine Step.elemA (e := (eInt .u32)) (l := z17) (m := 64) (g := g109) (T := 91) (E := 81) (x := (.tmp 6)) (ix := (.tmp 45)) (ki := .i64) (iz := v1204) (i := 4) (d := (some 46)) (k := 18) K rfl K K K K hs1833 rfl hp1752 hq1753 ?_
       exact ⟨rfl, _, updO_known hkn, ⟨g109, 0, rfl, rfl⟩⟩
      ·rintro ρ' w' hs hah ⟨⟨q1836, -⟩, hs1835⟩
       have hkn : Known ρ' [(6, (pt g109 0)), (45, (.int .i64 v1204))] := ⟨(hs 6 K).trans K, hah 17 45 K, trivial⟩
       refine Step.known _ hkn ?_
       refine Step.elemA (e := (eInt .u32)) (l := z17) (m := 64) (g := g109) (T := 91) (E := 81) (x := (.tmp 6)) (ix := (.tmp 45)) (ki := .i64) (iz := v1204) (i := 4) (d := (some 46)) (k := 18) K rfl K K K K hs1835 rfl hp1752 hq1753 ?_
       exact ⟨rfl, _, updO_known hkn, ⟨g109, 0, rfl, rfl⟩⟩
     ·refine Owe.light K [0, 1] K (all_cons ?_ (all_cons ?_ all_nil))
      ·rintro ρ' w' hs hah ⟨hvl1839, hs1838⟩
       obtain ⟨b1840, o1841, hA1842, e46⟩ := hah 18 46 K
       have hkn : Known ρ' [(46, (.pointer (some ⟨b1840, (o1841 + Int.toNat v1204 * (eInt .u32).sz), none⟩)))] := ⟨e46, trivial⟩
       refine Step.known _ hkn ?_
       refine Step.cell (t := 81) (x := (.tmp 46)) (b := b1840) (off := (o1841 + Int.toNat v1204 * (eInt .u32).sz)) (v := (.int .u32 x1751)) (d := (some 47)) (k := 19) K rfl K K (elem_cell (e := (eInt .u32)) (rdt_cells (arrE_rd (SP.get hs1838 (i := 4) rfl)) hA1842 hp1752 hq1753) hx1754 (j := 0) rfl) ?_
       exact ⟨rfl, _, updO_known hkn, rfl⟩
      ·rintro ρ' w' hs hah ⟨⟨q1844, -⟩, hs1843⟩
       obtain ⟨b1846, o1847, hA1848, e46⟩ := hah 18 46 K
       have hkn : Known ρ' [(46, (.pointer (some ⟨b1846, (o1847 + Int.toNat v1204 * (eInt .u32).sz), none⟩)))] := ⟨e46, trivial⟩
       refine Step.known _ hkn ?_
       refine Step.cell (t := 81) (x := (.tmp 46)) (b := b1846) (off := (o1847 + Int.toNat v1204 * (eInt .u32).sz)) (v := (.int .u32 x1751)) (d := (some 47)) (k := 19) K rfl K K (elem_cell (e := (eInt .u32)) (rdt_cells (arrE_rd (SP.get hs1843 (i := 4) rfl)) hA1848 hp1752 hq1753) hx1754 (j := 0) rfl) ?_
       exact ⟨rfl, _, updO_known hkn, rfl⟩
     ·exact Owe.run K [(44, (.int .u32 (IntKind.wrap .u32 ((IntKind.wrap .u32 (x1729 + z1733)) + (bXor .u32 x1739 (bAnd .u32 x1694 (bXor .u32 x1743 x1747))))))), (47, (.int .u32 x1751))] ⟨gA 16 K K, gA 19 K K, trivial⟩ (.int .u32 (IntKind.wrap .u32 ((IntKind.wrap .u32 ((IntKind.wrap .u32 (x1729 + z1733)) + (bXor .u32 x1739 (bAnd .u32 x1694 (bXor .u32 x1743 x1747))))) + x1751))) (fun _ _ => K) rfl
     ·exact Owe.run K [(7, (.int .i64 v1204))] ⟨gS K K, trivial⟩ (.int .i64 v1204) (fun _ _ => K) rfl
     ·refine Owe.light K [0, 1] K (all_cons ?_ (all_cons ?_ all_nil))
      ·rintro ρ' w' hs hah ⟨hvl1850, hs1849⟩
       have hkn : Known ρ' [(3, (pt g9 0)), (49, (.int .i64 v1204))] := ⟨(hs 3 K).trans K, hah 21 49 K, trivial⟩
       refine Step.known _ hkn ?_
       refine Step.elemA (e := (eInt .u32)) (l := p3) (m := 64) (g := g9) (T := 91) (E := 81) (x := (.tmp 3)) (ix := (.tmp 49)) (ki := .i64) (iz := v1204) (i := 1) (d := (some 50)) (k := 22) K rfl K K K K hs1849 rfl hp1756 hq1757 ?_
       exact ⟨rfl, _, updO_known hkn, ⟨g9, 0, rfl, rfl⟩⟩
      ·rintro ρ' w' hs hah ⟨⟨q1852, -⟩, hs1851⟩
       have hkn : Known ρ' [(3, (pt g9 0)), (49, (.int .i64 v1204))] := ⟨(hs 3 K).trans K, hah 21 49 K, trivial⟩
       refine Step.known _ hkn ?_
       refine Step.elemA (e := (eInt .u32)) (l := p3) (m := 64) (g := g9) (T := 91) (E := 81) (x := (.tmp 3)) (ix := (.tmp 49)) (ki := .i64) (iz := v1204) (i := 1) (d := (some 50)) (k := 22) K rfl K K K K hs1851 rfl hp1756 hq1757 ?_
       exact ⟨rfl, _, updO_known hkn, ⟨g9, 0, rfl, rfl⟩⟩
     ·refine Owe.light K [0, 1] K (all_cons ?_ (all_cons ?_ all_nil))
      ·rintro ρ' w' hs hah ⟨hvl1855, hs1854⟩
       obtain ⟨b1856, o1857, hA1858, e50⟩ := hah 22 50 K
       have hkn : Known ρ' [(50, (.pointer (some ⟨b1856, (o1857 + Int.toNat v1204 * (eInt .u32).sz), none⟩)))] := ⟨e50, trivial⟩
       refine Step.known _ hkn ?_
       refine Step.cell (t := 81) (x := (.tmp 50)) (b := b1856) (off := (o1857 + Int.toNat v1204 * (eInt .u32).sz)) (v := (.int .u32 x1755)) (d := (some 51)) (k := 23) K rfl K K (elem_cell (e := (eInt .u32)) (rdt_cells (arrE_rd (SP.get hs1854 (i := 1) rfl)) hA1858 hp1756 hq1757) hx1758 (j := 0) rfl) ?_
       exact ⟨rfl, _, updO_known hkn, rfl⟩
      ·rintro ρ' w' hs hah ⟨⟨q1860, -⟩, hs1859⟩
       obtain ⟨b1862, o1863, hA1864, e50⟩ := hah 22 50 K
       have hkn : Known ρ' [(50, (.pointer (some ⟨b1862, (o1863 + Int.toNat v1204 * (eInt .u32).sz), none⟩)))] := ⟨e50, trivial⟩
       refine Step.known _ hkn ?_
       refine Step.cell (t := 81) (x := (.tmp 50)) (b := b1862) (off := (o1863 + Int.toNat v1204 * (eInt .u32).sz)) (v := (.int .u32 x1755)) (d := (some 51)) (k := 23) K rfl K K (elem_cell (e := (eInt .u32)) (rdt_cells (arrE_rd (SP.get hs1859 (i := 1) rfl)) hA1864 hp1756 hq1757) hx1758 (j := 0) rfl) ?_
       exact ⟨rfl, _, updO_known hkn, rfl⟩
     ·exact Owe.run K [(48, (.int .u32 (IntKind.wrap .u32 ((IntKind.wrap .u32 ((IntKind.wrap .u32 (x1729 + z1733)) + (bXor .u32 x1739 (bAnd .u32 x1694 (bXor .u32 x1743 x1747))))) + x1751)))), (51, (.int .u32 x1755))] ⟨gA 20 K K, gA 23 K K, trivial⟩ (.int .u32 (IntKind.wrap .u32 ((IntKind.wrap .u32 ((IntKind.wrap .u32 ((IntKind.wrap .u32 (x1729 + z1733)) + (bXor .u32 x1739 (bAnd .u32 x1694 (bXor .u32 x1743 x1747))))) + x1751)) + x1755))) (fun _ _ => K) rfl
     ·exact Owe.run K [(52, (.int .u32 (IntKind.wrap .u32 ((IntKind.wrap .u32 ((IntKind.wrap .u32 ((IntKind.wrap .u32 (x1729 + z1733)) + (bXor .u32 x1739 (bAnd .u32 x1694 (bXor .u32 x1743 x1747))))) + x1751)) + x1755))))] ⟨gA 24 K K, trivial⟩ (.int .u32 (IntKind.wrap .u32 ((IntKind.wrap .u32 ((IntKind.wrap .u32 ((IntKind.wrap .u32 (x1729 + z1733)) + (bXor .u32 x1739 (bAnd .u32 x1694 (bXor .u32 x1743 x1747))))) + x1751)) + x1755))) (fun _ _ => K) rfl
     ·rintro ρ' w' hs hf ⟨⟨q1866, -⟩, hs1865⟩
      refine postKnown [(2, (pt g5 0)), (3, (pt g9 0)), (4, (pt g13 0)), (5, (pt g105 0)), (6, (pt g109 0)), (8, (.int .u32 x1682)), (9, (.int .u32 x1686)), (10, (.int .u32 x1690)), (12, (.int .u32 (IntKind.wrap .u32 ((IntKind.wrap .u32 ((IntKind.wrap .u32 ((IntKind.wrap .u32 (x1729 + z1733)) + (bXor .u32 x1739 (bAnd .u32 x1694 (bXor .u32 x1743 x1747))))) + x1751)) + x1755)))), (17, (.int .i64 v1204))] ⟨(hs 2 K).trans K, (hs 3 K).trans K, (hs 4 K).trans K, (hs 5 K).trans K, (hs 6 K).trans K, (hs 8 K).trans K, (hs 9 K).trans K, (hs 10 K).trans K, hf 25 12 K, (hs 17 K).trans K, trivial⟩ ?_
      obtain ⟨w1868, hww1868⟩ : ∃ x, w' = x := ⟨_, rfl⟩
      rw [hww1868] at hs1865 ⊢
      refine At.sq K ?_
      refine At.region K K ?_
      refine In.run' 2 (k' := 2) rfl [(53, (.int .u32 x1682)), (54, (.agg (cellsOf (eInt .i64) ([2, 13, 22] : List Int)).toArray))] K ?_
      obtain ⟨z1869, hz1870, H⟩ := bind_elim H
      refine In.step (k' := 3) rfl K ?_
      refine Step.callF (f := 63) (fo := (.func 63)) (xs := #[(.tmp 53), (.tmp 54), (.const (.bool false))]) (tys := #[81, 105, 4]) (first := #[]) (captured := #[]) (d := (some 55)) (k := 2) K rfl K K Tryd.call63 (L_digest_mixed_walk  x1682 ([2, 13, 22] : List Int) false w1868 rfl z1869 hz1870) ?_
      rintro e w1871 ⟨rfl, hs1872⟩
      refine ⟨_, rfl, ?_⟩
      have hs1874 : SP [] w0 w1871 [arrE 95 (eInt .u32) g5 8 p1, arrE 91 (eInt .u32) g9 64 p3, arrE 95 (eInt .u32) g13 8 (List.replicate 8 0), arrE 95 (eInt .u32) g105 8 v1203, arrE 91 (eInt .u32) g109 64 z17] := SP.call hs1865 hs1872
      clear hs1872
      refine In.run' 11 (k' := 14) rfl [(56, (.int .u32 x1682)), (57, (.int .u32 x1686)), (58, (.int .u32 x1690)), (59, (.int .u32 (bOr .u32 x1686 x1690))), (60, (.int .u32 (bAnd .u32 x1682 (bOr .u32 x1686 x1690)))), (61, (.int .u32 x1686)), (62, (.int .u32 x1690)), (63, (.int .u32 (bAnd .u32 x1686 x1690))), (64, (.int .u32 (bOr .u32 (bAnd .u32 x1682 (bOr .u32 x1686 x1690)) (bAnd .u32 x1686 x1690)))), (65, (.int .u32 (IntKind.wrap .u32 (z1869 + (bOr .u32 (bAnd .u32 x1682 (bOr .u32 x1686 x1690)) (bAnd .u32 x1686 x1690)))))), (13, (.int .u32 (IntKind.wrap .u32 (z1869 + (bOr .u32 (bAnd .u32 x1682 (bOr .u32 x1686 x1690)) (bAnd .u32 x1686 x1690))))))] K ?_
      refine In.fin K ?_
      refine At.sq K ?_
      obtain ⟨hz1875, hz1876, hz1877, H⟩ := sub_elim H
      obtain ⟨l1878, hyl1878⟩ : ∃ y, (List.drop (Int.toNat 1) (List.take (Int.toNat ((List.length v1203 : Nat) : Int)) v1203)) = y := ⟨_, rfl⟩
      rw [hyl1878] at H
      obtain ⟨hz1879, hz1880, hz1881, H⟩ := sub_elim H
      obtain ⟨l1882, hyl1882⟩ : ∃ y, (List.drop (Int.toNat 0) (List.take (Int.toNat 7) v1203)) = y := ⟨_, rfl⟩
      rw [hyl1882] at H
      replace H := some_bind_elim H
      obtain ⟨l1883, hyl1883⟩ : ∃ y, (cpy v1203 (Int.toNat 1) (List.length l1878) l1882) = y := ⟨_, rfl⟩
      rw [hyl1883] at H
      have hnl1883 : List.length l1883 = List.length v1203 := by rw [← hyl1883]; exact cpy_length (cut_dl hz1875 hz1876 hz1877 hyl1878)
      refine At.stages K K K K K [GEq (.slice (cutA (eInt .u32).sz 8 (Int.toNat 1) (some ⟨g105, 0, none⟩)) (List.length l1878) (8 - Int.toNat 1)), GEq (.slice (cutA (eInt .u32).sz 8 (Int.toNat 0) (some ⟨g105, 0, none⟩)) (List.length l1882) (8 - Int.toNat 0)), GEq (.int .i64 (min ((List.length l1882 : Nat) : Int) (((List.length l1878) : Nat) : Int)))] [2] [([], fun vs w => VL vs [] ∧ SP [] w0 w [arrE 95 (eInt .u32) g5 8 p1, arrE 91 (eInt .u32) g9 64 p3, arrE 95 (eInt .u32) g13 8 (List.replicate 8 0), arrE 95 (eInt .u32) g105 8 v1203, arrE 91 (eInt .u32) g109 64 z17]), ([2], fun vs w => VL vs [(.int .i64 (min ((List.length l1882 : Nat) : Int) (((List.length l1878) : Nat) : Int)))] ∧ SP [] w0 w [arrE 95 (eInt .u32) g5 8 p1, arrE 91 (eInt .u32) g9 64 p3, arrE 95 (eInt .u32) g13 8 (List.replicate 8 0), arrE 95 (eInt .u32) g105 8 l1883, arrE 91 (eInt .u32) g109 64 z17])] (N := 3) K ⟨K, Nat.zero_lt_succ _⟩ (show VL [] [] ∧ SP [] w0 w1871.drew [arrE 95 (eInt .u32) g5 8 p1, arrE 91 (eInt .u32) g9 64 p3, arrE 95 (eInt .u32) g13 8 (List.replicate 8 0), arrE 95 (eInt .u32) g105 8 v1203, arrE 91 (eInt .u32) g109 64 z17] from ⟨trivial, SP.drew hs1874⟩) ⟨⟨⟨trivial, ?_⟩, ?_⟩, ?_⟩ (last := 1) K ?_
      ·refine Owe.light K [0] K (all_cons ?_ all_nil)
       ·rintro ρ' w' hs hah ⟨hvl1892, hs1891⟩
        have hkn : Known ρ' [(5, (pt g105 0))] := ⟨(hs 5 K).trans K, trivial⟩
        refine Step.known _ hkn ?_
        refine Step.sliceA (e := (eInt .u32)) (l := v1203) (l' := l1878) (m := 8) (g := g105) (T := 95) (E := 81) (x := (.tmp 5)) (lo := (some (.const (.int .i64 (1))))) (hi := none) (i := 1) (j := ((List.length v1203 : Nat) : Int)) (q := 3) (d := (some 66)) (k := 0) K rfl K K K ⟨.i64, K⟩ rfl hs1891 rfl hz1875 hz1876 hz1877 hyl1878 ?_
        exact ⟨rfl, _, updO_known hkn, rfl⟩
      ·refine Owe.light K [0] K (all_cons ?_ all_nil)
       ·rintro ρ' w' hs hah ⟨hvl1894, hs1893⟩
        have hkn : Known ρ' [(5, (pt g105 0))] := ⟨(hs 5 K).trans K, trivial⟩
        refine Step.known _ hkn ?_
        refine Step.sliceA (e := (eInt .u32)) (l := v1203) (l' := l1882) (m := 8) (g := g105) (T := 95) (E := 81) (x := (.tmp 5)) (lo := none) (hi := (some (.const (.int .i64 (7))))) (i := 0) (j := 7) (q := 3) (d := (some 67)) (k := 1) K rfl K K K rfl ⟨.i64, K⟩ hs1893 rfl hz1879 hz1880 hz1881 hyl1882 ?_
        exact ⟨rfl, _, updO_known hkn, rfl⟩
      ·refine Owe.heavy K [(0, 1)] K (all_cons ⟨K, K, ?_⟩ all_nil)
       ·rintro ρ' w' hs hah ⟨hvl1896, hs1895⟩
        have hkn : Known ρ' [(66, (.slice (cutA (eInt .u32).sz 8 (Int.toNat 1) (some ⟨g105, 0, none⟩)) (List.length l1878) (8 - Int.toNat 1))), (67, (.slice (cutA (eInt .u32).sz 8 (Int.toNat 0) (some ⟨g105, 0, none⟩)) (List.length l1882) (8 - Int.toNat 0)))] := ⟨hah 0 66 K, hah 1 67 K, trivial⟩
        refine Step.known _ hkn ?_
        refine Step.copyA (e := (eInt .u32)) (l := v1203) (y' := l1882) (l' := l1883) (m := 8) (g := g105) (lo := (Int.toNat 1)) (dl := (List.length l1878)) (T := 106) (T2 := 106) (E := 81) (x := (.tmp 66)) (y := (.tmp 67)) (i := 3) (A := (cutA (eInt .u32).sz 8 (Int.toNat 1) (some ⟨g105, 0, none⟩))) (dc := (8 - Int.toNat 1)) (A2 := (cutA (eInt .u32).sz 8 (Int.toNat 0) (some ⟨g105, 0, none⟩))) (c2 := (8 - Int.toNat 0)) (d := (some 68)) (k := 2) K rfl K K K K rfl hs1895 rfl (cut_hA (e := (eInt .u32)) (arrE_len (SP.get hs1895 (i := 3) rfl)) hz1875 hz1876 hz1877 hyl1878) (cut_dl hz1875 hz1876 hz1877 hyl1878) ((cut_rd hz1879 hz1880 hz1881 hyl1882) w' (arrE_rd (SP.get hs1895 (i := 3) rfl))) hyl1883 ?_
        intro w1897 hs1898 _
        have hs1899 : SP [] w0 w1897 [arrE 95 (eInt .u32) g5 8 p1, arrE 91 (eInt .u32) g9 64 p3, arrE 95 (eInt .u32) g13 8 (List.replicate 8 0), arrE 95 (eInt .u32) g105 8 l1883, arrE 91 (eInt .u32) g109 64 z17] := hs1898
        clear hs1898
        refine ⟨_, updO_known hkn, rfl, ?_⟩
        exact (And.intro (And.intro rfl (trivial)) (hs1899))
      ·rintro ρ' w' hs hf ⟨⟨q1901, -⟩, hs1900⟩
       refine postKnown [(2, (pt g5 0)), (3, (pt g9 0)), (4, (pt g13 0)), (5, (pt g105 0)), (6, (pt g109 0)), (12, (.int .u32 (IntKind.wrap .u32 ((IntKind.wrap .u32 ((IntKind.wrap .u32 ((IntKind.wrap .u32 (x1729 + z1733)) + (bXor .u32 x1739 (bAnd .u32 x1694 (bXor .u32 x1743 x1747))))) + x1751)) + x1755)))), (13, (.int .u32 (IntKind.wrap .u32 (z1869 + (bOr .u32 (bAnd .u32 x1682 (bOr .u32 x1686 x1690)) (bAnd .u32 x1686 x1690)))))), (17, (.int .i64 v1204))] ⟨(hs 2 K).trans K, (hs 3 K).trans K, (hs 4 K).trans K, (hs 5 K).trans K, (hs 6 K).trans K, (hs 12 K).trans K, (hs 13 K).trans K, (hs 17 K).trans K, trivial⟩ ?_
       obtain ⟨w1903, hww1903⟩ : ∃ x, w' = x := ⟨_, rfl⟩
       rw [hww1903] at hs1900 ⊢
       refine At.region K K ?_
       refine In.run' 3 (k' := 3) rfl [(69, (.int .u32 (IntKind.wrap .u32 ((IntKind.wrap .u32 ((IntKind.wrap .u32 ((IntKind.wrap .u32 (x1729 + z1733)) + (bXor .u32 x1739 (bAnd .u32 x1694 (bXor .u32 x1743 x1747))))) + x1751)) + x1755)))), (70, (.int .u32 (IntKind.wrap .u32 (z1869 + (bOr .u32 (bAnd .u32 x1682 (bOr .u32 x1686 x1690)) (bAnd .u32 x1686 x1690)))))), (71, (.int .u32 (IntKind.wrap .u32 ((IntKind.wrap .u32 ((IntKind.wrap .u32 ((IntKind.wrap .u32 ((IntKind.wrap .u32 (x1729 + z1733)) + (bXor .u32 x1739 (bAnd .u32 x1694 (bXor .u32 x1743 x1747))))) + x1751)) + x1755)) + (IntKind.wrap .u32 (z1869 + (bOr .u32 (bAnd .u32 x1682 (bOr .u32 x1686 x1690)) (bAnd .u32 x1686 x1690))))))))] K ?_
       obtain ⟨x1904, hp1905, hq1906, hx1907, H⟩ := idx_elim H
       refine In.step (k' := 4) rfl K ?_
       refine Step.elemA (e := (eInt .u32)) (l := l1883) (m := 8) (g := g105) (T := 95) (E := 81) (x := (.tmp 5)) (ix := (.const (.int .i64 (4)))) (ki := .i64) (iz := 4) (i := 3) (d := (some 72)) (k := 3) K rfl K K K K hs1900 rfl hp1905 hq1906 ?_
       refine In.step (k' := 5) rfl K ?_
       refine Step.cell (t := 81) (x := (.tmp 72)) (b := g105) (off := (0 + Int.toNat 4 * (eInt .u32).sz)) (v := (.int .u32 x1904)) (d := (some 73)) (k := 4) K rfl K K (elem_cell (e := (eInt .u32)) (rdt_cells (arrE_rd (SP.get hs1900 (i := 3) rfl)) rfl hp1905 hq1906) hx1907 (j := 0) rfl) ?_
       refine In.run' 2 (k' := 7) rfl [(74, (.int .u32 (IntKind.wrap .u32 ((IntKind.wrap .u32 ((IntKind.wrap .u32 ((IntKind.wrap .u32 (x1729 + z1733)) + (bXor .u32 x1739 (bAnd .u32 x1694 (bXor .u32 x1743 x1747))))) + x1751)) + x1755)))), (75, (.int .u32 (IntKind.wrap .u32 (x1904 + (IntKind.wrap .u32 ((IntKind.wrap .u32 ((IntKind.wrap .u32 ((IntKind.wrap .u32 (x1729 + z1733)) + (bXor .u32 x1739 (bAnd .u32 x1694 (bXor .u32 x1743 x1747))))) + x1751)) + x1755))))))] K ?_
       obtain ⟨x1908, hp1909, hq1910, hx1911, H⟩ := idx_elim H
       refine In.step (k' := 8) rfl K ?_
       refine Step.elemA (e := (eInt .u32)) (l := l1883) (m := 8) (g := g105) (T := 95) (E := 81) (x := (.tmp 5)) (ix := (.const (.int .i64 (0)))) (ki := .i64) (iz := 0) (i := 3) (d := (some 76)) (k := 7) K rfl K K K K hs1900 rfl hp1909 hq1910 ?_
       replace H := some_bind_elim H
       obtain ⟨l1912, hyl1912⟩ : ∃ y, (List.set l1883 (Int.toNat 0) (IntKind.wrap .u32 ((IntKind.wrap .u32 ((IntKind.wrap .u32 ((IntKind.wrap .u32 ((IntKind.wrap .u32 (x1729 + z1733)) + (bXor .u32 x1739 (bAnd .u32 x1694 (bXor .u32 x1743 x1747))))) + x1751)) + x1755)) + (IntKind.wrap .u32 (z1869 + (bOr .u32 (bAnd .u32 x1682 (bOr .u32 x1686 x1690)) (bAnd .u32 x1686 x1690))))))) = y := ⟨_, rfl⟩
       rw [hyl1912] at H
       have hnl1912 : List.length l1912 = List.length l1883 := by rw [← hyl1912, List.length_set]
       refine In.step (k' := 9) rfl K ?_
       refine Step.storeElemA (e := (eInt .u32)) (t := 81) (x := (.tmp 76)) (y := (.tmp 71)) (l := l1883) (iz := 0) (m := 8) (g := g105) (b := g105) (off := 0) (i := 3) (v := (.int .u32 (IntKind.wrap .u32 ((IntKind.wrap .u32 ((IntKind.wrap .u32 ((IntKind.wrap .u32 ((IntKind.wrap .u32 (x1729 + z1733)) + (bXor .u32 x1739 (bAnd .u32 x1694 (bXor .u32 x1743 x1747))))) + x1751)) + x1755)) + (IntKind.wrap .u32 (z1869 + (bOr .u32 (bAnd .u32 x1682 (bOr .u32 x1686 x1690)) (bAnd .u32 x1686 x1690)))))))) (x' := (IntKind.wrap .u32 ((IntKind.wrap .u32 ((IntKind.wrap .u32 ((IntKind.wrap .u32 ((IntKind.wrap .u32 (x1729 + z1733)) + (bXor .u32 x1739 (bAnd .u32 x1694 (bXor .u32 x1743 x1747))))) + x1751)) + x1755)) + (IntKind.wrap .u32 (z1869 + (bOr .u32 (bAnd .u32 x1682 (bOr .u32 x1686 x1690)) (bAnd .u32 x1686 x1690))))))) (d := none) (k := 8) K rfl rfl K K hs1900 rfl rfl hq1910 hp1909 rfl K ?_
       rw [hyl1912]
       intro w1913 (hs1915 : SP [] w0 w1913 [arrE 95 (eInt .u32) g5 8 p1, arrE 91 (eInt .u32) g9 64 p3, arrE 95 (eInt .u32) g13 8 (List.replicate 8 0), arrE 95 (eInt .u32) g105 8 l1912, arrE 91 (eInt .u32) g109 64 z17])
       refine In.known [] trivial ?_
       obtain ⟨x1916, hp1917, hq1918, hx1919, H⟩ := idx_elim H
       refine In.step (k' := 10) rfl K ?_
       refine Step.elemA (e := (eInt .u32)) (l := l1912) (m := 8) (g := g105) (T := 95) (E := 81) (x := (.tmp 5)) (ix := (.const (.int .i64 (4)))) (ki := .i64) (iz := 4) (i := 3) (d := (some 77)) (k := 9) K rfl K K K K hs1915 rfl hp1917 hq1918 ?_
       replace H := some_bind_elim H
       obtain ⟨l1920, hyl1920⟩ : ∃ y, (List.set l1912 (Int.toNat 4) (IntKind.wrap .u32 (x1904 + (IntKind.wrap .u32 ((IntKind.wrap .u32 ((IntKind.wrap .u32 ((IntKind.wrap .u32 (x1729 + z1733)) + (bXor .u32 x1739 (bAnd .u32 x1694 (bXor .u32 x1743 x1747))))) + x1751)) + x1755))))) = y := ⟨_, rfl⟩
       rw [hyl1920] at H
       have hnl1920 : List.length l1920 = List.length l1912 := by rw [← hyl1920, List.length_set]
       refine In.step (k' := 11) rfl K ?_
       refine Step.storeElemA (e := (eInt .u32)) (t := 81) (x := (.tmp 77)) (y := (.tmp 75)) (l := l1912) (iz := 4) (m := 8) (g := g105) (b := g105) (off := 0) (i := 3) (v := (.int .u32 (IntKind.wrap .u32 (x1904 + (IntKind.wrap .u32 ((IntKind.wrap .u32 ((IntKind.wrap .u32 ((IntKind.wrap .u32 (x1729 + z1733)) + (bXor .u32 x1739 (bAnd .u32 x1694 (bXor .u32 x1743 x1747))))) + x1751)) + x1755)))))) (x' := (IntKind.wrap .u32 (x1904 + (IntKind.wrap .u32 ((IntKind.wrap .u32 ((IntKind.wrap .u32 ((IntKind.wrap .u32 (x1729 + z1733)) + (bXor .u32 x1739 (bAnd .u32 x1694 (bXor .u32 x1743 x1747))))) + x1751)) + x1755))))) (d := none) (k := 10) K rfl rfl K K hs1915 rfl rfl hq1918 hp1917 rfl K ?_
       rw [hyl1920]
       intro w1921 (hs1923 : SP [] w0 w1921 [arrE 95 (eInt .u32) g5 8 p1, arrE 91 (eInt .u32) g9 64 p3, arrE 95 (eInt .u32) g13 8 (List.replicate 8 0), arrE 95 (eInt .u32) g105 8 l1920, arrE 91 (eInt .u32) g109 64 z17])
       refine In.known [] trivial ?_
       refine In.fin K ?_
       refine At.region K K ?_
       refine In.run' 2 (k' := 2) rfl [(78, (.int .i64 (IntKind.wrap .i64 (v1204 + 1)))), (17, (.int .i64 (IntKind.wrap .i64 (v1204 + 1))))] K ?_
       refine In.fin K ?_
       exact ⟨l1920, (IntKind.wrap .i64 (v1204 + 1)), ⟨K, K, K, K, K, K, trivial⟩, SP.sel hs1923 [0, 1, 2, 3, 4] rfl rfl, H⟩
   ·have H := cf H hb1681
    refine At.exit K (id := 0) K ?_
    refine At.sq K ?_
    refine At.sq K ?_
    refine At.region K K ?_
    refine In.run' 1 (k' := 1) rfl [(79, (.int .i64 0))] K ?_
    refine In.fin K ?_
    refine At.bk K (id := 2) K ?_
    refine At.lp K (fun f5 ρ w => ∃ (v2037 : (List Int)) (v2038 : Int), Known ρ [(2, (pt g5 0)), (4, (pt g13 0)), (5, (pt g105 0)), (79, (.int .i64 v2038))] ∧ SP [] w0 w [arrE 95 (eInt .u32) g5 8 p1, arrE 95 (eInt .u32) g13 8 (List.replicate 8 0), arrE 95 (eInt .u32) g105 8 v2037] ∧ L_digest_state_behind_l5 (L_digest_state_behind_l3 p1 p3 z17 f4) p1 f5 v2037 v2038 = some r) (by rintro ρ w ⟨v2037, v2038, hk, hs, H⟩; cases H) ?_ fuel ?_
    ·rintro f5 ρ w2035 ⟨v2037, v2038, hk, hs2036, H⟩
     refine At.known [(2, (pt g5 0)), (4, (pt g13 0)), (5, (pt g105 0)), (79, (.int .i64 v2038))] hk ?_
     replace H := (show L_digest_state_behind_b5 (L_digest_state_behind_l3 p1 p3 z17 f4) (L_digest_state_behind_l5 (L_digest_state_behind_l3 p1 p3 z17 f4) p1 f5) p1 v2037 v2038 = some r from H)
     unfold L_digest_state_behind_b5 at H
     have ha2093 := arrE_len (SP.get hs2036 (i := 0) rfl)
     have ha2094 := arrE_len (SP.get hs2036 (i := 1) rfl)
     have ha2095 := arrE_len (SP.get hs2036 (i := 2) rfl)
     refine At.sq K ?_
     refine At.region K K ?_
     refine In.run' 1 (k' := 1) rfl [(80, (.bool (decide (v2038 < 8))))] K ?_
     refine In.fin K ?_
     refine At.sq K ?_
     refine At.cd K (o := (.tmp 80)) K (b := (decide (v2038 < 8))) K (fun hb2096 => ?_) (fun hb2096 => ?_)
     ·have H := ct H hb2096
      refine At.skip K ?_
      refine At.sq K ?_
      refine At.bk K (id := 3) K ?_
      refine At.sq K ?_
      refine At.region K K ?_
      refine In.run' 2 (k' := 2) rfl [(81, (.int .i64 v2038)), (14, (.int .i64 v2038))] K ?_
      refine In.fin K ?_
      obtain ⟨x2097, hp2098, hq2099, hx2100, H⟩ := idx_elim H
      obtain ⟨x2101, hp2102, hq2103, hx2104, H⟩ := idx_elim H
      obtain ⟨x2105, hp2106, hq2107, hx2108, H⟩ := idx_elim H
      replace H := some_bind_elim H
      obtain ⟨l2109, hyl2109⟩ : ∃ y, (List.set v2037 (Int.toNat v2038) (IntKind.wrap .u32 (x2097 + x2101))) = y := ⟨_, rfl⟩
      rw [hyl2109] at H
      have hnl2109 : List.length l2109 = List.length v2037 := by rw [← hyl2109, List.length_set]
      refine At.stages K K K K K [GEq (.int .i64 v2038), GElem0 (some ⟨g105, 0, none⟩) (eInt .u32).sz v2038, GEq (.int .u32 x2097), GEq (.int .i64 v2038), GElem0 (some ⟨g5, 0, none⟩) (eInt .u32).sz v2038, GEq (.int .u32 x2101), GEq (.int .u32 (IntKind.wrap .u32 (x2097 + x2101))), GElem0 (some ⟨g105, 0, none⟩) (eInt .u32).sz v2038, GAny] [8] [([], fun vs w => VL vs [] ∧ SP [] w0 w [arrE 95 (eInt .u32) g5 8 p1, arrE 95 (eInt .u32) g13 8 (List.replicate 8 0), arrE 95 (eInt .u32) g105 8 v2037]), ([8], fun vs w => VL vs [undef] ∧ SP [] w0 w [arrE 95 (eInt .u32) g5 8 p1, arrE 95 (eInt .u32) g13 8 (List.replicate 8 0), arrE 95 (eInt .u32) g105 8 l2109])] (N := 9) K ⟨K, Nat.zero_lt_succ _⟩ (show VL [] [] ∧ SP [] w0 w2035.drew [arrE 95 (eInt .u32) g5 8 p1, arrE 95 (eInt .u32) g13 8 (List.replicate 8 0), arrE 95 (eInt .u32) g105 8 v2037] from ⟨trivial, SP.drew hs2036⟩) ⟨⟨⟨⟨⟨⟨⟨⟨⟨trivial, ?_⟩, ?_⟩, ?_⟩, ?_⟩, ?_⟩, ?_⟩, ?_⟩, ?_⟩, ?_⟩ (last := 1) K ?_
      ·exact Owe.run K [(14, (.int .i64 v2038))] ⟨gS K K, trivial⟩ (.int .i64 v2038) (fun _ _ => K) rfl
      ·refine Owe.light K [0] K (all_cons ?_ all_nil)
       ·rintro ρ' w' hs hah ⟨hvl2117, hs2116⟩
        have hkn : Known ρ' [(5, (pt g105 0)), (82, (.int .i64 v2038))] := ⟨(hs 5 K).trans K, hah 0 82 K, trivial⟩
        refine Step.known _ hkn ?_
        refine Step.elemA (e := (eInt .u32)) (l := v2037) (m := 8) (g := g105) (T := 95) (E := 81) (x := (.tmp 5)) (ix := (.tmp 82)) (ki := .i64) (iz := v2038) (i := 2) (d := (some 83)) (k := 1) K rfl K K K K hs2116 rfl hp2098 hq2099 ?_
        exact ⟨rfl, _, updO_known hkn, ⟨g105, 0, rfl, rfl⟩⟩
      ·refine Owe.light K [0] K (all_cons ?_ all_nil)
       ·rintro ρ' w' hs hah ⟨hvl2119, hs2118⟩
        obtain ⟨b2120, o2121, hA2122, e83⟩ := hah 1 83 K
        have hkn : Known ρ' [(83, (.pointer (some ⟨b2120, (o2121 + Int.toNat v2038 * (eInt .u32).sz), none⟩)))] := ⟨e83, trivial⟩
        refine Step.known _ hkn ?_
        refine Step.cell (t := 81) (x := (.tmp 83)) (b := b2120) (off := (o2121 + Int.toNat v2038 * (eInt .u32).sz)) (v := (.int .u32 x2097)) (d := (some 84)) (k := 2) K rfl K K (elem_cell (e := (eInt .u32)) (rdt_cells (arrE_rd (SP.get hs2118 (i := 2) rfl)) hA2122 hp2098 hq2099) hx2100 (j := 0) rfl) ?_
        exact ⟨rfl, _, updO_known hkn, rfl⟩
      ·exact Owe.run K [(14, (.int .i64 v2038))] ⟨gS K K, trivial⟩ (.int .i64 v2038) (fun _ _ => K) rfl
      ·refine Owe.light K [0] K (all_cons ?_ all_nil)
       ·rintro ρ' w' hs hah ⟨hvl2124, hs2123⟩
        have hkn : Known ρ' [(2, (pt g5 0)), (85, (.int .i64 v2038))] := ⟨(hs 2 K).trans K, hah 3 85 K, trivial⟩
        refine Step.known _ hkn ?_
        refine Step.elemA (e := (eInt .u32)) (l := p1) (m := 8) (g := g5) (T := 95) (E := 81) (x := (.tmp 2)) (ix := (.tmp 85)) (ki := .i64) (iz := v2038) (i := 0) (d := (some 86)) (k := 4) K rfl K K K K hs2123 rfl hp2102 hq2103 ?_
        exact ⟨rfl, _, updO_known hkn, ⟨g5, 0, rfl, rfl⟩⟩
      ·refine Owe.light K [0] K (all_cons ?_ all_nil)
       ·rintro ρ' w' hs hah ⟨hvl2126, hs2125⟩
        obtain ⟨b2127, o2128, hA2129, e86⟩ := hah 4 86 K
        have hkn : Known ρ' [(86, (.pointer (some ⟨b2127, (o2128 + Int.toNat v2038 * (eInt .u32).sz), none⟩)))] := ⟨e86, trivial⟩
        refine Step.known _ hkn ?_
        refine Step.cell (t := 81) (x := (.tmp 86)) (b := b2127) (off := (o2128 + Int.toNat v2038 * (eInt .u32).sz)) (v := (.int .u32 x2101)) (d := (some 87)) (k := 5) K rfl K K (elem_cell (e := (eInt .u32)) (rdt_cells (arrE_rd (SP.get hs2125 (i := 0) rfl)) hA2129 hp2102 hq2103) hx2104 (j := 0) rfl) ?_
        exact ⟨rfl, _, updO_known hkn, rfl⟩
      ·exact Owe.run K [(84, (.int .u32 x2097)), (87, (.int .u32 x2101))] ⟨gA 2 K K, gA 5 K K, trivial⟩ (.int .u32 (IntKind.wrap .u32 (x2097 + x2101))) (fun _ _ => K) rfl
      ·refine Owe.light K [0] K (all_cons ?_ all_nil)
       ·rintro ρ' w' hs hah ⟨hvl2131, hs2130⟩
        have hkn : Known ρ' [(5, (pt g105 0)), (82, (.int .i64 v2038))] := ⟨(hs 5 K).trans K, hah 0 82 K, trivial⟩
        refine Step.known _ hkn ?_
        refine Step.elemA (e := (eInt .u32)) (l := v2037) (m := 8) (g := g105) (T := 95) (E := 81) (x := (.tmp 5)) (ix := (.tmp 82)) (ki := .i64) (iz := v2038) (i := 2) (d := (some 89)) (k := 7) K rfl K K K K hs2130 rfl hp2106 hq2107 ?_
        exact ⟨rfl, _, updO_known hkn, ⟨g105, 0, rfl, rfl⟩⟩
      ·refine Owe.heavy K [(0, 1)] K (all_cons ⟨K, K, ?_⟩ all_nil)
       ·rintro ρ' w' hs hah ⟨hvl2133, hs2132⟩
        obtain ⟨b2134, o2135, hA2136, e89⟩ := hah 7 89 K
        have hkn : Known ρ' [(89, (.pointer (some ⟨b2134, (o2135 + Int.toNat v2038 * (eInt .u32).sz), none⟩))), (88, (.int .u32 (IntKind.wrap .u32 (x2097 + x2101))))] := ⟨e89, hah 6 88 K, trivial⟩
        refine Step.known _ hkn ?_
        refine Step.storeElemA (e := (eInt .u32)) (t := 81) (x := (.tmp 89)) (y := (.tmp 88)) (l := v2037) (iz := v2038) (m := 8) (g := g105) (b := b2134) (off := o2135) (i := 2) (v := (.int .u32 (IntKind.wrap .u32 (x2097 + x2101)))) (x' := (IntKind.wrap .u32 (x2097 + x2101))) (d := none) (k := 8) K rfl hA2136 K K hs2132 rfl rfl hq2107 hp2106 rfl K ?_
        rw [hyl2109]
        intro w2137 (hs2139 : SP [] w0 w2137 [arrE 95 (eInt .u32) g5 8 p1, arrE 95 (eInt .u32) g13 8 (List.replicate 8 0), arrE 95 (eInt .u32) g105 8 l2109])
        refine ⟨_, updO_known hkn, trivial, ?_⟩
        exact (And.intro (And.intro rfl (trivial)) (hs2139))
      ·rintro ρ' w' hs hf ⟨⟨q2141, -⟩, hs2140⟩
       refine postKnown [(2, (pt g5 0)), (4, (pt g13 0)), (5, (pt g105 0)), (79, (.int .i64 v2038))] ⟨(hs 2 K).trans K, (hs 4 K).trans K, (hs 5 K).trans K, (hs 79 K).trans K, trivial⟩ ?_
       obtain ⟨w2143, hww2143⟩ : ∃ x, w' = x := ⟨_, rfl⟩
       rw [hww2143] at hs2140 ⊢
       refine At.region K K ?_
       refine In.run' 2 (k' := 2) rfl [(90, (.int .i64 (IntKind.wrap .i64 (v2038 + 1)))), (79, (.int .i64 (IntKind.wrap .i64 (v2038 + 1))))] K ?_
       refine In.fin K ?_
       exact ⟨l2109, (IntKind.wrap .i64 (v2038 + 1)), ⟨K, K, K, K, trivial⟩, SP.sel hs2140 [0, 1, 2] rfl rfl, H⟩
     ·have H := cf H hb2096
      refine At.exit K (id := 2) K ?_
      refine At.sq K ?_
      refine At.region K K ?_
      refine In.step (k' := 1) rfl K ?_
      refine Step.loadA (e := (eInt .u32)) (l := v2037) (m := 8) (t := 95) (x := (.tmp 5)) (g := g105) (i := 2) (d := (some 91)) (k := 0) K rfl K hs2036 rfl K K ?_
      refine In.step (k' := 2) rfl K ?_
      refine Step.storeA (e := (eInt .u32)) (l := (List.replicate 8 0)) (l' := v2037) (m := 8) (t := 95) (x := (.tmp 4)) (y := (.tmp 91)) (g := g13) (i := 1) (d := none) (k := 1) K rfl K K ha2095 hs2036 rfl K ?_
      intro w2144 (hs2146 : SP [] w0 w2144 [arrE 95 (eInt .u32) g5 8 p1, arrE 95 (eInt .u32) g13 8 v2037, arrE 95 (eInt .u32) g105 8 v2037])
      refine In.fin K ?_
      refine At.ret K ?_
      refine ⟨(.agg (cellsOf (eInt .u32) v2037).toArray), res_1 K (rv_cellA (e := (eInt .u32)) (l := v2037) (a := 4) (t := 95) K (SP.get hs2146 (i := 1) rfl) K K), ?_⟩
      obtain rfl := some_elim H
      exact ⟨rfl, SP.sel hs2146 [] rfl rfl⟩
    ·exact ⟨v1203, 0, ⟨K, K, K, K, trivial⟩, SP.sel hs1202 [0, 2, 3] rfl rfl, H⟩
  ·exact ⟨p1, 0, ⟨K, K, K, K, K, K, trivial⟩, SP.sel hs248 [0, 1, 2, 3, 4] rfl rfl, H⟩
/-! L_digest_Sum -/
def L_digest_Sum_b89 (rec67 : (List Int) → Int → Option ((List UInt8))) (rec84 : (List UInt8) → Int → Option ((List UInt8))) (rec88 : (List Int) → Int → Option ((List UInt8))) (rec89 : (List UInt8) → Int → Option ((List UInt8))) (v11539 : (List Int)) (v11843 : (List UInt8)) (v11844 : Int) : Option ((List UInt8)) :=
  (cond (decide (v11844 < 32)) ((idx v11539 (IntKind.wrap .i64 (Int.tdiv v11844 4))).bind fun x11869 => ((chk (decide (0 ≤ (IntKind.wrap .i64 (24 - (IntKind.wrap .i64 ((Int.tmod v11844 4) * 8))))))).bind fun _ => ((idx v11843 v11844).bind fun x11874 => ((some (List.set v11843 (Int.toNat v11844) (toU8 (IntKind.wrap .u8 (bShr .u32 x11869 (IntKind.wrap .i64 (24 - (IntKind.wrap .i64 ((Int.tmod v11844 4) * 8))))))))).bind fun l11878 => (rec89 l11878 (IntKind.wrap .i64 (v11844 + 1))))))) (some (v11843)))
def L_digest_Sum_l89 (rec67 : (List Int) → Int → Option ((List UInt8))) (rec84 : (List UInt8) → Int → Option ((List UInt8))) (rec88 : (List Int) → Int → Option ((List UInt8))) (v11539 : (List Int)) : Nat → (List UInt8) → Int → Option ((List UInt8))
  | 0, _, _ => none
  | f + 1, v11843, v11844 => L_digest_Sum_b89 rec67 rec84 rec88 (L_digest_Sum_l89 rec67 rec84 rec88 v11539 f) v11539 v11843 v11844
def L_digest_Sum_b87 (rec67 : (List Int) → Int → Option ((List UInt8))) (rec84 : (List UInt8) → Int → Option ((List UInt8))) (rec88 : (List Int) → Int → Option ((List UInt8))) (v9040 : Int) (v10467 : (List UInt8)) (v11539 : (List Int)) (v11540 : Int) : Option ((List UInt8)) :=
  (cond (decide (v11540 < v9040)) ((sub v10467 v11540 ((List.length v10467 : Nat) : Int)).bind fun l11720 => ((L_digest_words l11720).bind fun z11721 => ((chk (Nat.beq (List.length z11721) 64)).bind fun _ => ((L_digest_state_behind v11539 z11721).bind fun z11728 => ((chk (Nat.beq (List.length z11728) 8)).bind fun _ => (rec88 z11728 (IntKind.wrap .i64 (v11540 + 64)))))))) (L_digest_Sum_l89 rec67 rec84 rec88 v11539 fuel (List.replicate 32 (0 : UInt8)) 0))
def L_digest_Sum_l87 (rec67 : (List Int) → Int → Option ((List UInt8))) (rec84 : (List UInt8) → Int → Option ((List UInt8))) (v9040 : Int) (v10467 : (List UInt8)) : Nat → (List Int) → Int → Option ((List UInt8))
  | 0, _, _ => none
  | f + 1, v11539, v11540 => L_digest_Sum_b87 rec67 rec84 (L_digest_Sum_l87 rec67 rec84 v9040 v10467 f) v9040 v10467 v11539 v11540
def L_digest_Sum_b79 (rec67 : (List Int) → Int → Option ((List UInt8))) (rec84 : (List UInt8) → Int → Option ((List UInt8))) (p1 : (List UInt8)) (v5956 : (List Int)) (v9040 : Int) (v10467 : (List UInt8)) (v10468 : Int) : Option ((List UInt8)) :=
  (cond (decide (v10468 < 8)) ((chk (decide (0 ≤ (IntKind.wrap .i64 (8 * v10468))))).bind fun _ => ((idx v10467 (IntKind.wrap .i64 ((IntKind.wrap .i64 (v9040 - 1)) - v10468))).bind fun x11182 => ((some (List.set v10467 (Int.toNat (IntKind.wrap .i64 ((IntKind.wrap .i64 (v9040 - 1)) - v10468))) (toU8 (IntKind.wrap .u8 (bShr .u64 (IntKind.wrap .u64 ((IntKind.wrap .u64 ((List.length p1 : Nat) : Int)) * 8)) (IntKind.wrap .i64 (8 * v10468))))))).bind fun l11186 => (rec84 l11186 (IntKind.wrap .i64 (v10468 + 1)))))) (L_digest_Sum_l87 rec67 rec84 v9040 v10467 fuel v5956 0))
def L_digest_Sum_l79 (rec67 : (List Int) → Int → Option ((List UInt8))) (p1 : (List UInt8)) (v5956 : (List Int)) (v9040 : Int) : Nat → (List UInt8) → Int → Option ((List UInt8))
  | 0, _, _ => none
  | f + 1, v10467, v10468 => L_digest_Sum_b79 rec67 (L_digest_Sum_l79 rec67 p1 v5956 v9040 f) p1 v5956 v9040 v10467 v10468
def L_digest_Sum_k68 (rec67 : (List Int) → Int → Option ((List UInt8))) (p1 : (List UInt8)) (v5956 : (List Int)) (l9035 : (List UInt8)) (v9040 : Int) : Option ((List UInt8)) :=
  (L_digest_Sum_l79 rec67 p1 v5956 v9040 fuel l9035 0)
def L_digest_Sum_b45 (rec67 : (List Int) → Int → Option ((List UInt8))) (p1 : (List UInt8)) (v5956 : (List Int)) (v5957 : Int) : Option ((List UInt8)) :=
  (cond (decide (v5957 < (IntKind.wrap .i64 ((IntKind.wrap .i64 (Int.tdiv ((List.length p1 : Nat) : Int) 64)) * 64)))) ((sub p1 v5957 ((List.length p1 : Nat) : Int)).bind fun l8928 => ((L_digest_words l8928).bind fun z8929 => ((chk (Nat.beq (List.length z8929) 64)).bind fun _ => ((L_digest_state_behind v5956 z8929).bind fun z8936 => ((chk (Nat.beq (List.length z8936) 8)).bind fun _ => (rec67 z8936 (IntKind.wrap .i64 (v5957 + 64)))))))) ((sub p1 (IntKind.wrap .i64 ((IntKind.wrap .i64 (Int.tdiv ((List.length p1 : Nat) : Int) 64)) * 64)) ((List.length p1 : Nat) : Int)).bind fun l9009 => ((some (cpy (List.replicate 128 (0 : UInt8)) 0 (List.length (List.replicate 128 (0 : UInt8))) l9009)).bind fun l9010 => ((idx l9010 (min ((List.length l9009 : Nat) : Int) (((List.length (List.replicate 128 (0 : UInt8))) : Nat) : Int))).bind fun x9031 => ((some (List.set l9010 (Int.toNat (min ((List.length l9009 : Nat) : Int) (((List.length (List.replicate 128 (0 : UInt8))) : Nat) : Int))) (128 : UInt8))).bind fun l9035 => (cond (decide ((IntKind.wrap .i64 ((IntKind.wrap .i64 ((min ((List.length l9009 : Nat) : Int) (((List.length (List.replicate 128 (0 : UInt8))) : Nat) : Int)) + 1)) + 8)) > 64)) (L_digest_Sum_k68 rec67 p1 v5956 l9035 128) (L_digest_Sum_k68 rec67 p1 v5956 l9035 64)))))))
def L_digest_Sum_l45 (p1 : (List UInt8)) : Nat → (List Int) → Int → Option ((List UInt8))
  | 0, _, _ => none
  | f + 1, v5956, v5957 => L_digest_Sum_b45  (L_digest_Sum_l45 p1 f) p1 v5956 v5957
def L_digest_Sum (p1 : (List UInt8)) : Option ((List UInt8)) :=
  ((L_digest_beginning ).bind fun z9 => ((chk (Nat.beq (List.length z9) 8)).bind fun _ => (L_digest_Sum_l45 p1 fuel z9 0)))
set_option maxRecDepth 100000 in
set_option maxHeartbeats 4000000 in
theorem L_digest_Sum_walk (A2 : Option Addr) (c3 : Nat) (p1 : (List UInt8)) (w0 : World) (hr4 : RdT eU8 w0 A2 c3 p1) (r : ((List UInt8))) (H : L_digest_Sum p1 = some r) :
  Calls Tryd.prog 44 #[(.slice A2 (List.length p1) c3)] w0 (fun e w' => e = .returned (.agg (cellsOf eU8 r).toArray) ∧ SP [] w0 w' []) := by
 unfold L_digest_Sum at H
 refine calls_go (n := 84) Tryd.func44 K K K ?_
 have hs0 := SP.start [] w0
 refine At.sq K ?_
 refine At.region K K ?_
 refine In.step (k' := 1) rfl K ?_
 refine Step.allocA (e := eU8) (l := (List.replicate 32 (0 : UInt8))) (m := 32) (t := 69) (z := .agg (cellsOf eU8 (List.replicate 32 (0 : UInt8))).toArray) (d := (some 2)) (k := 0) K rfl K rfl rfl K hs0 ?_
 intro g5 w6 (hs8 : SP [] w0 w6 [arrE 69 eU8 g5 32 (List.replicate 32 (0 : UInt8))])
 refine In.fin K ?_
 refine At.sq K ?_
 refine At.region K K ?_
 obtain ⟨z9, hz10, H⟩ := bind_elim H
 obtain ⟨ha11, H⟩ := chk_elim H
 replace ha11 := Nat.eq_of_beq_eq_true ha11
 refine In.step (k' := 1) rfl K ?_
 refine Step.callF (f := 52) (fo := (.func 52)) (xs := #[]) (tys := #[]) (first := #[]) (captured := #[]) (d := (some 13)) (k := 0) K rfl K K Tryd.call52 (L_digest_beginning_walk   w6  z9 hz10) ?_
 rintro e w12 ⟨rfl, hs13⟩
 refine ⟨_, rfl, ?_⟩
 have hs15 : SP [] w0 w12 [arrE 69 eU8 g5 32 (List.replicate 32 (0 : UInt8))] := SP.call hs8 hs13
 clear hs13
 refine In.step (k' := 2) rfl K ?_
 refine Step.allocA (e := (eInt .u32)) (l := (List.replicate 8 0)) (m := 8) (t := 95) (z := .agg (cellsOf (eInt .u32) (List.replicate 8 0)).toArray) (d := (some 3)) (k := 1) K rfl K rfl rfl K hs15 ?_
 intro g16 w17 (hs19 : SP [] w0 w17 [arrE 69 eU8 g5 32 (List.replicate 32 (0 : UInt8)), arrE 95 (eInt .u32) g16 8 (List.replicate 8 0)])
 refine In.step (k' := 3) rfl K ?_
 refine Step.storeA (e := (eInt .u32)) (l := (List.replicate 8 0)) (l' := z9) (m := 8) (t := 95) (x := (.tmp 3)) (y := (.tmp 13)) (g := g16) (i := 1) (d := none) (k := 2) K rfl K K ha11 hs19 rfl K ?_
 intro w20 (hs22 : SP [] w0 w20 [arrE 69 eU8 g5 32 (List.replicate 32 (0 : UInt8)), arrE 95 (eInt .u32) g16 8 z9])
 refine In.fin K ?_
 refine At.sq K ?_
 refine At.region K K ?_
 refine In.run' 5 (k' := 5) rfl [(14, (.slice A2 (List.length p1) c3)), (15, (.int .i64 ((List.length p1 : Nat) : Int))), (16, (.int .i64 (IntKind.wrap .i64 (Int.tdiv ((List.length p1 : Nat) : Int) 64)))), (17, (.int .i64 (IntKind.wrap .i64 ((IntKind.wrap .i64 (Int.tdiv ((List.length p1 : Nat) : Int) 64)) * 64)))), (4, (.int .i64 (IntKind.wrap .i64 ((IntKind.wrap .i64 (Int.tdiv ((List.length p1 : Nat) : Int) 64)) * 64))))] K ?_
 refine In.fin K ?_
 refine At.sq K ?_
 refine At.sq K ?_
 refine At.region K K ?_
 refine In.run' 1 (k' := 1) rfl [(5, (.int .i64 0))] K ?_
 refine In.fin K ?_
 refine At.bk K (id := 0) K ?_
 refine At.lp K (fun f67 ρ w => ∃ (v5956 : (List Int)) (v5957 : Int), Known ρ [(0, (.slice A2 (List.length p1) c3)), (2, (pt g5 0)), (3, (pt g16 0)), (4, (.int .i64 (IntKind.wrap .i64 ((IntKind.wrap .i64 (Int.tdiv ((List.length p1 : Nat) : Int) 64)) * 64)))), (5, (.int .i64 v5957))] ∧ SP [] w0 w [arrE 69 eU8 g5 32 (List.replicate 32 (0 : UInt8)), arrE 95 (eInt .u32) g16 8 v5956] ∧ L_digest_Sum_l45 p1 f67 v5956 v5957 = some r) (by rintro ρ w ⟨v5956, v5957, hk, hs, H⟩; cases H) ?_ fuel ?_
 ·rintro f67 ρ w5954 ⟨v5956, v5957, hk, hs5955, H⟩
  refine At.known [(0, (.slice A2 (List.length p1) c3)), (2, (pt g5 0)), (3, (pt g16 0)), (4, (.int .i64 (IntKind.wrap .i64 ((IntKind.wrap .i64 (Int.tdiv ((List.length p1 : Nat) : Int) 64)) * 64)))), (5, (.int .i64 v5957))] hk ?_
  replace H := (show L_digest_Sum_b45 (L_digest_Sum_l45 p1 f67) p1 v5956 v5957 = some r from H)
  unfold L_digest_Sum_b45 at H
  have ha8922 := arrE_len (SP.get hs5955 (i := 0) rfl)
  have ha8923 := arrE_len (SP.get hs5955 (i := 1) rfl)
  refine At.sq K ?_
  refine At.sq K ?_
  refine At.region K K ?_
  refine In.run' 3 (k' := 3) rfl [(18, (.int .i64 v5957)), (19, (.int .i64 (IntKind.wrap .i64 ((IntKind.wrap .i64 (Int.tdiv ((List.length p1 : Nat) : Int) 64)) * 64)))), (20, (.bool (decide (v5957 < (IntKind.wrap .i64 ((IntKind.wrap .i64 (Int.tdiv ((List.length p1 : Nat) : Int) 64)) * 64))))))] K ?_
  refine In.fin K ?_
  refine At.cd K (o := (.tmp 20)) K (b := (decide (v5957 < (IntKind.wrap .i64 ((IntKind.wrap .i64 (Int.tdiv ((List.length p1 : Nat) : Int) 64)) * 64))))) K (fun hb8924 => ?_) (fun hb8924 => ?_)
  ·have H := ct H hb8924
   refine At.skip K ?_
   refine At.sq K ?_
   refine At.bk K (id := 1) K ?_
   obtain ⟨hz8925, hz8926, hz8927, H⟩ := sub_elim H
   obtain ⟨l8928, hyl8928⟩ : ∃ y, (List.drop (Int.toNat v5957) (List.take (Int.toNat ((List.length p1 : Nat) : Int)) p1)) = y := ⟨_, rfl⟩
   rw [hyl8928] at H
   obtain ⟨z8929, hz8930, H⟩ := bind_elim H
   obtain ⟨ha8931, H⟩ := chk_elim H
   replace ha8931 := Nat.eq_of_beq_eq_true ha8931
   obtain ⟨z8936, hz8937, H⟩ := bind_elim H
   obtain ⟨ha8938, H⟩ := chk_elim H
   replace ha8938 := Nat.eq_of_beq_eq_true ha8938
   refine At.stages K K K K K [GEq (.agg (cellsOf (eInt .u32) v5956).toArray), GEq (.slice A2 (List.length p1) c3), GEq (.int .i64 v5957), GEq (.slice (cutA eU8.sz c3 (Int.toNat v5957) A2) (List.length l8928) (c3 - Int.toNat v5957)), GEq (.agg (cellsOf (eInt .u32) z8929).toArray), GEq (.agg (cellsOf (eInt .u32) z8936).toArray), GAny] [4, 5, 6] [([], fun vs w => VL vs [] ∧ SP [] w0 w [arrE 69 eU8 g5 32 (List.replicate 32 (0 : UInt8)), arrE 95 (eInt .u32) g16 8 v5956]), ([4], fun vs w => VL vs [(.agg (cellsOf (eInt .u32) z8929).toArray)] ∧ SP [] w0 w [arrE 69 eU8 g5 32 (List.replicate 32 (0 : UInt8)), arrE 95 (eInt .u32) g16 8 v5956]), ([4, 5], fun vs w => VL vs [(.agg (cellsOf (eInt .u32) z8929).toArray), (.agg (cellsOf (eInt .u32) z8936).toArray)] ∧ SP [] w0 w [arrE 69 eU8 g5 32 (List.replicate 32 (0 : UInt8)), arrE 95 (eInt .u32) g16 8 v5956]), ([4, 5, 6], fun vs w => VL vs [(.agg (cellsOf (eInt .u32) z8929).toArray), (.agg (cellsOf (eInt .u32) z8936).toArray), undef] ∧ SP [] w0 w [arrE 69 eU8 g5 32 (List.replicate 32 (0 : UInt8)), arrE 95 (eInt .u32) g16 8 z8936])] (N := 7) K ⟨K, Nat.zero_lt_succ _⟩ (show VL [] [] ∧ SP [] w0 w5954.drew [arrE 69 eU8 g5 32 (List.replicate 32 (0 : UInt8)), arrE 95 (eInt .u32) g16 8 v5956] from ⟨trivial, SP.drew hs5955⟩) ⟨⟨⟨⟨⟨⟨⟨trivial, ?_⟩, ?_⟩, ?_⟩, ?_⟩, ?_⟩, ?_⟩, ?_⟩ (last := 3) K ?_
   ·refine Owe.light K [0, 1] K (all_cons ?_ (all_cons ?_ all_nil))
    ·rintro ρ' w' hs hah ⟨hvl8970, hs8969⟩
     have hkn : Known ρ' [(3, (pt g16 0))] := ⟨(hs 3 K).trans K, trivial⟩
     refine Step.known _ hkn ?_
     refine Step.loadA (e := (eInt .u32)) (l := v5956) (m := 8) (t := 95) (x := (.tmp 3)) (g := g16) (i := 1) (d := (some 23)) (k := 0) K rfl K hs8969 rfl K K ?_
     exact ⟨rfl, _, updO_known hkn, rfl⟩
    ·rintro ρ' w' hs hah ⟨⟨q8972, -⟩, hs8971⟩
     have hkn : Known ρ' [(3, (pt g16 0))] := ⟨(hs 3 K).trans K, trivial⟩
     refine Step.known _ hkn ?_
     refine Step.loadA (e := (eInt .u32)) (l := v5956) (m := 8) (t := 95) (x := (.tmp 3)) (g := g16) (i := 1) (d := (some 23)) (k := 0) K rfl K hs8971 rfl K K ?_
     exact ⟨rfl, _, updO_known hkn, rfl⟩
   ·exact Owe.run K [(0, (.slice A2 (List.length p1) c3))] ⟨gS K K, trivial⟩ (.slice A2 (List.length p1) c3) (fun _ _ => K) rfl
   ·exact Owe.run K [(5, (.int .i64 v5957))] ⟨gS K K, trivial⟩ (.int .i64 v5957) (fun _ _ => K) rfl
   ·refine Owe.light K [0] K (all_cons ?_ all_nil)
    ·rintro ρ' w' hs hah ⟨hvl8975, hs8974⟩
     have hkn : Known ρ' [(24, (.slice A2 (List.length p1) c3)), (25, (.int .i64 v5957))] := ⟨hah 1 24 K, hah 2 25 K, trivial⟩
     refine Step.known _ hkn ?_
     refine Step.slice2 (e := eU8) (l := p1) (m := l8928) (A := A2) (c := c3) (T := 50) (E := 5) (x := (.tmp 24)) (lo := (some (.tmp 25))) (hi := none) (i := v5957) (j := ((List.length p1 : Nat) : Int)) (d := (some 26)) (k := 3) K rfl K K K ⟨.i64, K⟩ rfl (RdX.le (RdT.sp hr4 hs8974)) hz8925 hz8926 hz8927 hyl8928 ?_
     exact ⟨rfl, _, updO_known hkn, rfl⟩
   ·refine Owe.heavy K [(0, 1)] K (all_cons ⟨K, K, ?_⟩ all_nil)
    ·rintro ρ' w' hs hah ⟨hvl8977, hs8976⟩
     have hkn : Known ρ' [(26, (.slice (cutA eU8.sz c3 (Int.toNat v5957) A2) (List.length l8928) (c3 - Int.toNat v5957)))] := ⟨hah 3 26 K, trivial⟩
     refine Step.known _ hkn ?_
     refine Step.callF (f := 54) (fo := (.func 54)) (xs := #[(.tmp 26)]) (tys := #[50]) (first := #[]) (captured := #[]) (d := (some 27)) (k := 4) K rfl K K Tryd.call54 (L_digest_words_walk (cutA eU8.sz c3 (Int.toNat v5957) A2) (c3 - Int.toNat v5957) l8928 w' ((cut_rd hz8925 hz8926 hz8927 hyl8928) w' (RdT.sp hr4 hs8976)) z8929 hz8930) ?_
     rintro e w8978 ⟨rfl, hs8979⟩
     refine ⟨_, rfl, ?_⟩
     have hs8981 : SP [] w0 w8978 [arrE 69 eU8 g5 32 (List.replicate 32 (0 : UInt8)), arrE 95 (eInt .u32) g16 8 v5956] := SP.call hs8976 hs8979
     clear hs8979
     refine ⟨_, updO_known hkn, rfl, ?_⟩
     exact (And.intro (And.intro rfl (trivial)) (hs8981))
   ·refine Owe.heavy K [(1, 2)] K (all_cons ⟨K, K, ?_⟩ all_nil)
    ·rintro ρ' w' hs hah ⟨⟨q8983, -⟩, hs8982⟩
     have hkn : Known ρ' [(23, (.agg (cellsOf (eInt .u32) v5956).toArray)), (27, (.agg (cellsOf (eInt .u32) z8929).toArray))] := ⟨hah 0 23 K, (valF_eq (h := 4) K).symm.trans q8983, trivial⟩
     refine Step.known _ hkn ?_
     refine Step.callF (f := 53) (fo := (.func 53)) (xs := #[(.tmp 23), (.tmp 27)]) (tys := #[95, 91]) (first := #[]) (captured := #[]) (d := (some 28)) (k := 5) K rfl K K Tryd.call53 (L_digest_state_behind_walk  v5956 z8929 w' ha8923 ha8931 z8936 hz8937) ?_
     rintro e w8985 ⟨rfl, hs8986⟩
     refine ⟨_, rfl, ?_⟩
     have hs8988 : SP [] w0 w8985 [arrE 69 eU8 g5 32 (List.replicate 32 (0 : UInt8)), arrE 95 (eInt .u32) g16 8 v5956] := SP.call hs8982 hs8986
     clear hs8986
     refine ⟨_, updO_known hkn, rfl, ?_⟩
     exact (And.intro (And.intro q8983 (And.intro rfl (trivial))) (hs8988))
   ·refine Owe.heavy K [(2, 3)] K (all_cons ⟨K, K, ?_⟩ all_nil)
    ·rintro ρ' w' hs hah ⟨⟨q8990, q8991, -⟩, hs8989⟩
     have hkn : Known ρ' [(3, (pt g16 0)), (28, (.agg (cellsOf (eInt .u32) z8936).toArray))] := ⟨(hs 3 K).trans K, (valF_eq (h := 5) K).symm.trans q8991, trivial⟩
     refine Step.known _ hkn ?_
     refine Step.storeA (e := (eInt .u32)) (l := v5956) (l' := z8936) (m := 8) (t := 95) (x := (.tmp 3)) (y := (.tmp 28)) (g := g16) (i := 1) (d := none) (k := 6) K rfl K K ha8938 hs8989 rfl K ?_
     intro w8993 (hs8995 : SP [] w0 w8993 [arrE 69 eU8 g5 32 (List.replicate 32 (0 : UInt8)), arrE 95 (eInt .u32) g16 8 z8936])
     refine ⟨_, updO_known hkn, trivial, ?_⟩
     exact (And.intro (And.intro q8990 (And.intro q8991 (And.intro rfl (trivial)))) (hs8995))
   ·rintro ρ' w' hs hf ⟨⟨q8997, q8998, q8999, -⟩, hs8996⟩
    refine postKnown [(0, (.slice A2 (List.length p1) c3)), (2, (pt g5 0)), (3, (pt g16 0)), (4, (.int .i64 (IntKind.wrap .i64 ((IntKind.wrap .i64 (Int.tdiv ((List.length p1 : Nat) : Int) 64)) * 64)))), (5, (.int .i64 v5957))] ⟨(hs 0 K).trans K, (hs 2 K).trans K, (hs 3 K).trans K, (hs 4 K).trans K, (hs 5 K).trans K, trivial⟩ ?_
    obtain ⟨w9001, hww9001⟩ : ∃ x, w' = x := ⟨_, rfl⟩
    rw [hww9001] at hs8996 ⊢
    refine At.region K K ?_
    refine In.run' 3 (k' := 3) rfl [(21, (.int .i64 v5957)), (22, (.int .i64 (IntKind.wrap .i64 (v5957 + 64)))), (5, (.int .i64 (IntKind.wrap .i64 (v5957 + 64))))] K ?_
    refine In.fin K ?_
    exact ⟨z8936, (IntKind.wrap .i64 (v5957 + 64)), ⟨K, K, K, K, K, trivial⟩, SP.sel hs8996 [0, 1] rfl rfl, H⟩
  ·have H := cf H hb8924
   refine At.exit K (id := 0) K ?_
   refine At.sq K ?_
   refine At.region K K ?_
   refine In.step (k' := 1) rfl K ?_
   refine Step.allocA (e := eU8) (l := (List.replicate 128 (0 : UInt8))) (m := 128) (t := 98) (z := .agg (cellsOf eU8 (List.replicate 128 (0 : UInt8))).toArray) (d := (some 6)) (k := 0) K rfl K rfl rfl K hs5955 ?_
   intro g9002 w9003 (hs9005 : SP [] w0 w9003 [arrE 69 eU8 g5 32 (List.replicate 32 (0 : UInt8)), arrE 95 (eInt .u32) g16 8 v5956, arrE 98 eU8 g9002 128 (List.replicate 128 (0 : UInt8))])
   refine In.fin K ?_
   refine At.sq K ?_
   obtain ⟨hz9006, hz9007, hz9008, H⟩ := sub_elim H
   obtain ⟨l9009, hyl9009⟩ : ∃ y, (List.drop (Int.toNat (IntKind.wrap .i64 ((IntKind.wrap .i64 (Int.tdiv ((List.length p1 : Nat) : Int) 64)) * 64))) (List.take (Int.toNat ((List.length p1 : Nat) : Int)) p1)) = y := ⟨_, rfl⟩
   rw [hyl9009] at H
   replace H := some_bind_elim H
   obtain ⟨l9010, hyl9010⟩ : ∃ y, (cpy (List.replicate 128 (0 : UInt8)) 0 (List.length (List.replicate 128 (0 : UInt8))) l9009) = y := ⟨_, rfl⟩
   rw [hyl9010] at H
   have hnl9010 : List.length l9010 = List.length (List.replicate 128 (0 : UInt8)) := by rw [← hyl9010]; exact cpy_length (by omega)
   refine At.stages K K K K K [GEq (.slice (some ⟨g9002, 0, none⟩) (List.length (List.replicate 128 (0 : UInt8))) 128), GEq (.slice A2 (List.length p1) c3), GEq (.int .i64 (IntKind.wrap .i64 ((IntKind.wrap .i64 (Int.tdiv ((List.length p1 : Nat) : Int) 64)) * 64))), GEq (.slice (cutA eU8.sz c3 (Int.toNat (IntKind.wrap .i64 ((IntKind.wrap .i64 (Int.tdiv ((List.length p1 : Nat) : Int) 64)) * 64))) A2) (List.length l9009) (c3 - Int.toNat (IntKind.wrap .i64 ((IntKind.wrap .i64 (Int.tdiv ((List.length p1 : Nat) : Int) 64)) * 64)))), GEq (.int .i64 (min ((List.length l9009 : Nat) : Int) (((List.length (List.replicate 128 (0 : UInt8))) : Nat) : Int))), GEq (.int .i64 (min ((List.length l9009 : Nat) : Int) (((List.length (List.replicate 128 (0 : UInt8))) : Nat) : Int)))] [4] [([], fun vs w => VL vs [] ∧ SP [] w0 w [arrE 69 eU8 g5 32 (List.replicate 32 (0 : UInt8)), arrE 95 (eInt .u32) g16 8 v5956, arrE 98 eU8 g9002 128 (List.replicate 128 (0 : UInt8))]), ([4], fun vs w => VL vs [(.int .i64 (min ((List.length l9009 : Nat) : Int) (((List.length (List.replicate 128 (0 : UInt8))) : Nat) : Int)))] ∧ SP [] w0 w [arrE 69 eU8 g5 32 (List.replicate 32 (0 : UInt8)), arrE 95 (eInt .u32) g16 8 v5956, arrE 98 eU8 g9002 128 l9010])] (N := 6) K ⟨K, Nat.zero_lt_succ _⟩ (show VL [] [] ∧ SP [] w0 w9003.drew [arrE 69 eU8 g5 32 (List.replicate 32 (0 : UInt8)), arrE 95 (eInt .u32) g16 8 v5956, arrE 98 eU8 g9002 128 (List.replicate 128 (0 : UInt8))] from ⟨trivial, SP.drew hs9005⟩) ⟨⟨⟨⟨⟨⟨trivial, ?_⟩, ?_⟩, ?_⟩, ?_⟩, ?_⟩, ?_⟩ (last := 1) K ?_
   ·refine Owe.light K [0] K (all_cons ?_ all_nil)
    ·rintro ρ' w' hs hah ⟨hvl9019, hs9018⟩
     have hkn : Known ρ' [(6, (pt g9002 0))] := ⟨(hs 6 K).trans K, trivial⟩
     refine Step.known _ hkn ?_
     refine Step.sliceA0 (e := eU8) (l := (List.replicate 128 (0 : UInt8))) (m := 128) (g := g9002) (T := 98) (E := 5) (x := (.tmp 6)) (q := 2) (d := (some 29)) (k := 0) K rfl K K K hs9018 rfl ?_
     exact ⟨rfl, _, updO_known hkn, rfl⟩
   ·exact Owe.run K [(0, (.slice A2 (List.length p1) c3))] ⟨gS K K, trivial⟩ (.slice A2 (List.length p1) c3) (fun _ _ => K) rfl
   ·exact Owe.run K [(4, (.int .i64 (IntKind.wrap .i64 ((IntKind.wrap .i64 (Int.tdiv ((List.length p1 : Nat) : Int) 64)) * 64))))] ⟨gS K K, trivial⟩ (.int .i64 (IntKind.wrap .i64 ((IntKind.wrap .i64 (Int.tdiv ((List.length p1 : Nat) : Int) 64)) * 64))) (fun _ _ => K) rfl
   ·refine Owe.light K [0] K (all_cons ?_ all_nil)
    ·rintro ρ' w' hs hah ⟨hvl9021, hs9020⟩
     have hkn : Known ρ' [(30, (.slice A2 (List.length p1) c3)), (31, (.int .i64 (IntKind.wrap .i64 ((IntKind.wrap .i64 (Int.tdiv ((List.length p1 : Nat) : Int) 64)) * 64))))] := ⟨hah 1 30 K, hah 2 31 K, trivial⟩
     refine Step.known _ hkn ?_
     refine Step.slice2 (e := eU8) (l := p1) (m := l9009) (A := A2) (c := c3) (T := 50) (E := 5) (x := (.tmp 30)) (lo := (some (.tmp 31))) (hi := none) (i := (IntKind.wrap .i64 ((IntKind.wrap .i64 (Int.tdiv ((List.length p1 : Nat) : Int) 64)) * 64))) (j := ((List.length p1 : Nat) : Int)) (d := (some 32)) (k := 3) K rfl K K K ⟨.i64, K⟩ rfl (RdX.le (RdT.sp hr4 hs9020)) hz9006 hz9007 hz9008 hyl9009 ?_
     exact ⟨rfl, _, updO_known hkn, rfl⟩
   ·refine Owe.heavy K [(0, 1)] K (all_cons ⟨K, K, ?_⟩ all_nil)
    ·rintro ρ' w' hs hah ⟨hvl9023, hs9022⟩
     have hkn : Known ρ' [(29, (.slice (some ⟨g9002, 0, none⟩) (List.length (List.replicate 128 (0 : UInt8))) 128)), (32, (.slice (cutA eU8.sz c3 (Int.toNat (IntKind.wrap .i64 ((IntKind.wrap .i64 (Int.tdiv ((List.length p1 : Nat) : Int) 64)) * 64))) A2) (List.length l9009) (c3 - Int.toNat (IntKind.wrap .i64 ((IntKind.wrap .i64 (Int.tdiv ((List.length p1 : Nat) : Int) 64)) * 64)))))] := ⟨hah 0 29 K, hah 3 32 K, trivial⟩
     refine Step.known _ hkn ?_
     refine Step.copyA (e := eU8) (l := (List.replicate 128 (0 : UInt8))) (y' := l9009) (l' := l9010) (m := 128) (g := g9002) (lo := 0) (dl := (List.length (List.replicate 128 (0 : UInt8)))) (T := 50) (T2 := 50) (E := 5) (x := (.tmp 29)) (y := (.tmp 32)) (i := 2) (A := (some ⟨g9002, 0, none⟩)) (dc := 128) (A2 := (cutA eU8.sz c3 (Int.toNat (IntKind.wrap .i64 ((IntKind.wrap .i64 (Int.tdiv ((List.length p1 : Nat) : Int) 64)) * 64))) A2)) (c2 := (c3 - Int.toNat (IntKind.wrap .i64 ((IntKind.wrap .i64 (Int.tdiv ((List.length p1 : Nat) : Int) 64)) * 64)))) (d := (some 33)) (k := 4) K rfl K K K K rfl hs9022 rfl (cut_whole0) (by omega) ((cut_rd hz9006 hz9007 hz9008 hyl9009) w' (RdT.sp hr4 hs9022)) hyl9010 ?_
     intro w9024 hs9025 _
     have hs9026 : SP [] w0 w9024 [arrE 69 eU8 g5 32 (List.replicate 32 (0 : UInt8)), arrE 95 (eInt .u32) g16 8 v5956, arrE 98 eU8 g9002 128 l9010] := hs9025
     clear hs9025
     refine ⟨_, updO_known hkn, rfl, ?_⟩
     exact (And.intro (And.intro rfl (trivial)) (hs9026))
   ·exact Owe.run K [(33, (.int .i64 (min ((List.length l9009 : Nat) : Int) (((List.length (List.replicate 128 (0 : UInt8))) : Nat) : Int))))] ⟨gA 4 K K, trivial⟩ (.int .i64 (min ((List.length l9009 : Nat) : Int) (((List.length (List.replicate 128 (0 : UInt8))) : Nat) : Int))) (fun _ _ => K) rfl
   ·rintro ρ' w' hs hf ⟨⟨q9028, -⟩, hs9027⟩
    refine postKnown [(0, (.slice A2 (List.length p1) c3)), (2, (pt g5 0)), (3, (pt g16 0)), (6, (pt g9002 0)), (7, (.int .i64 (min ((List.length l9009 : Nat) : Int) (((List.length (List.replicate 128 (0 : UInt8))) : Nat) : Int))))] ⟨(hs 0 K).trans K, (hs 2 K).trans K, (hs 3 K).trans K, (hs 6 K).trans K, hf 5 7 K, trivial⟩ ?_
    obtain ⟨w9030, hww9030⟩ : ∃ x, w' = x := ⟨_, rfl⟩
    rw [hww9030] at hs9027 ⊢
    refine At.sq K ?_
    refine At.region K K ?_
    refine In.run' 1 (k' := 1) rfl [(34, (.int .i64 (min ((List.length l9009 : Nat) : Int) (((List.length (List.replicate 128 (0 : UInt8))) : Nat) : Int))))] K ?_
    obtain ⟨x9031, hp9032, hq9033, hx9034, H⟩ := idx_elim H
    refine In.step (k' := 2) rfl K ?_
    refine Step.elemA (e := eU8) (l := l9010) (m := 128) (g := g9002) (T := 98) (E := 5) (x := (.tmp 6)) (ix := (.tmp 34)) (ki := .i64) (iz := (min ((List.length l9009 : Nat) : Int) (((List.length (List.replicate 128 (0 : UInt8))) : Nat) : Int))) (i := 2) (d := (some 35)) (k := 1) K rfl K K K K hs9027 rfl hp9032 hq9033 ?_
    replace H := some_bind_elim H
    obtain ⟨l9035, hyl9035⟩ : ∃ y, (List.set l9010 (Int.toNat (min ((List.length l9009 : Nat) : Int) (((List.length (List.replicate 128 (0 : UInt8))) : Nat) : Int))) (128 : UInt8)) = y := ⟨_, rfl⟩
    rw [hyl9035] at H
    have hnl9035 : List.length l9035 = List.length l9010 := by rw [← hyl9035, List.length_set]
    refine In.step (k' := 3) rfl K ?_
    refine Step.storeElemA (e := eU8) (t := 5) (x := (.tmp 35)) (y := (.const (.int .u8 (128)))) (l := l9010) (iz := (min ((List.length l9009 : Nat) : Int) (((List.length (List.replicate 128 (0 : UInt8))) : Nat) : Int))) (m := 128) (g := g9002) (b := g9002) (off := 0) (i := 2) (v := (.int .u8 128)) (x' := (128 : UInt8)) (d := none) (k := 2) K rfl rfl K K hs9027 rfl rfl hq9033 hp9032 rfl K ?_
    rw [hyl9035]
    intro w9036 (hs9038 : SP [] w0 w9036 [arrE 69 eU8 g5 32 (List.replicate 32 (0 : UInt8)), arrE 95 (eInt .u32) g16 8 v5956, arrE 98 eU8 g9002 128 l9035])
    refine In.known [] trivial ?_
    refine In.fin K ?_
    refine At.sq K ?_
    refine At.region K K ?_
    refine In.run' 1 (k' := 1) rfl [(8, (.int .i64 64))] K ?_
    refine In.fin K ?_
    refine At.sq K ?_
    refine At.sq K ?_
    refine At.region K K ?_
    refine In.run' 4 (k' := 4) rfl [(36, (.int .i64 (min ((List.length l9009 : Nat) : Int) (((List.length (List.replicate 128 (0 : UInt8))) : Nat) : Int)))), (37, (.int .i64 (IntKind.wrap .i64 ((min ((List.length l9009 : Nat) : Int) (((List.length (List.replicate 128 (0 : UInt8))) : Nat) : Int)) + 1)))), (38, (.int .i64 (IntKind.wrap .i64 ((IntKind.wrap .i64 ((min ((List.length l9009 : Nat) : Int) (((List.length (List.replicate 128 (0 : UInt8))) : Nat) : Int)) + 1)) + 8)))), (39, (.bool (decide ((IntKind.wrap .i64 ((IntKind.wrap .i64 ((min ((List.length l9009 : Nat) : Int) (((List.length (List.replicate 128 (0 : UInt8))) : Nat) : Int)) + 1)) + 8)) > 64))))] K ?_
    refine In.fin K ?_
    refine At.join (fun ρ w => ∃ (v9040 : Int), Known ρ [(0, (.slice A2 (List.length p1) c3)), (2, (pt g5 0)), (3, (pt g16 0)), (6, (pt g9002 0)), (8, (.int .i64 v9040))] ∧ SP [] w0 w [arrE 69 eU8 g5 32 (List.replicate 32 (0 : UInt8)), arrE 95 (eInt .u32) g16 8 v5956, arrE 98 eU8 g9002 128 l9035] ∧ L_digest_Sum_k68 (L_digest_Sum_l45 p1 f67) p1 v5956 l9035 v9040 = some r) ?_ ?_
    ·refine At.cd K (o := (.tmp 39)) K (b := (decide ((IntKind.wrap .i64 ((IntKind.wrap .i64 ((min ((List.length l9009 : Nat) : Int) (((List.length (List.replicate 128 (0 : UInt8))) : Nat) : Int)) + 1)) + 8)) > 64))) K (fun hb11885 => ?_) (fun hb11885 => ?_)
     ·have H := ct H hb11885
      refine At.region K K ?_
      refine In.run' 1 (k' := 1) rfl [(8, (.int .i64 128))] K ?_
      refine In.fin K ?_
      exact ⟨128, ⟨K, K, K, K, K, trivial⟩, SP.sel hs9038 [0, 1, 2] rfl rfl, H⟩
     ·have H := cf H hb11885
      refine At.skip K ?_
      exact ⟨64, ⟨K, K, K, K, K, trivial⟩, SP.sel hs9038 [0, 1, 2] rfl rfl, H⟩
    ·rintro ρ w9041 ⟨v9040, hk, hs9042, H⟩
     unfold L_digest_Sum_k68 at H
     first | refine At.known [(0, (.slice A2 (List.length p1) c3)), (2, (pt g5 0)), (3, (pt g16 0)), (6, (pt g9002 0)), (8, (.int .i64 v9040))] hk ?_ | rw [← known_updL (l := [(0, (.slice A2 (List.length p1) c3)), (2, (pt g5 0)), (3, (pt g16 0)), (6, (pt g9002 0)), (8, (.int .i64 v9040))]) hk]
     have ha9043 := arrE_len (SP.get hs9042 (i := 0) rfl)
     have ha9044 := arrE_len (SP.get hs9042 (i := 1) rfl)
     have ha9045 := arrE_len (SP.get hs9042 (i := 2) rfl)
     refine At.sq K ?_
     refine At.sq K ?_
     refine At.region K K ?_
     refine In.run' 1 (k' := 1) rfl [(40, (.int .i64 0))] K ?_
     refine In.fin K ?_
     refine At.bk K (id := 2) K ?_
     refine At.lp K (fun f84 ρ w => ∃ (v10467 : (List UInt8)) (v10468 : Int), Known ρ [(0, (.slice A2 (List.length p1) c3)), (2, (pt g5 0)), (3, (pt g16 0)), (6, (pt g9002 0)), (8, (.int .i64 v9040)), (40, (.int .i64 v10468))] ∧ SP [] w0 w [arrE 69 eU8 g5 32 (List.replicate 32 (0 : UInt8)), arrE 95 (eInt .u32) g16 8 v5956, arrE 98 eU8 g9002 128 v10467] ∧ L_digest_Sum_l79 (L_digest_Sum_l45 p1 f67) p1 v5956 v9040 f84 v10467 v10468 = some r) (by rintro ρ w ⟨v10467, v10468, hk, hs, H⟩; cases H) ?_ fuel ?_
     ·rintro f84 ρ w10465 ⟨v10467, v10468, hk, hs10466, H⟩
      refine At.known [(0, (.slice A2 (List.length p1) c3)), (2, (pt g5 0)), (3, (pt g16 0)), (6, (pt g9002 0)), (8, (.int .i64 v9040)), (40, (.int .i64 v10468))] hk ?_
      replace H := (show L_digest_Sum_b79 (L_digest_Sum_l45 p1 f67) (L_digest_Sum_l79 (L_digest_Sum_l45 p1 f67) p1 v5956 v9040 f84) p1 v5956 v9040 v10467 v10468 = some r from H)
      unfold L_digest_Sum_b79 at H
      have ha11177 := arrE_len (SP.get hs10466 (i := 0) rfl)
      have ha11178 := arrE_len (SP.get hs10466 (i := 1) rfl)
      have ha11179 := arrE_len (SP.get hs10466 (i := 2) rfl)
      refine At.sq K ?_
      refine At.region K K ?_
      refine In.run' 1 (k' := 1) rfl [(41, (.bool (decide (v10468 < 8))))] K ?_
      refine In.fin K ?_
      refine At.sq K ?_
      refine At.cd K (o := (.tmp 41)) K (b := (decide (v10468 < 8))) K (fun hb11180 => ?_) (fun hb11180 => ?_)
      ·have H := ct H hb11180
       refine At.skip K ?_
       refine At.sq K ?_
       refine At.bk K (id := 3) K ?_
       refine At.sq K ?_
       refine At.region K K ?_
       refine In.run' 2 (k' := 2) rfl [(42, (.int .i64 v10468)), (9, (.int .i64 v10468))] K ?_
       refine In.fin K ?_
       refine At.region K K ?_
       refine In.run' 10 (k' := 10) rfl [(43, (.int .i64 v9040)), (44, (.int .i64 (IntKind.wrap .i64 (v9040 - 1)))), (45, (.int .i64 v10468)), (46, (.int .i64 (IntKind.wrap .i64 ((IntKind.wrap .i64 (v9040 - 1)) - v10468)))), (47, (.slice A2 (List.length p1) c3)), (48, (.int .i64 ((List.length p1 : Nat) : Int))), (49, (.int .u64 (IntKind.wrap .u64 ((List.length p1 : Nat) : Int)))), (50, (.int .u64 (IntKind.wrap .u64 ((IntKind.wrap .u64 ((List.length p1 : Nat) : Int)) * 8)))), (51, (.int .i64 v10468)), (52, (.int .i64 (IntKind.wrap .i64 (8 * v10468))))] K ?_
       obtain ⟨hl11181, H⟩ := chk_elim H
       refine In.step (k' := 11) rfl K ?_
       refine Step.shift (op := .shr) (T := 86) (T' := 3) (x := (.tmp 50)) (y := (.tmp 52)) (kx := .u64) (ky := .i64) (a := (IntKind.wrap .u64 ((IntKind.wrap .u64 ((List.length p1 : Nat) : Int)) * 8))) (b := (IntKind.wrap .i64 (8 * v10468))) (v := (.int .u64 (bShr .u64 (IntKind.wrap .u64 ((IntKind.wrap .u64 ((List.length p1 : Nat) : Int)) * 8)) (IntKind.wrap .i64 (8 * v10468))))) (d := (some 53)) (k := 10) K rfl K K (of_decide_eq_true hl11181) rfl ?_
       refine In.run' 1 (k' := 12) rfl [(54, (.int .u8 (IntKind.wrap .u8 (bShr .u64 (IntKind.wrap .u64 ((IntKind.wrap .u64 ((List.length p1 : Nat) : Int)) * 8)) (IntKind.wrap .i64 (8 * v10468))))))] K ?_
       obtain ⟨x11182, hp11183, hq11184, hx11185, H⟩ := idx_elim H
       refine In.step (k' := 13) rfl K ?_
       refine Step.elemA (e := eU8) (l := v10467) (m := 128) (g := g9002) (T := 98) (E := 5) (x := (.tmp 6)) (ix := (.tmp 46)) (ki := .i64) (iz := (IntKind.wrap .i64 ((IntKind.wrap .i64 (v9040 - 1)) - v10468))) (i := 2) (d := (some 55)) (k := 12) K rfl K K K K hs10466 rfl hp11183 hq11184 ?_
       replace H := some_bind_elim H
       obtain ⟨l11186, hyl11186⟩ : ∃ y, (List.set v10467 (Int.toNat (IntKind.wrap .i64 ((IntKind.wrap .i64 (v9040 - 1)) - v10468))) (toU8 (IntKind.wrap .u8 (bShr .u64 (IntKind.wrap .u64 ((IntKind.wrap .u64 ((List.length p1 : Nat) : Int)) * 8)) (IntKind.wrap .i64 (8 * v10468)))))) = y := ⟨_, rfl⟩
       rw [hyl11186] at H
       have hnl11186 : List.length l11186 = List.length v10467 := by rw [← hyl11186, List.length_set]
       refine In.step (k' := 14) rfl K ?_
       refine Step.storeElemA (e := eU8) (t := 5) (x := (.tmp 55)) (y := (.tmp 54)) (l := v10467) (iz := (IntKind.wrap .i64 ((IntKind.wrap .i64 (v9040 - 1)) - v10468))) (m := 128) (g := g9002) (b := g9002) (off := 0) (i := 2) (v := (.int .u8 (IntKind.wrap .u8 (bShr .u64 (IntKind.wrap .u64 ((IntKind.wrap .u64 ((List.length p1 : Nat) : Int)) * 8)) (IntKind.wrap .i64 (8 * v10468)))))) (x' := (toU8 (IntKind.wrap .u8 (bShr .u64 (IntKind.wrap .u64 ((IntKind.wrap .u64 ((List.length p1 : Nat) : Int)) * 8)) (IntKind.wrap .i64 (8 * v10468)))))) (d := none) (k := 13) K rfl rfl K K hs10466 rfl rfl hq11184 hp11183 (by show [Value.int .u8 (((toU8 (IntKind.wrap .u8 (bShr .u64 (IntKind.wrap .u64 ((IntKind.wrap .u64 ((List.length p1 : Nat) : Int)) * 8)) (IntKind.wrap .i64 (8 * v10468)))))).toNat : Int)] = _; rw [u8_back (u8_wrap _)]) K ?_
       rw [hyl11186]
       intro w11187 (hs11189 : SP [] w0 w11187 [arrE 69 eU8 g5 32 (List.replicate 32 (0 : UInt8)), arrE 95 (eInt .u32) g16 8 v5956, arrE 98 eU8 g9002 128 l11186])
       refine In.known [] trivial ?_
       refine In.fin K ?_
       refine At.region K K ?_
       refine In.run' 2 (k' := 2) rfl [(56, (.int .i64 (IntKind.wrap .i64 (v10468 + 1)))), (40, (.int .i64 (IntKind.wrap .i64 (v10468 + 1))))] K ?_
       refine In.fin K ?_
       exact ⟨l11186, (IntKind.wrap .i64 (v10468 + 1)), ⟨K, K, K, K, K, K, trivial⟩, SP.sel hs11189 [0, 1, 2] rfl rfl, H⟩
      ·have H := cf H hb11180
       refine At.exit K (id := 2) K ?_
       refine At.sq K ?_
       refine At.sq K ?_
       refine At.region K K ?_
       refine In.run' 1 (k' := 1) rfl [(10, (.int .i64 0))] K ?_
       refine In.fin K ?_
       refine At.bk K (id := 4) K ?_
       refine At.lp K (fun f88 ρ w => ∃ (v11539 : (List Int)) (v11540 : Int), Known ρ [(2, (pt g5 0)), (3, (pt g16 0)), (6, (pt g9002 0)), (8, (.int .i64 v9040)), (10, (.int .i64 v11540))] ∧ SP [] w0 w [arrE 69 eU8 g5 32 (List.replicate 32 (0 : UInt8)), arrE 95 (eInt .u32) g16 8 v11539, arrE 98 eU8 g9002 128 v10467] ∧ L_digest_Sum_l87 (L_digest_Sum_l45 p1 f67) (L_digest_Sum_l79 (L_digest_Sum_l45 p1 f67) p1 v5956 v9040 f84) v9040 v10467 f88 v11539 v11540 = some r) (by rintro ρ w ⟨v11539, v11540, hk, hs, H⟩; cases H) ?_ fuel ?_
       ·rintro f88 ρ w11537 ⟨v11539, v11540, hk, hs11538, H⟩
        refine At.known [(2, (pt g5 0)), (3, (pt g16 0)), (6, (pt g9002 0)), (8, (.int .i64 v9040)), (10, (.int .i64 v11540))] hk ?_
        replace H := (show L_digest_Sum_b87 (L_digest_Sum_l45 p1 f67) (L_digest_Sum_l79 (L_digest_Sum_l45 p1 f67) p1 v5956 v9040 f84) (L_digest_Sum_l87 (L_digest_Sum_l45 p1 f67) (L_digest_Sum_l79 (L_digest_Sum_l45 p1 f67) p1 v5956 v9040 f84) v9040 v10467 f88) v9040 v10467 v11539 v11540 = some r from H)
        unfold L_digest_Sum_b87 at H
        have ha11713 := arrE_len (SP.get hs11538 (i := 0) rfl)
        have ha11714 := arrE_len (SP.get hs11538 (i := 1) rfl)
        have ha11715 := arrE_len (SP.get hs11538 (i := 2) rfl)
        refine At.sq K ?_
        refine At.sq K ?_
        refine At.region K K ?_
        refine In.run' 3 (k' := 3) rfl [(57, (.int .i64 v11540)), (58, (.int .i64 v9040)), (59, (.bool (decide (v11540 < v9040))))] K ?_
        refine In.fin K ?_
        refine At.cd K (o := (.tmp 59)) K (b := (decide (v11540 < v9040))) K (fun hb11716 => ?_) (fun hb11716 => ?_)
        ·have H := ct H hb11716
         refine At.skip K ?_
         refine At.sq K ?_
         refine At.bk K (id := 5) K ?_
         obtain ⟨hz11717, hz11718, hz11719, H⟩ := sub_elim H
         obtain ⟨l11720, hyl11720⟩ : ∃ y, (List.drop (Int.toNat v11540) (List.take (Int.toNat ((List.length v10467 : Nat) : Int)) v10467)) = y := ⟨_, rfl⟩
         rw [hyl11720] at H
         obtain ⟨z11721, hz11722, H⟩ := bind_elim H
         obtain ⟨ha11723, H⟩ := chk_elim H
         replace ha11723 := Nat.eq_of_beq_eq_true ha11723
         obtain ⟨z11728, hz11729, H⟩ := bind_elim H
         obtain ⟨ha11730, H⟩ := chk_elim H
         replace ha11730 := Nat.eq_of_beq_eq_true ha11730
         refine At.stages K K K K K [GEq (.agg (cellsOf (eInt .u32) v11539).toArray), GEq (.int .i64 v11540), GEq (.slice (cutA eU8.sz 128 (Int.toNat v11540) (some ⟨g9002, 0, none⟩)) (List.length l11720) (128 - Int.toNat v11540)), GEq (.agg (cellsOf (eInt .u32) z11721).toArray), GEq (.agg (cellsOf (eInt .u32) z11728).toArray), GAny] [3, 4, 5] [([], fun vs w => VL vs [] ∧ SP [] w0 w [arrE 69 eU8 g5 32 (List.replicate 32 (0 : UInt8)), arrE 95 (eInt .u32) g16 8 v11539, arrE 98 eU8 g9002 128 v10467]), ([3], fun vs w => VL vs [(.agg (cellsOf (eInt .u32) z11721).toArray)] ∧ SP [] w0 w [arrE 69 eU8 g5 32 (List.replicate 32 (0 : UInt8)), arrE 95 (eInt .u32) g16 8 v11539, arrE 98 eU8 g9002 128 v10467]), ([3, 4], fun vs w => VL vs [(.agg (cellsOf (eInt .u32) z11721).toArray), (.agg (cellsOf (eInt .u32) z11728).toArray)] ∧ SP [] w0 w [arrE 69 eU8 g5 32 (List.replicate 32 (0 : UInt8)), arrE 95 (eInt .u32) g16 8 v11539, arrE 98 eU8 g9002 128 v10467]), ([3, 4, 5], fun vs w => VL vs [(.agg (cellsOf (eInt .u32) z11721).toArray), (.agg (cellsOf (eInt .u32) z11728).toArray), undef] ∧ SP [] w0 w [arrE 69 eU8 g5 32 (List.replicate 32 (0 : UInt8)), arrE 95 (eInt .u32) g16 8 z11728, arrE 98 eU8 g9002 128 v10467])] (N := 6) K ⟨K, Nat.zero_lt_succ _⟩ (show VL [] [] ∧ SP [] w0 w11537.drew [arrE 69 eU8 g5 32 (List.replicate 32 (0 : UInt8)), arrE 95 (eInt .u32) g16 8 v11539, arrE 98 eU8 g9002 128 v10467] from ⟨trivial, SP.drew hs11538⟩) ⟨⟨⟨⟨⟨⟨trivial, ?_⟩, ?_⟩, ?_⟩, ?_⟩, ?_⟩, ?_⟩ (last := 3) K ?_
         ·refine Owe.light K [0, 1] K (all_cons ?_ (all_cons ?_ all_nil))
          ·rintro ρ' w' hs hah ⟨hvl11762, hs11761⟩
           have hkn : Known ρ' [(3, (pt g16 0))] := ⟨(hs 3 K).trans K, trivial⟩
           refine Step.known _ hkn ?_
           refine Step.loadA (e := (eInt .u32)) (l := v11539) (m := 8) (t := 95) (x := (.tmp 3)) (g := g16) (i := 1) (d := (some 62)) (k := 0) K rfl K hs11761 rfl K K ?_
           exact ⟨rfl, _, updO_known hkn, rfl⟩
          ·rintro ρ' w' hs hah ⟨⟨q11764, -⟩, hs11763⟩
           have hkn : Known ρ' [(3, (pt g16 0))] := ⟨(hs 3 K).trans K, trivial⟩
           refine Step.known _ hkn ?_
           refine Step.loadA (e := (eInt .u32)) (l := v11539) (m := 8) (t := 95) (x := (.tmp 3)) (g := g16) (i := 1) (d := (some 62)) (k := 0) K rfl K hs11763 rfl K K ?_
           exact ⟨rfl, _, updO_known hkn, rfl⟩
         ·exact Owe.run K [(10, (.int .i64 v11540))] ⟨gS K K, trivial⟩ (.int .i64 v11540) (fun _ _ => K) rfl
         ·refine Owe.light K [0] K (all_cons ?_ all_nil)
          ·rintro ρ' w' hs hah ⟨hvl11767, hs11766⟩
           have hkn : Known ρ' [(6, (pt g9002 0)), (63, (.int .i64 v11540))] := ⟨(hs 6 K).trans K, hah 1 63 K, trivial⟩
           refine Step.known _ hkn ?_
           refine Step.sliceA (e := eU8) (l := v10467) (l' := l11720) (m := 128) (g := g9002) (T := 98) (E := 5) (x := (.tmp 6)) (lo := (some (.tmp 63))) (hi := none) (i := v11540) (j := ((List.length v10467 : Nat) : Int)) (q := 2) (d := (some 64)) (k := 2) K rfl K K K ⟨.i64, K⟩ rfl hs11766 rfl hz11717 hz11718 hz11719 hyl11720 ?_
           exact ⟨rfl, _, updO_known hkn, rfl⟩
         ·refine Owe.heavy K [(0, 1)] K (all_cons ⟨K, K, ?_⟩ all_nil)
          ·rintro ρ' w' hs hah ⟨hvl11769, hs11768⟩
           have hkn : Known ρ' [(64, (.slice (cutA eU8.sz 128 (Int.toNat v11540) (some ⟨g9002, 0, none⟩)) (List.length l11720) (128 - Int.toNat v11540)))] := ⟨hah 2 64 K, trivial⟩
           refine Step.known _ hkn ?_
           refine Step.callF (f := 54) (fo := (.func 54)) (xs := #[(.tmp 64)]) (tys := #[50]) (first := #[]) (captured := #[]) (d := (some 65)) (k := 3) K rfl K K Tryd.call54 (L_digest_words_walk (cutA eU8.sz 128 (Int.toNat v11540) (some ⟨g9002, 0, none⟩)) (128 - Int.toNat v11540) l11720 w' ((cut_rd hz11717 hz11718 hz11719 hyl11720) w' (arrE_rd (SP.get hs11768 (i := 2) rfl))) z11721 hz11722) ?_
           rintro e w11770 ⟨rfl, hs11771⟩
           refine ⟨_, rfl, ?_⟩
           have hs11773 : SP [] w0 w11770 [arrE 69 eU8 g5 32 (List.replicate 32 (0 : UInt8)), arrE 95 (eInt .u32) g16 8 v11539, arrE 98 eU8 g9002 128 v10467] := SP.call hs11768 hs11771
           clear hs11771
           refine ⟨_, updO_known hkn, rfl, ?_⟩
           exact (And.intro (And.intro rfl (trivial)) (hs11773))
         ·refine Owe.heavy K [(1, 2)] K (all_cons ⟨K, K, ?_⟩ all_nil)
          ·rintro ρ' w' hs hah ⟨⟨q11775, -⟩, hs11774⟩
           have hkn : Known ρ' [(62, (.agg (cellsOf (eInt .u32) v11539).toArray)), (65, (.agg (cellsOf (eInt .u32) z11721).toArray))] := ⟨hah 0 62 K, (valF_eq (h := 3) K).symm.trans q11775, trivial⟩
           refine Step.known _ hkn ?_
           refine Step.callF (f := 53) (fo := (.func 53)) (xs := #[(.tmp 62), (.tmp 65)]) (tys := #[95, 91]) (first := #[]) (captured := #[]) (d := (some 66)) (k := 4) K rfl K K Tryd.call53 (L_digest_state_behind_walk  v11539 z11721 w' ha11714 ha11723 z11728 hz11729) ?_
           rintro e w11777 ⟨rfl, hs11778⟩
           refine ⟨_, rfl, ?_⟩
           have hs11780 : SP [] w0 w11777 [arrE 69 eU8 g5 32 (List.replicate 32 (0 : UInt8)), arrE 95 (eInt .u32) g16 8 v11539, arrE 98 eU8 g9002 128 v10467] := SP.call hs11774 hs11778
           clear hs11778
           refine ⟨_, updO_known hkn, rfl, ?_⟩
           exact (And.intro (And.intro q11775 (And.intro rfl (trivial))) (hs11780))
         ·refine Owe.heavy K [(2, 3)] K (all_cons ⟨K, K, ?_⟩ all_nil)
          ·rintro ρ' w' hs hah ⟨⟨q11782, q11783, -⟩, hs11781⟩
           have hkn : Known ρ' [(3, (pt g16 0)), (66, (.agg (cellsOf (eInt .u32) z11728).toArray))] := ⟨(hs 3 K).trans K, (valF_eq (h := 4) K).symm.trans q11783, trivial⟩
           refine Step.known _ hkn ?_
           refine Step.storeA (e := (eInt .u32)) (l := v11539) (l' := z11728) (m := 8) (t := 95) (x := (.tmp 3)) (y := (.tmp 66)) (g := g16) (i := 1) (d := none) (k := 5) K rfl K K ha11730 hs11781 rfl K ?_
           intro w11785 (hs11787 : SP [] w0 w11785 [arrE 69 eU8 g5 32 (List.replicate 32 (0 : UInt8)), arrE 95 (eInt .u32) g16 8 z11728, arrE 98 eU8 g9002 128 v10467])
           refine ⟨_, updO_known hkn, trivial, ?_⟩
           exact (And.intro (And.intro q11782 (And.intro q11783 (And.intro rfl (trivial)))) (hs11787))
         ·rintro ρ' w' hs hf ⟨⟨q11789, q11790, q11791, -⟩, hs11788⟩
          refine postKnown [(2, (pt g5 0)), (3, (pt g16 0)), (6, (pt g9002 0)), (8, (.int .i64 v9040)), (10, (.int .i64 v11540))] ⟨(hs 2 K).trans K, (hs 3 K).trans K, (hs 6 K).trans K, (hs 8 K).trans K, (hs 10 K).trans K, trivial⟩ ?_
          obtain ⟨w11793, hww11793⟩ : ∃ x, w' = x := ⟨_, rfl⟩
          rw [hww11793] at hs11788 ⊢
          refine At.region K K ?_
          refine In.run' 3 (k' := 3) rfl [(60, (.int .i64 v11540)), (61, (.int .i64 (IntKind.wrap .i64 (v11540 + 64)))), (10, (.int .i64 (IntKind.wrap .i64 (v11540 + 64))))] K ?_
          refine In.fin K ?_
          exact ⟨z11728, (IntKind.wrap .i64 (v11540 + 64)), ⟨K, K, K, K, K, trivial⟩, SP.sel hs11788 [0, 1, 2] rfl rfl, H⟩
        ·have H := cf H hb11716
         refine At.exit K (id := 4) K ?_
         refine At.sq K ?_
         refine At.region K K ?_
         refine In.step (k' := 1) rfl K ?_
         refine Step.allocA (e := eU8) (l := (List.replicate 32 (0 : UInt8))) (m := 32) (t := 69) (z := .agg (cellsOf eU8 (List.replicate 32 (0 : UInt8))).toArray) (d := (some 11)) (k := 0) K rfl K rfl rfl K hs11538 ?_
         intro g11794 w11795 (hs11797 : SP [] w0 w11795 [arrE 69 eU8 g5 32 (List.replicate 32 (0 : UInt8)), arrE 95 (eInt .u32) g16 8 v11539, arrE 98 eU8 g9002 128 v10467, arrE 69 eU8 g11794 32 (List.replicate 32 (0 : UInt8))])
         refine In.fin K ?_
         refine At.sq K ?_
         refine At.sq K ?_
         refine At.region K K ?_
         refine In.run' 1 (k' := 1) rfl [(67, (.int .i64 0))] K ?_
         refine In.fin K ?_
         refine At.bk K (id := 6) K ?_
         refine At.lp K (fun f89 ρ w => ∃ (v11843 : (List UInt8)) (v11844 : Int), Known ρ [(2, (pt g5 0)), (3, (pt g16 0)), (11, (pt g11794 0)), (67, (.int .i64 v11844))] ∧ SP [] w0 w [arrE 69 eU8 g5 32 (List.replicate 32 (0 : UInt8)), arrE 95 (eInt .u32) g16 8 v11539, arrE 69 eU8 g11794 32 v11843] ∧ L_digest_Sum_l89 (L_digest_Sum_l45 p1 f67) (L_digest_Sum_l79 (L_digest_Sum_l45 p1 f67) p1 v5956 v9040 f84) (L_digest_Sum_l87 (L_digest_Sum_l45 p1 f67) (L_digest_Sum_l79 (L_digest_Sum_l45 p1 f67) p1 v5956 v9040 f84) v9040 v10467 f88) v11539 f89 v11843 v11844 = some r) (by rintro ρ w ⟨v11843, v11844, hk, hs, H⟩; cases H) ?_ fuel ?_
         ·rintro f89 ρ w11841 ⟨v11843, v11844, hk, hs11842, H⟩
          refine At.known [(2, (pt g5 0)), (3, (pt g16 0)), (11, (pt g11794 0)), (67, (.int .i64 v11844))] hk ?_
          replace H := (show L_digest_Sum_b89 (L_digest_Sum_l45 p1 f67) (L_digest_Sum_l79 (L_digest_Sum_l45 p1 f67) p1 v5956 v9040 f84) (L_digest_Sum_l87 (L_digest_Sum_l45 p1 f67) (L_digest_Sum_l79 (L_digest_Sum_l45 p1 f67) p1 v5956 v9040 f84) v9040 v10467 f88) (L_digest_Sum_l89 (L_digest_Sum_l45 p1 f67) (L_digest_Sum_l79 (L_digest_Sum_l45 p1 f67) p1 v5956 v9040 f84) (L_digest_Sum_l87 (L_digest_Sum_l45 p1 f67) (L_digest_Sum_l79 (L_digest_Sum_l45 p1 f67) p1 v5956 v9040 f84) v9040 v10467 f88) v11539 f89) v11539 v11843 v11844 = some r from H)
          unfold L_digest_Sum_b89 at H
          have ha11865 := arrE_len (SP.get hs11842 (i := 0) rfl)
          have ha11866 := arrE_len (SP.get hs11842 (i := 1) rfl)
          have ha11867 := arrE_len (SP.get hs11842 (i := 2) rfl)
          refine At.sq K ?_
          refine At.region K K ?_
          refine In.run' 1 (k' := 1) rfl [(68, (.bool (decide (v11844 < 32))))] K ?_
          refine In.fin K ?_
          refine At.sq K ?_
          refine At.cd K (o := (.tmp 68)) K (b := (decide (v11844 < 32))) K (fun hb11868 => ?_) (fun hb11868 => ?_)
          ·have H := ct H hb11868
           refine At.skip K ?_
           refine At.sq K ?_
           refine At.bk K (id := 7) K ?_
           refine At.sq K ?_
           refine At.region K K ?_
           refine In.run' 2 (k' := 2) rfl [(69, (.int .i64 v11844)), (12, (.int .i64 v11844))] K ?_
           refine In.fin K ?_
           refine At.region K K ?_
           refine In.run' 3 (k' := 3) rfl [(70, (.int .i64 v11844)), (71, (.int .i64 v11844)), (72, (.int .i64 (IntKind.wrap .i64 (Int.tdiv v11844 4))))] K ?_
           obtain ⟨x11869, hp11870, hq11871, hx11872, H⟩ := idx_elim H
           refine In.step (k' := 4) rfl K ?_
           refine Step.elemA (e := (eInt .u32)) (l := v11539) (m := 8) (g := g16) (T := 95) (E := 81) (x := (.tmp 3)) (ix := (.tmp 72)) (ki := .i64) (iz := (IntKind.wrap .i64 (Int.tdiv v11844 4))) (i := 1) (d := (some 73)) (k := 3) K rfl K K K K hs11842 rfl hp11870 hq11871 ?_
           refine In.step (k' := 5) rfl K ?_
           refine Step.cell (t := 81) (x := (.tmp 73)) (b := g16) (off := (0 + Int.toNat (IntKind.wrap .i64 (Int.tdiv v11844 4)) * (eInt .u32).sz)) (v := (.int .u32 x11869)) (d := (some 74)) (k := 4) K rfl K K (elem_cell (e := (eInt .u32)) (rdt_cells (arrE_rd (SP.get hs11842 (i := 1) rfl)) rfl hp11870 hq11871) hx11872 (j := 0) rfl) ?_
           refine In.run' 4 (k' := 9) rfl [(75, (.int .i64 v11844)), (76, (.int .i64 (Int.tmod v11844 4))), (77, (.int .i64 (IntKind.wrap .i64 ((Int.tmod v11844 4) * 8)))), (78, (.int .i64 (IntKind.wrap .i64 (24 - (IntKind.wrap .i64 ((Int.tmod v11844 4) * 8))))))] K ?_
           obtain ⟨hl11873, H⟩ := chk_elim H
           refine In.step (k' := 10) rfl K ?_
           refine Step.shift (op := .shr) (T := 81) (T' := 3) (x := (.tmp 74)) (y := (.tmp 78)) (kx := .u32) (ky := .i64) (a := x11869) (b := (IntKind.wrap .i64 (24 - (IntKind.wrap .i64 ((Int.tmod v11844 4) * 8))))) (v := (.int .u32 (bShr .u32 x11869 (IntKind.wrap .i64 (24 - (IntKind.wrap .i64 ((Int.tmod v11844 4) * 8))))))) (d := (some 79)) (k := 9) K rfl K K (of_decide_eq_true hl11873) rfl ?_
           refine In.run' 1 (k' := 11) rfl [(80, (.int .u8 (IntKind.wrap .u8 (bShr .u32 x11869 (IntKind.wrap .i64 (24 - (IntKind.wrap .i64 ((Int.tmod v11844 4) * 8))))))))] K ?_
           obtain ⟨x11874, hp11875, hq11876, hx11877, H⟩ := idx_elim H
           refine In.step (k' := 12) rfl K ?_
           refine Step.elemA (e := eU8) (l := v11843) (m := 32) (g := g11794) (T := 69) (E := 5) (x := (.tmp 11)) (ix := (.tmp 70)) (ki := .i64) (iz := v11844) (i := 2) (d := (some 81)) (k := 11) K rfl K K K K hs11842 rfl hp11875 hq11876 ?_
           replace H := some_bind_elim H
           obtain ⟨l11878, hyl11878⟩ : ∃ y, (List.set v11843 (Int.toNat v11844) (toU8 (IntKind.wrap .u8 (bShr .u32 x11869 (IntKind.wrap .i64 (24 - (IntKind.wrap .i64 ((Int.tmod v11844 4) * 8)))))))) = y := ⟨_, rfl⟩
           rw [hyl11878] at H
           have hnl11878 : List.length l11878 = List.length v11843 := by rw [← hyl11878, List.length_set]
           refine In.step (k' := 13) rfl K ?_
           refine Step.storeElemA (e := eU8) (t := 5) (x := (.tmp 81)) (y := (.tmp 80)) (l := v11843) (iz := v11844) (m := 32) (g := g11794) (b := g11794) (off := 0) (i := 2) (v := (.int .u8 (IntKind.wrap .u8 (bShr .u32 x11869 (IntKind.wrap .i64 (24 - (IntKind.wrap .i64 ((Int.tmod v11844 4) * 8)))))))) (x' := (toU8 (IntKind.wrap .u8 (bShr .u32 x11869 (IntKind.wrap .i64 (24 - (IntKind.wrap .i64 ((Int.tmod v11844 4) * 8)))))))) (d := none) (k := 12) K rfl rfl K K hs11842 rfl rfl hq11876 hp11875 (by show [Value.int .u8 (((toU8 (IntKind.wrap .u8 (bShr .u32 x11869 (IntKind.wrap .i64 (24 - (IntKind.wrap .i64 ((Int.tmod v11844 4) * 8)))))))).toNat : Int)] = _; rw [u8_back (u8_wrap _)]) K ?_
           rw [hyl11878]
           intro w11879 (hs11881 : SP [] w0 w11879 [arrE 69 eU8 g5 32 (List.replicate 32 (0 : UInt8)), arrE 95 (eInt .u32) g16 8 v11539, arrE 69 eU8 g11794 32 l11878])
           refine In.known [] trivial ?_
           refine In.fin K ?_
           refine At.region K K ?_
           refine In.run' 2 (k' := 2) rfl [(82, (.int .i64 (IntKind.wrap .i64 (v11844 + 1)))), (67, (.int .i64 (IntKind.wrap .i64 (v11844 + 1))))] K ?_
           refine In.fin K ?_
           exact ⟨l11878, (IntKind.wrap .i64 (v11844 + 1)), ⟨K, K, K, K, trivial⟩, SP.sel hs11881 [0, 1, 2] rfl rfl, H⟩
          ·have H := cf H hb11868
           refine At.exit K (id := 6) K ?_
           refine At.sq K ?_
           refine At.region K K ?_
           refine In.step (k' := 1) rfl K ?_
           refine Step.loadA (e := eU8) (l := v11843) (m := 32) (t := 69) (x := (.tmp 11)) (g := g11794) (i := 2) (d := (some 83)) (k := 0) K rfl K hs11842 rfl K K ?_
           refine In.step (k' := 2) rfl K ?_
           refine Step.storeA (e := eU8) (l := (List.replicate 32 (0 : UInt8))) (l' := v11843) (m := 32) (t := 69) (x := (.tmp 2)) (y := (.tmp 83)) (g := g5) (i := 0) (d := none) (k := 1) K rfl K K ha11867 hs11842 rfl K ?_
           intro w11882 (hs11884 : SP [] w0 w11882 [arrE 69 eU8 g5 32 v11843, arrE 95 (eInt .u32) g16 8 v11539, arrE 69 eU8 g11794 32 v11843])
           refine In.fin K ?_
           refine At.ret K ?_
           refine ⟨(.agg (cellsOf eU8 v11843).toArray), res_1 K (rv_cellA (e := eU8) (l := v11843) (a := 2) (t := 69) K (SP.get hs11884 (i := 0) rfl) K K), ?_⟩
           obtain rfl := some_elim H
           exact ⟨rfl, SP.sel hs11884 [] rfl rfl⟩
         ·exact ⟨(List.replicate 32 (0 : UInt8)), 0, ⟨K, K, K, K, trivial⟩, SP.sel hs11797 [0, 1, 3] rfl rfl, H⟩
       ·exact ⟨v5956, 0, ⟨K, K, K, K, K, trivial⟩, SP.sel hs10466 [0, 1, 2] rfl rfl, H⟩
     ·exact ⟨l9035, 0, ⟨K, K, K, K, K, K, trivial⟩, SP.sel hs9042 [0, 1, 2] rfl rfl, H⟩
 ·exact ⟨z9, 0, ⟨K, K, K, K, K, trivial⟩, SP.sel hs22 [0, 1] rfl rfl, H⟩
/-! L_digest_Hex -/
def L_digest_Hex_b1 (rec1 : (List UInt8) → Int → Option ((List UInt8))) (p1 : (List UInt8)) (v215 : (List UInt8)) (v216 : Int) : Option ((List UInt8)) :=
  (cond (decide (v216 < ((List.length p1 : Nat) : Int))) ((idx p1 v216).bind fun x315 => ((idx ([48, 49, 50, 51, 52, 53, 54, 55, 56, 57, 97, 98, 99, 100, 101, 102] : List UInt8) (bShr .u8 ((x315).toNat : Int) 4)).bind fun x324 => ((idx ([48, 49, 50, 51, 52, 53, 54, 55, 56, 57, 97, 98, 99, 100, 101, 102] : List UInt8) (bAnd .u8 ((x315).toNat : Int) 15)).bind fun x328 => ((idx v215 (IntKind.wrap .i64 (2 * v216))).bind fun x332 => ((some (List.set v215 (Int.toNat (IntKind.wrap .i64 (2 * v216))) x324)).bind fun l341 => ((idx l341 (IntKind.wrap .i64 ((IntKind.wrap .i64 (2 * v216)) + 1))).bind fun x345 => ((some (List.set l341 (Int.toNat (IntKind.wrap .i64 ((IntKind.wrap .i64 (2 * v216)) + 1))) x328)).bind fun l354 => (rec1 l354 (IntKind.wrap .i64 (v216 + 1)))))))))) (some (v215)))
def L_digest_Hex_l1 (p1 : (List UInt8)) : Nat → (List UInt8) → Int → Option ((List UInt8))
  | 0, _, _ => none
  | f + 1, v215, v216 => L_digest_Hex_b1  (L_digest_Hex_l1 p1 f) p1 v215 v216
def L_digest_Hex (p1 : (List UInt8)) : Option ((List UInt8)) :=
  ((chk (decide (0 ≤ (IntKind.wrap .i64 (2 * ((List.length p1 : Nat) : Int))) ∧ (IntKind.wrap .i64 (2 * ((List.length p1 : Nat) : Int))) ≤ 2147483648))).bind fun _ => ((some (List.replicate (Int.toNat (IntKind.wrap .i64 (2 * ((List.length p1 : Nat) : Int)))) (0 : UInt8))).bind fun l5 => (L_digest_Hex_l1 p1 fuel l5 0)))
set_option maxRecDepth 100000 in
set_option maxHeartbeats 4000000 in
theorem L_digest_Hex_walk (A2 : Option Addr) (c3 : Nat) (p1 : (List UInt8)) (w0 : World) (hr4 : RdT eU8 w0 A2 c3 p1) (r : ((List UInt8))) (H : L_digest_Hex p1 = some r) :
  Calls Tryd.prog 36 #[(.slice A2 (List.length p1) c3)] w0 (fun e w' => e = .returned (.string ⟨List.toArray r⟩) ∧ SP [] w0 w' []) := by
 unfold L_digest_Hex at H
 refine calls_go (n := 35) Tryd.func36 K K K ?_
 have hs0 := SP.start [] w0
 refine At.sq K ?_
 refine At.region K K ?_
 refine In.run' 1 (k' := 1) rfl [(2, (.string ⟨List.toArray ([] : List UInt8)⟩))] K ?_
 refine In.fin K ?_
 refine At.sq K ?_
 refine At.region K K ?_
 refine In.run' 3 (k' := 3) rfl [(6, (.slice A2 (List.length p1) c3)), (7, (.int .i64 ((List.length p1 : Nat) : Int))), (8, (.int .i64 (IntKind.wrap .i64 (2 * ((List.length p1 : Nat) : Int)))))] K ?_
 obtain ⟨hl6, H⟩ := chk_elim H
 replace H := some_bind_elim H
 obtain ⟨l5, hyl5⟩ : ∃ y, (List.replicate (Int.toNat (IntKind.wrap .i64 (2 * ((List.length p1 : Nat) : Int)))) (0 : UInt8)) = y := ⟨_, rfl⟩
 rw [hyl5] at H
 refine In.step (k' := 4) rfl K ?_
 refine Step.make (e := eU8) (l' := l5) (z := (0 : UInt8)) (v := (.int .u8 0)) (b := 1) (T := 50) (E := 5) (x := (.tmp 8)) (y := (.tmp 8)) (k1 := .i64) (k2 := .i64) (iz := (IntKind.wrap .i64 (2 * ((List.length p1 : Nat) : Int)))) (d := (some 9)) (k := 3) K rfl K K K K K rfl rfl rfl hl6 hs0 hyl5 ?_
 intro g7 w8 hs9 hn10
 have hs11 : SP [] w0 w8 [rowT 5 eU8 (some ⟨g7, 0, none⟩) (Int.toNat (IntKind.wrap .i64 (2 * ((List.length p1 : Nat) : Int)))) l5] := hs9
 clear hs9
 refine In.run' 1 (k' := 5) rfl [(3, (.slice (some ⟨g7, 0, none⟩) (List.length l5) (Int.toNat (IntKind.wrap .i64 (2 * ((List.length p1 : Nat) : Int))))))] K ?_
 refine In.fin K ?_
 refine At.sq K ?_
 refine At.sq K ?_
 refine At.region K K ?_
 refine In.run' 3 (k' := 3) rfl [(10, (.slice A2 (List.length p1) c3)), (11, (.int .i64 ((List.length p1 : Nat) : Int))), (12, (.int .i64 0))] K ?_
 refine In.fin K ?_
 refine At.bk K (id := 0) K ?_
 refine At.lp K (fun f1 ρ w => ∃ (v215 : (List UInt8)) (v216 : Int) (A213 : Option Addr) (c214 : Nat), Known ρ [(3, (.slice A213 (List.length v215) c214)), (10, (.slice A2 (List.length p1) c3)), (11, (.int .i64 ((List.length p1 : Nat) : Int))), (12, (.int .i64 v216))] ∧ SP [] w0 w [rowT 5 eU8 A213 c214 v215] ∧ L_digest_Hex_l1 p1 f1 v215 v216 = some r) (by rintro ρ w ⟨v215, v216, A213, c214, hk, hs, H⟩; cases H) ?_ fuel ?_
 ·rintro f1 ρ w211 ⟨v215, v216, A213, c214, hk, hs212, H⟩
  refine At.known [(3, (.slice A213 (List.length v215) c214)), (10, (.slice A2 (List.length p1) c3)), (11, (.int .i64 ((List.length p1 : Nat) : Int))), (12, (.int .i64 v216))] hk ?_
  replace H := (show L_digest_Hex_b1 (L_digest_Hex_l1 p1 f1) p1 v215 v216 = some r from H)
  unfold L_digest_Hex_b1 at H
  refine At.sq K ?_
  refine At.region K K ?_
  refine In.run' 1 (k' := 1) rfl [(13, (.bool (decide (v216 < ((List.length p1 : Nat) : Int)))))] K ?_
  refine In.fin K ?_
  refine At.sq K ?_
  refine At.cd K (o := (.tmp 13)) K (b := (decide (v216 < ((List.length p1 : Nat) : Int)))) K (fun hb314 => ?_) (fun hb314 => ?_)
  ·have H := ct H hb314
   refine At.skip K ?_
   refine At.sq K ?_
   refine At.bk K (id := 1) K ?_
   refine At.sq K ?_
   refine At.region K K ?_
   refine In.run' 1 (k' := 1) rfl [(14, (.int .i64 v216))] K ?_
   obtain ⟨x315, hp316, hq317, hx318, H⟩ := idx_elim H
   refine In.step (k' := 2) rfl K ?_
   refine Step.elem (e := eU8) (l := p1) (A := A2) (c := c3) (T := 50) (E := 5) (x := (.tmp 10)) (ix := (.tmp 12)) (ki := .i64) (iz := v216) (d := (some 15)) (k := 1) K rfl K K K K (RdT.sp hr4 hs212) hp316 hq317 ?_
   intro b319 o320 hA322 hb323 hc321
   refine In.step (k' := 3) rfl K ?_
   refine Step.cell (t := 5) (x := (.tmp 15)) (b := b319) (off := (o320 + Int.toNat v216 * eU8.sz)) (v := (.int .u8 ((x315).toNat : Int))) (d := (some 16)) (k := 2) K rfl K K (elem_cell (e := eU8) (rdt_cells (RdT.sp hr4 hs212) hA322 hp316 hq317) hx318 (j := 0) rfl) ?_
   refine In.run' 2 (k' := 5) rfl [(4, (.int .i64 v216)), (5, (.int .u8 ((x315).toNat : Int)))] K ?_
   refine In.fin K ?_
   obtain ⟨x324, hp325, hq326, hx327, H⟩ := idx_elim H
   obtain ⟨x328, hp329, hq330, hx331, H⟩ := idx_elim H
   obtain ⟨x332, hp333, hq334, hx335, H⟩ := idx_elim H
   replace H := some_bind_elim H
   obtain ⟨l341, hyl341⟩ : ∃ y, (List.set v215 (Int.toNat (IntKind.wrap .i64 (2 * v216))) x324) = y := ⟨_, rfl⟩
   rw [hyl341] at H
   have hnl341 : List.length l341 = List.length v215 := by rw [← hyl341, List.length_set]
   obtain ⟨x345, hp346, hq347, hx348, H⟩ := idx_elim H
   replace H := some_bind_elim H
   obtain ⟨l354, hyl354⟩ : ∃ y, (List.set l341 (Int.toNat (IntKind.wrap .i64 ((IntKind.wrap .i64 (2 * v216)) + 1))) x328) = y := ⟨_, rfl⟩
   rw [hyl354] at H
   have hnl354 : List.length l354 = List.length l341 := by rw [← hyl354, List.length_set]
   refine At.stages K K K K K [GEq (.slice A213 (List.length v215) c214), GEq (.int .i64 v216), GEq (.int .i64 (IntKind.wrap .i64 (2 * v216))), GEq (.slice A213 (List.length v215) c214), GEq (.int .i64 v216), GEq (.int .i64 (IntKind.wrap .i64 (2 * v216))), GEq (.int .i64 (IntKind.wrap .i64 ((IntKind.wrap .i64 (2 * v216)) + 1))), GEq (.int .u8 ((x315).toNat : Int)), GEq (.int .u8 (bShr .u8 ((x315).toNat : Int) 4)), GEq (.int .u8 ((x324).toNat : Int)), GEq (.int .u8 ((x315).toNat : Int)), GEq (.int .u8 (bAnd .u8 ((x315).toNat : Int) 15)), GEq (.int .u8 ((x328).toNat : Int)), GElem0 A213 eU8.sz (IntKind.wrap .i64 (2 * v216)), GAny, GElem0 A213 eU8.sz (IntKind.wrap .i64 ((IntKind.wrap .i64 (2 * v216)) + 1)), GAny] [14, 16] [([], fun vs w => VL vs [] ∧ SP [] w0 w [rowT 5 eU8 A213 c214 v215]), ([14], fun vs w => VL vs [undef] ∧ SP [] w0 w [rowT 5 eU8 A213 c214 l341]), ([14, 16], fun vs w => VL vs [undef, undef] ∧ SP [] w0 w [rowT 5 eU8 A213 c214 l354])] (N := 17) K ⟨K, Nat.zero_lt_succ _⟩ (show VL [] [] ∧ SP [] w0 w211.drew [rowT 5 eU8 A213 c214 v215] from ⟨trivial, SP.drew hs212⟩) ⟨⟨⟨⟨⟨⟨⟨⟨⟨⟨⟨⟨⟨⟨⟨⟨⟨trivial, ?_⟩, ?_⟩, ?_⟩, ?_⟩, ?_⟩, ?_⟩, ?_⟩, ?_⟩, ?_⟩, ?_⟩, ?_⟩, ?_⟩, ?_⟩, ?_⟩, ?_⟩, ?_⟩, ?_⟩ (last := 2) K ?_
   ·exact Owe.run K [(3, (.slice A213 (List.length v215) c214))] ⟨gS K K, trivial⟩ (.slice A213 (List.length v215) c214) (fun _ _ => K) rfl
   ·exact Owe.run K [(4, (.int .i64 v216))] ⟨gS K K, trivial⟩ (.int .i64 v216) (fun _ _ => K) rfl
   ·exact Owe.run K [(18, (.int .i64 v216))] ⟨gA 1 K K, trivial⟩ (.int .i64 (IntKind.wrap .i64 (2 * v216))) (fun _ _ => K) rfl
   ·exact Owe.run K [(3, (.slice A213 (List.length v215) c214))] ⟨gS K K, trivial⟩ (.slice A213 (List.length v215) c214) (fun _ _ => K) rfl
   ·exact Owe.run K [(4, (.int .i64 v216))] ⟨gS K K, trivial⟩ (.int .i64 v216) (fun _ _ => K) rfl
   ·exact Owe.run K [(21, (.int .i64 v216))] ⟨gA 4 K K, trivial⟩ (.int .i64 (IntKind.wrap .i64 (2 * v216))) (fun _ _ => K) rfl
   ·exact Owe.run K [(22, (.int .i64 (IntKind.wrap .i64 (2 * v216))))] ⟨gA 5 K K, trivial⟩ (.int .i64 (IntKind.wrap .i64 ((IntKind.wrap .i64 (2 * v216)) + 1))) (fun _ _ => K) rfl
   ·exact Owe.run K [(5, (.int .u8 ((x315).toNat : Int)))] ⟨gS K K, trivial⟩ (.int .u8 ((x315).toNat : Int)) (fun _ _ => K) rfl
   ·exact Owe.run K [(24, (.int .u8 ((x315).toNat : Int)))] ⟨gA 7 K K, trivial⟩ (.int .u8 (bShr .u8 ((x315).toNat : Int) 4)) (fun _ _ => K) rfl
   ·refine Owe.light K [0] K (all_cons ?_ all_nil)
    ·rintro ρ' w' hs hah ⟨hvl368, hs367⟩
     have hkn : Known ρ' [(25, (.int .u8 (bShr .u8 ((x315).toNat : Int) 4)))] := ⟨hah 8 25 K, trivial⟩
     refine Step.known _ hkn ?_
     refine Step.strIdx (a := ([48, 49, 50, 51, 52, 53, 54, 55, 56, 57, 97, 98, 99, 100, 101, 102] : List UInt8)) (u := x324) (T := 9) (x := (.const (.string ⟨List.toArray ([48, 49, 50, 51, 52, 53, 54, 55, 56, 57, 97, 98, 99, 100, 101, 102] : List UInt8)⟩))) (ix := (.tmp 25)) (ki := .u8) (iz := (bShr .u8 ((x315).toNat : Int) 4)) (d := (some 26)) (k := 9) K rfl K K K hp325 hx327 ?_
     exact ⟨rfl, _, updO_known hkn, rfl⟩
   ·exact Owe.run K [(5, (.int .u8 ((x315).toNat : Int)))] ⟨gS K K, trivial⟩ (.int .u8 ((x315).toNat : Int)) (fun _ _ => K) rfl
   ·exact Owe.run K [(27, (.int .u8 ((x315).toNat : Int)))] ⟨gA 10 K K, trivial⟩ (.int .u8 (bAnd .u8 ((x315).toNat : Int) 15)) (fun _ _ => K) rfl
   ·refine Owe.light K [0, 1] K (all_cons ?_ (all_cons ?_ all_nil))
    ·rintro ρ' w' hs hah ⟨hvl370, hs369⟩
     have hkn : Known ρ' [(28, (.int .u8 (bAnd .u8 ((x315).toNat : Int) 15)))] := ⟨hah 11 28 K, trivial⟩
     refine Step.known _ hkn ?_
     refine Step.strIdx (a := ([48, 49, 50, 51, 52, 53, 54, 55, 56, 57, 97, 98, 99, 100, 101, 102] : List UInt8)) (u := x328) (T := 9) (x := (.const (.string ⟨List.toArray ([48, 49, 50, 51, 52, 53, 54, 55, 56, 57, 97, 98, 99, 100, 101, 102] : List UInt8)⟩))) (ix := (.tmp 28)) (ki := .u8) (iz := (bAnd .u8 ((x315).toNat : Int) 15)) (d := (some 29)) (k := 12) K rfl K K K hp329 hx331 ?_
     exact ⟨rfl, _, updO_known hkn, rfl⟩
    ·rintro ρ' w' hs hah ⟨⟨q372, -⟩, hs371⟩
     have hkn : Known ρ' [(28, (.int .u8 (bAnd .u8 ((x315).toNat : Int) 15)))] := ⟨hah 11 28 K, trivial⟩
     refine Step.known _ hkn ?_
     refine Step.strIdx (a := ([48, 49, 50, 51, 52, 53, 54, 55, 56, 57, 97, 98, 99, 100, 101, 102] : List UInt8)) (u := x328) (T := 9) (x := (.const (.string ⟨List.toArray ([48, 49, 50, 51, 52, 53, 54, 55, 56, 57, 97, 98, 99, 100, 101, 102] : List UInt8)⟩))) (ix := (.tmp 28)) (ki := .u8) (iz := (bAnd .u8 ((x315).toNat : Int) 15)) (d := (some 29)) (k := 12) K rfl K K K hp329 hx331 ?_
     exact ⟨rfl, _, updO_known hkn, rfl⟩
   ·refine Owe.light K [0] K (all_cons ?_ all_nil)
    ·rintro ρ' w' hs hah ⟨hvl375, hs374⟩
     have hkn : Known ρ' [(17, (.slice A213 (List.length v215) c214)), (19, (.int .i64 (IntKind.wrap .i64 (2 * v216))))] := ⟨hah 0 17 K, hah 2 19 K, trivial⟩
     refine Step.known _ hkn ?_
     refine Step.elem (e := eU8) (l := v215) (A := A213) (c := c214) (T := 50) (E := 5) (x := (.tmp 17)) (ix := (.tmp 19)) (ki := .i64) (iz := (IntKind.wrap .i64 (2 * v216))) (d := (some 30)) (k := 13) K rfl K K K K (rowT_rd (SP.get hs374 (i := 0) rfl)) hp333 hq334 ?_
     intro b376 o377 hA379 hb380 hc378
     exact ⟨rfl, _, updO_known hkn, ⟨b376, o377, hA379, rfl⟩⟩
   ·refine Owe.heavy K [(0, 1)] K (all_cons ⟨K, K, ?_⟩ all_nil)
    ·rintro ρ' w' hs hah ⟨hvl382, hs381⟩
     obtain ⟨b383, o384, hA385, e30⟩ := hah 13 30 K
     have hkn : Known ρ' [(30, (.pointer (some ⟨b383, (o384 + Int.toNat (IntKind.wrap .i64 (2 * v216)) * eU8.sz), none⟩))), (26, (.int .u8 ((x324).toNat : Int)))] := ⟨e30, hah 9 26 K, trivial⟩
     refine Step.known _ hkn ?_
     refine Step.storeElem (e := eU8) (t := 5) (E := 5) (x := (.tmp 30)) (y := (.tmp 26)) (A := A213) (c := c214) (l := v215) (iz := (IntKind.wrap .i64 (2 * v216))) (b := b383) (off := o384) (i := 0) (v := (.int .u8 ((x324).toNat : Int))) (x' := x324) (d := none) (k := 14) K rfl K K hs381 rfl hA385 rfl hq334 hp333 rfl K ?_
     rw [hyl341]
     intro w386 (hs388 : SP [] w0 w386 [rowT 5 eU8 A213 c214 l341])
     refine ⟨_, updO_known hkn, trivial, ?_⟩
     exact (And.intro (And.intro rfl (trivial)) (hs388))
   ·refine Owe.light K [1] K (all_cons ?_ all_nil)
    ·rintro ρ' w' hs hah ⟨⟨q390, -⟩, hs389⟩
     have e20 := hah 3 20 K
     replace e20 : ρ' 20 = (.slice A213 (List.length l341) c214) := by rw [hnl341]; exact e20
     have hkn : Known ρ' [(20, (.slice A213 (List.length l341) c214)), (23, (.int .i64 (IntKind.wrap .i64 ((IntKind.wrap .i64 (2 * v216)) + 1))))] := ⟨e20, hah 6 23 K, trivial⟩
     refine Step.known _ hkn ?_
     refine Step.elem (e := eU8) (l := l341) (A := A213) (c := c214) (T := 50) (E := 5) (x := (.tmp 20)) (ix := (.tmp 23)) (ki := .i64) (iz := (IntKind.wrap .i64 ((IntKind.wrap .i64 (2 * v216)) + 1))) (d := (some 31)) (k := 15) K rfl K K K K (rowT_rd (SP.get hs389 (i := 0) rfl)) hp346 hq347 ?_
     intro b392 o393 hA395 hb396 hc394
     exact ⟨rfl, _, updO_known hkn, ⟨b392, o393, hA395, rfl⟩⟩
   ·refine Owe.heavy K [(1, 2)] K (all_cons ⟨K, K, ?_⟩ all_nil)
    ·rintro ρ' w' hs hah ⟨⟨q398, -⟩, hs397⟩
     obtain ⟨b400, o401, hA402, e31⟩ := hah 15 31 K
     have hkn : Known ρ' [(31, (.pointer (some ⟨b400, (o401 + Int.toNat (IntKind.wrap .i64 ((IntKind.wrap .i64 (2 * v216)) + 1)) * eU8.sz), none⟩))), (29, (.int .u8 ((x328).toNat : Int)))] := ⟨e31, hah 12 29 K, trivial⟩
     refine Step.known _ hkn ?_
     refine Step.storeElem (e := eU8) (t := 5) (E := 5) (x := (.tmp 31)) (y := (.tmp 29)) (A := A213) (c := c214) (l := l341) (iz := (IntKind.wrap .i64 ((IntKind.wrap .i64 (2 * v216)) + 1))) (b := b400) (off := o401) (i := 0) (v := (.int .u8 ((x328).toNat : Int))) (x' := x328) (d := none) (k := 16) K rfl K K hs397 rfl hA402 rfl hq347 hp346 rfl K ?_
     rw [hyl354]
     intro w403 (hs405 : SP [] w0 w403 [rowT 5 eU8 A213 c214 l354])
     refine ⟨_, updO_known hkn, trivial, ?_⟩
     exact (And.intro (And.intro q398 (And.intro rfl (trivial))) (hs405))
   ·rintro ρ' w' hs hf ⟨⟨q407, q408, -⟩, hs406⟩
    have e3 : ρ' 3 = (.slice A213 (List.length v215) c214) := (hs 3 K).trans K
    replace e3 : ρ' 3 = (.slice A213 (List.length l354) c214) := by rw [hnl354, hnl341]; exact e3
    refine postKnown [(3, (.slice A213 (List.length l354) c214)), (10, (.slice A2 (List.length p1) c3)), (11, (.int .i64 ((List.length p1 : Nat) : Int))), (12, (.int .i64 v216))] ⟨e3, (hs 10 K).trans K, (hs 11 K).trans K, (hs 12 K).trans K, trivial⟩ ?_
    obtain ⟨w410, hww410⟩ : ∃ x, w' = x := ⟨_, rfl⟩
    rw [hww410] at hs406 ⊢
    refine At.region K K ?_
    refine In.run' 2 (k' := 2) rfl [(32, (.int .i64 (IntKind.wrap .i64 (v216 + 1)))), (12, (.int .i64 (IntKind.wrap .i64 (v216 + 1))))] K ?_
    refine In.fin K ?_
    exact ⟨l354, (IntKind.wrap .i64 (v216 + 1)), A213, c214, ⟨K, K, K, K, trivial⟩, SP.sel hs406 [0] rfl rfl, H⟩
  ·have H := cf H hb314
   refine At.exit K (id := 0) K ?_
   refine At.sq K ?_
   refine At.region K K ?_
   refine In.run' 1 (k' := 1) rfl [(33, (.slice A213 (List.length v215) c214))] K ?_
   refine In.step (k' := 2) rfl K ?_
   refine Step.toStr (T := 50) (S' := 9) (E := 5) (x := (.tmp 33)) (A := A213) (c := c214) (l := v215) (d := (some 34)) (k := 1) K rfl K K K K (rowT_rd (SP.get hs212 (i := 0) rfl)) ?_
   refine In.run' 1 (k' := 3) rfl [(2, (.string ⟨List.toArray v215⟩))] K ?_
   refine In.fin K ?_
   refine At.ret K ?_
   refine ⟨(.string ⟨List.toArray v215⟩), K, ?_⟩
   obtain rfl := some_elim H
   exact ⟨rfl, SP.sel hs212 [] rfl rfl⟩
 ·exact ⟨l5, 0, (some ⟨g7, 0, none⟩), (Int.toNat (IntKind.wrap .i64 (2 * ((List.length p1 : Nat) : Int)))), ⟨K, K, K, K, trivial⟩, SP.sel hs11 [0] rfl rfl, H⟩
end Go.Proofs.YtjllaeceghmjgaaDoor
