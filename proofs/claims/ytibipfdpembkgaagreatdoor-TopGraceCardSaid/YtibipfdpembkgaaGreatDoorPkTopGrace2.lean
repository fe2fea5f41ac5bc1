import Derived.Test.YtibipfdpembkgaaGreatDoorPkTopGrace1
set_option linter.unusedSimpArgs false
set_option linter.unusedVariables false
set_option linter.unusedSectionVars false
set_option maxRecDepth 100000
set_option maxHeartbeats 40000000
namespace Go.Proofs.YtibipfdpembkgaaGreatDoor
open Go.RowKit
def Vs (p1 : Int) (p2 : Int) : Option (Int) :=
  ((chk (decide (0 ≤ (Vr .u64 (IntKind.wrap .u64 p2) 31)))).bind fun _ => ((chk (decide (0 ≤ (IntKind.wrap .u64 (32 - (Vr .u64 (IntKind.wrap .u64 p2) 31)))))).bind fun _ => (some ((bOr .u32 (J8 .u32 p1 (Vr .u64 (IntKind.wrap .u64 p2) 31)) (Yr .u32 p1 (IntKind.wrap .u64 (32 - (Vr .u64 (IntKind.wrap .u64 p2) 31)))))))))
set_option maxHeartbeats 40000000 in
theorem V4  (p1 : Int) (p2 : Int) (w0 : World)  (r : (Int)) (H : Vs p1 p2 = some r) :
  Calls Tryz.prog 416 #[(.int .u32 p1), (iv p2)] w0 (fun e W => e = .returned (.int .u32 r) ∧ SP [] w0 W []) := by
 unfold Vs at H
 refine Z1 (n := 17) Tryz.func416 K K K ?_
 have c := SP.start [] w0
 refine aC ?_
 refine iR 1 1 [(4, (.int .u32 0))] ?_
 refine iF ?_
 refine aC ?_
 refine iR 4 4 [(6, (iv p2)), (7, (.int .u64 (IntKind.wrap .u64 p2))), (8, (.int .u64 (Vr .u64 (IntKind.wrap .u64 p2) 31))), (5, (.int .u64 (Vr .u64 (IntKind.wrap .u64 p2) 31)))] ?_
 refine iF ?_
 refine aC ?_
 refine iR 2 2 [(9, (.int .u32 p1)), (10, (.int .u64 (Vr .u64 (IntKind.wrap .u64 p2) 31)))] ?_
 obtain ⟨hl3, H⟩ := V7 H
 refine iS 3 ?_
 refine Qr.shift (op := .shl) (T := 43) (T' := 265) (x := (.tmp 9)) (y := (.tmp 10)) (kx := .u32) (ky := .u64) (a := p1) (b := (Vr .u64 (IntKind.wrap .u64 p2) 31)) (v := (.int .u32 (J8 .u32 p1 (Vr .u64 (IntKind.wrap .u64 p2) 31)))) (d := (some 11)) (k := 2) K rfl K K (of_decide_eq_true hl3) rfl ?_
 refine iR 3 6 [(12, (.int .u32 p1)), (13, (.int .u64 (Vr .u64 (IntKind.wrap .u64 p2) 31))), (14, (.int .u64 (IntKind.wrap .u64 (32 - (Vr .u64 (IntKind.wrap .u64 p2) 31)))))] ?_
 obtain ⟨hl4, H⟩ := V7 H
 refine iS 7 ?_
 refine Qr.shift (op := .shr) (T := 43) (T' := 265) (x := (.tmp 12)) (y := (.tmp 14)) (kx := .u32) (ky := .u64) (a := p1) (b := (IntKind.wrap .u64 (32 - (Vr .u64 (IntKind.wrap .u64 p2) 31)))) (v := (.int .u32 (Yr .u32 p1 (IntKind.wrap .u64 (32 - (Vr .u64 (IntKind.wrap .u64 p2) 31)))))) (d := (some 15)) (k := 6) K rfl K K (of_decide_eq_true hl4) rfl ?_
 refine iR 2 9 [(16, (.int .u32 (bOr .u32 (J8 .u32 p1 (Vr .u64 (IntKind.wrap .u64 p2) 31)) (Yr .u32 p1 (IntKind.wrap .u64 (32 - (Vr .u64 (IntKind.wrap .u64 p2) 31))))))), (4, (.int .u32 (bOr .u32 (J8 .u32 p1 (Vr .u64 (IntKind.wrap .u64 p2) 31)) (Yr .u32 p1 (IntKind.wrap .u64 (32 - (Vr .u64 (IntKind.wrap .u64 p2) 31)))))))] ?_
 refine iF ?_
 refine At.ret K ?_
 refine ⟨(.int .u32 (bOr .u32 (J8 .u32 p1 (Vr .u64 (IntKind.wrap .u64 p2) 31)) (Yr .u32 p1 (IntKind.wrap .u64 (32 - (Vr .u64 (IntKind.wrap .u64 p2) 31)))))), K, ?_⟩
 obtain rfl := Zd H
 exact ⟨rfl, SP.sel c [] rfl rfl⟩
def Xv  : Option ((List Int)) :=
  (some (([1779033703, 3144134277, 1013904242, 2773480762, 1359893119, 2600822924, 528734635, 1541459225] : List Int)))
set_option maxHeartbeats 40000000 in
theorem Jw   (w0 : World)  (r : ((List Int))) (H : Xv  = some r) :
  Calls Tryz.prog 409 #[] w0 (fun e W => e = .returned (.agg (Qd (Qg .u32) r).toArray) ∧ SP [] w0 W []) := by
 unfold Xv at H
 refine Z1 (n := 2) Tryz.func409 K K K ?_
 have c := SP.start [] w0
 refine aC ?_
 refine iS 1 ?_
 refine Q1 (e := (Qg .u32)) (l := (List.replicate 8 0)) (m := 8) (t := 512) (z := .agg (Qd (Qg .u32) (List.replicate 8 0)).toArray) (d := (some 0)) (k := 0) K rfl K rfl rfl K c ?_
 intro g1 w2 f
 refine iF ?_
 refine aC ?_
 refine iR 1 1 [(1, (.agg (Qd (Qg .u32) ([1779033703, 3144134277, 1013904242, 2773480762, 1359893119, 2600822924, 528734635, 1541459225] : List Int)).toArray))] ?_
 refine iS 2 ?_
 refine Vb (e := (Qg .u32)) (l := (List.replicate 8 0)) (l' := ([1779033703, 3144134277, 1013904242, 2773480762, 1359893119, 2600822924, 528734635, 1541459225] : List Int)) (m := 8) (t := 512) (x := (.tmp 0)) (y := (.tmp 1)) (g := g1) (i := 0) (d := none) (k := 1) K rfl K K rfl f rfl K ?_
 intro w5 b
 refine iF ?_
 refine At.ret K ?_
 refine ⟨(.agg (Qd (Qg .u32) ([1779033703, 3144134277, 1013904242, 2773480762, 1359893119, 2600822924, 528734635, 1541459225] : List Int)).toArray), Bb K (Y0 (e := (Qg .u32)) (l := ([1779033703, 3144134277, 1013904242, 2773480762, 1359893119, 2600822924, 528734635, 1541459225] : List Int)) (a := 0) (t := 512) K (SP.get b (i := 0) rfl) K K), ?_⟩
 obtain rfl := Zd H
 exact ⟨rfl, SP.sel b [] rfl rfl⟩
def Jf  : Option ((List Int)) :=
  (some (([1116352408, 1899447441, 3049323471, 3921009573, 961987163, 1508970993, 2453635748, 2870763221, 3624381080, 310598401, 607225278, 1426881987, 1925078388, 2162078206, 2614888103, 3248222580, 3835390401, 4022224774, 264347078, 604807628, 770255983, 1249150122, 1555081692, 1996064986, 2554220882, 2821834349, 2952996808, 3210313671, 3336571891, 3584528711, 113926993, 338241895, 666307205, 773529912, 1294757372, 1396182291, 1695183700, 1986661051, 2177026350, 2456956037, 2730485921, 2820302411, 3259730800, 3345764771, 3516065817, 3600352804, 4094571909, 275423344, 430227734, 506948616, 659060556, 883997877, 958139571, 1322822218, 1537002063, 1747873779, 1955562222, 2024104815, 2227730452, 2361852424, 2428436474, 2756734187, 3204031479, 3329325298] : List Int)))
set_option maxHeartbeats 40000000 in
theorem Zp   (w0 : World)  (r : ((List Int))) (H : Jf  = some r) :
  Calls Tryz.prog 414 #[] w0 (fun e W => e = .returned (.agg (Qd (Qg .u32) r).toArray) ∧ SP [] w0 W []) := by
 unfold Jf at H
 refine Z1 (n := 2) Tryz.func414 K K K ?_
 have c := SP.start [] w0
 refine aC ?_
 refine iS 1 ?_
 refine Q1 (e := (Qg .u32)) (l := (List.replicate 64 0)) (m := 64) (t := 359) (z := .agg (Qd (Qg .u32) (List.replicate 64 0)).toArray) (d := (some 0)) (k := 0) K rfl K rfl rfl K c ?_
 intro g1 w2 f
 refine iF ?_
 refine aC ?_
 refine iR 1 1 [(1, (.agg (Qd (Qg .u32) ([1116352408, 1899447441, 3049323471, 3921009573, 961987163, 1508970993, 2453635748, 2870763221, 3624381080, 310598401, 607225278, 1426881987, 1925078388, 2162078206, 2614888103, 3248222580, 3835390401, 4022224774, 264347078, 604807628, 770255983, 1249150122, 1555081692, 1996064986, 2554220882, 2821834349, 2952996808, 3210313671, 3336571891, 3584528711, 113926993, 338241895, 666307205, 773529912, 1294757372, 1396182291, 1695183700, 1986661051, 2177026350, 2456956037, 2730485921, 2820302411, 3259730800, 3345764771, 3516065817, 3600352804, 4094571909, 275423344, 430227734, 506948616, 659060556, 883997877, 958139571, 1322822218, 1537002063, 1747873779, 1955562222, 2024104815, 2227730452, 2361852424, 2428436474, 2756734187, 3204031479, 3329325298] : List Int)).toArray))] ?_
 refine iS 2 ?_
 refine Vb (e := (Qg .u32)) (l := (List.replicate 64 0)) (l' := ([1116352408, 1899447441, 3049323471, 3921009573, 961987163, 1508970993, 2453635748, 2870763221, 3624381080, 310598401, 607225278, 1426881987, 1925078388, 2162078206, 2614888103, 3248222580, 3835390401, 4022224774, 264347078, 604807628, 770255983, 1249150122, 1555081692, 1996064986, 2554220882, 2821834349, 2952996808, 3210313671, 3336571891, 3584528711, 113926993, 338241895, 666307205, 773529912, 1294757372, 1396182291, 1695183700, 1986661051, 2177026350, 2456956037, 2730485921, 2820302411, 3259730800, 3345764771, 3516065817, 3600352804, 4094571909, 275423344, 430227734, 506948616, 659060556, 883997877, 958139571, 1322822218, 1537002063, 1747873779, 1955562222, 2024104815, 2227730452, 2361852424, 2428436474, 2756734187, 3204031479, 3329325298] : List Int)) (m := 64) (t := 359) (x := (.tmp 0)) (y := (.tmp 1)) (g := g1) (i := 0) (d := none) (k := 1) K rfl K K rfl f rfl K ?_
 intro w5 b
 refine iF ?_
 refine At.ret K ?_
 refine ⟨(.agg (Qd (Qg .u32) ([1116352408, 1899447441, 3049323471, 3921009573, 961987163, 1508970993, 2453635748, 2870763221, 3624381080, 310598401, 607225278, 1426881987, 1925078388, 2162078206, 2614888103, 3248222580, 3835390401, 4022224774, 264347078, 604807628, 770255983, 1249150122, 1555081692, 1996064986, 2554220882, 2821834349, 2952996808, 3210313671, 3336571891, 3584528711, 113926993, 338241895, 666307205, 773529912, 1294757372, 1396182291, 1695183700, 1986661051, 2177026350, 2456956037, 2730485921, 2820302411, 3259730800, 3345764771, 3516065817, 3600352804, 4094571909, 275423344, 430227734, 506948616, 659060556, 883997877, 958139571, 1322822218, 1537002063, 1747873779, 1955562222, 2024104815, 2227730452, 2361852424, 2428436474, 2756734187, 3204031479, 3329325298] : List Int)).toArray), Bb K (Y0 (e := (Qg .u32)) (l := ([1116352408, 1899447441, 3049323471, 3921009573, 961987163, 1508970993, 2453635748, 2870763221, 3624381080, 310598401, 607225278, 1426881987, 1925078388, 2162078206, 2614888103, 3248222580, 3835390401, 4022224774, 264347078, 604807628, 770255983, 1249150122, 1555081692, 1996064986, 2554220882, 2821834349, 2952996808, 3210313671, 3336571891, 3584528711, 113926993, 338241895, 666307205, 773529912, 1294757372, 1396182291, 1695183700, 1986661051, 2177026350, 2456956037, 2730485921, 2820302411, 3259730800, 3345764771, 3516065817, 3600352804, 4094571909, 275423344, 430227734, 506948616, 659060556, 883997877, 958139571, 1322822218, 1537002063, 1747873779, 1955562222, 2024104815, 2227730452, 2361852424, 2428436474, 2756734187, 3204031479, 3329325298] : List Int)) (a := 0) (t := 359) K (SP.get b (i := 0) rfl) K K), ?_⟩
 obtain rfl := Zd H
 exact ⟨rfl, SP.sel b [] rfl rfl⟩
def Xd (p1 : Int) (p2 : (List Int)) (a : Int) : Option (Int) :=
  ((idx p2 0).bind fun b => ((Vs p1 (IntKind.wrap .i64 (0 - b))).bind fun c => ((idx p2 1).bind fun d => ((Vs p1 (IntKind.wrap .i64 (0 - d))).bind fun e => (some ((Vw .u32 (Vw .u32 c e) a)))))))
def Zw (p1 : Int) (p2 : (List Int)) (p4 : Bool) : Option (Int) :=
  ((idx p2 2).bind fun x9 => ((Vs p1 (IntKind.wrap .i64 (0 - x9))).bind fun b => (cond p4 ((idx p2 2).bind fun a => ((chk (decide (0 ≤ a))).bind fun _ => (Xd p1 p2 (Yr .u32 p1 a)))) (Xd p1 p2 b))))
set_option maxHeartbeats 40000000 in
theorem Zq  (p1 : Int) (p2 : (List Int)) (p4 : Bool) (w0 : World) (b3 : List.length p2 = 3) (r : (Int)) (H : Zw p1 p2 p4 = some r) :
  Calls Tryz.prog 415 #[(.int .u32 p1), (.agg (Qd (Qg .i64) p2).toArray), (bv p4)] w0 (fun e W => e = .returned (.int .u32 r) ∧ SP [] w0 W []) := by
 unfold Zw at H
 refine Z1 (n := 31) Tryz.func415 K K K ?_
 have b4 := SP.start [] w0
 refine aC ?_
 refine iS 1 ?_
 refine Nc (e := (Qg .i64)) (l := p2) (m := 3) (t := 135) (x := (.tmp 1)) (d := (some 4)) (k := 0) K rfl K b3 K b4 ?_
 intro g5 w6 a2
 refine iR 1 2 [(6, (.int .u32 0))] ?_
 refine iF ?_
 refine aC ?_
 refine iR 1 1 [(8, (.int .u32 p1))] ?_
 obtain ⟨x9, a5, a6, b5, H⟩ := Qn H
 refine iS 2 ?_
 refine Qe (e := (Qg .i64)) (l := p2) (m := 3) (g := g5) (T := 135) (E := 3) (x := (.tmp 4)) (ix := (.const (.int .i64 (2)))) (ki := .i64) (iz := 2) (i := 0) (d := (some 9)) (k := 1) K rfl K K K K a2 rfl a5 a6 ?_
 refine jX 3 3 9 g5 (0 + Int.toNat 2 * (Qg .i64).sz) (iv x9) 10 (Qi (e := (Qg .i64)) (Qj (Qp (SP.get a2 (i := 0) rfl)) rfl a5 a6) b5 (j := 0) rfl) ?_
 refine iR 1 4 [(11, (iv (IntKind.wrap .i64 (0 - x9))))] ?_
 obtain ⟨a3, b6, H⟩ := Va H
 refine iS 5 ?_
 refine cS a2 416 #[(.tmp 8), (.tmp 11)] #[43, 3] 12 Tryz.call416 (V4  p1 (IntKind.wrap .i64 (0 - x9)) w6  a3 b6) ?_
 intro f0 u
 refine iR 1 6 [(7, (.int .u32 a3))] ?_
 refine iF ?_
 refine aQ ?_
 refine aC ?_
 refine iR 1 1 [(13, (bv p4))] ?_
 refine iF ?_
 refine At.join (fun ρ w => ∃ (h : Int), Z5 ρ [(0, (.int .u32 p1)), (4, (pt g5 0)), (7, (.int .u32 h))] ∧ SP [] w0 w [Q7 135 (Qg .i64) g5 3 p2] ∧ Xd p1 p2 h = some r) ?_ ?_
 ·refine cD 13 H (fun H => ?_) fun H => ?_
  ·refine aR ?_
   refine iR 1 1 [(14, (.int .u32 p1))] ?_
   obtain ⟨q, a7, a8, b7, H⟩ := Qn H
   refine iS 2 ?_
   refine Qe (e := (Qg .i64)) (l := p2) (m := 3) (g := g5) (T := 135) (E := 3) (x := (.tmp 4)) (ix := (.const (.int .i64 (2)))) (ki := .i64) (iz := 2) (i := 0) (d := (some 15)) (k := 1) K rfl K K K K u rfl a7 a8 ?_
   refine jX 3 3 15 g5 (0 + Int.toNat 2 * (Qg .i64).sz) (iv q) 16 (Qi (e := (Qg .i64)) (Qj (Qp (SP.get u (i := 0) rfl)) rfl a7 a8) b7 (j := 0) rfl) ?_
   obtain ⟨hl107, H⟩ := V7 H
   refine iS 4 ?_
   refine Qr.shift (op := .shr) (T := 43) (T' := 3) (x := (.tmp 14)) (y := (.tmp 16)) (kx := .u32) (ky := .i64) (a := p1) (b := q) (v := (.int .u32 (Yr .u32 p1 q))) (d := (some 17)) (k := 3) K rfl K K (of_decide_eq_true hl107) rfl ?_
   refine iR 1 5 [(7, (.int .u32 (Yr .u32 p1 q)))] ?_
   refine iF ?_
   exact ⟨(Yr .u32 p1 q), ⟨K, K, K, trivial⟩, SP.sel u [0] rfl rfl, H⟩
  refine At.skip K ?_
  exact ⟨a3, ⟨K, K, K, trivial⟩, SP.sel u [0] rfl rfl, H⟩
 rintro ρ f1 ⟨h, hk, a9, H⟩
 unfold Xd at H
 first | refine At.known _ hk ?_ | rw [← Xc hk]
 have f2 := Qv (SP.get a9 (i := 0) rfl)
 refine aQ ?_
 obtain ⟨z, b0, b1, b8, H⟩ := Qn H
 obtain ⟨o, b9, H⟩ := Va H
 obtain ⟨s, a0, a1, b2, H⟩ := Qn H
 obtain ⟨p, c0, H⟩ := Va H
 refine aG [GEq (.int .u32 p1), Vk (some ⟨g5, 0, none⟩) (Qg .i64).sz 0, GEq (iv z), GEq (iv (IntKind.wrap .i64 (0 - z))), GEq (.int .u32 o), GEq (.int .u32 p1), Vk (some ⟨g5, 0, none⟩) (Qg .i64).sz 1, GEq (iv s), GEq (iv (IntKind.wrap .i64 (0 - s))), GEq (.int .u32 p), GEq (.int .u32 (Vw .u32 o p)), GEq (.int .u32 h), GEq (.int .u32 (Vw .u32 (Vw .u32 o p) h)), GEq (.int .u32 (Vw .u32 (Vw .u32 o p) h))] [4, 9] (tG [] w0 [Q7 135 (Qg .i64) g5 3 p2] [([], []), ([4], [(.int .u32 o)]), ([4, 9], [(.int .u32 o), (.int .u32 p)])]) 14 2 ⟨trivial, SP.drew a9⟩ ?_ ?_
 iterate 14 refine And.intro ?_ ?_
 exact trivial
 ·exact oU (hC (hS 0 (.int .u32 p1)) (h0))
 ·refine oL 0 ?_
  rintro P W hs f ⟨-, c1⟩
  refine kM (kc (kS hs 4 (pt g5 0)) k0) fun c => ?_
  refine Qe (e := (Qg .i64)) (l := p2) (m := 3) (g := g5) (T := 135) (E := 3) (x := (.tmp 4)) (ix := (.const (.int .i64 (0)))) (ki := .i64) (iz := 0) (i := 0) (d := (some 19)) (k := 1) K rfl K K K K c1 rfl b0 b1 ?_
  exact ⟨rfl, _, Qb c, ⟨g5, 0, rfl, rfl⟩⟩
 ·refine oL 0 ?_
  rintro P W hs f ⟨-, c2⟩
  obtain ⟨d0, d1, d2, d3⟩ := f 1 19 K
  refine kM (kc d3 k0) fun c => ?_
  refine sC 3 19 d0 (d1 + Int.toNat 0 * (Qg .i64).sz) (iv z) 20 (Qi (e := (Qg .i64)) (Qj (Qp (SP.get c2 (i := 0) rfl)) d2 b0 b1) b8 (j := 0) rfl) ?_
  exact eK c
 ·exact oU (hC (hA 2 20) (h0))
 ·refine oH 0 1 ?_
  rintro P W hs f ⟨-, d4⟩
  refine kM (kc (kA f 0 18) (kc (kA f 3 21) k0)) fun c => ?_
  refine cS d4 416 #[(.tmp 18), (.tmp 21)] #[43, 3] 22 Tryz.call416 (V4  p1 (IntKind.wrap .i64 (0 - z)) W  o b9) ?_
  intro f3 d5
  refine ⟨_, Qb c, rfl, ?_⟩
  exact (ai (ai rfl (trivial)) d5)
 ·exact oU (hC (hS 0 (.int .u32 p1)) (h0))
 ·refine Owe.light K [0, 1] K (Qc ?_ (Qc ?_ Qz))
  ·rintro P W hs f ⟨-, d6⟩
   refine kM (kc (kS hs 4 (pt g5 0)) k0) fun c => ?_
   refine Qe (e := (Qg .i64)) (l := p2) (m := 3) (g := g5) (T := 135) (E := 3) (x := (.tmp 4)) (ix := (.const (.int .i64 (1)))) (ki := .i64) (iz := 1) (i := 0) (d := (some 24)) (k := 6) K rfl K K K K d6 rfl a0 a1 ?_
   exact ⟨rfl, _, Qb c, ⟨g5, 0, rfl, rfl⟩⟩
  rintro P W hs f ⟨⟨f4, -⟩, d7⟩
  refine kM (kc (kS hs 4 (pt g5 0)) k0) fun c => ?_
  refine Qe (e := (Qg .i64)) (l := p2) (m := 3) (g := g5) (T := 135) (E := 3) (x := (.tmp 4)) (ix := (.const (.int .i64 (1)))) (ki := .i64) (iz := 1) (i := 0) (d := (some 24)) (k := 6) K rfl K K K K d7 rfl a0 a1 ?_
  exact ⟨rfl, _, Qb c, ⟨g5, 0, rfl, rfl⟩⟩
 ·refine Owe.light K [0, 1] K (Qc ?_ (Qc ?_ Qz))
  ·rintro P W hs f ⟨-, d8⟩
   obtain ⟨d9, e0, e1, a4⟩ := f 6 24 K
   refine kM (kc a4 k0) fun c => ?_
   refine sC 3 24 d9 (e0 + Int.toNat 1 * (Qg .i64).sz) (iv s) 25 (Qi (e := (Qg .i64)) (Qj (Qp (SP.get d8 (i := 0) rfl)) e1 a0 a1) b2 (j := 0) rfl) ?_
   exact eK c
  rintro P W hs f ⟨⟨f5, -⟩, e2⟩
  obtain ⟨e3, e4, e5, a4⟩ := f 6 24 K
  refine kM (kc a4 k0) fun c => ?_
  refine sC 3 24 e3 (e4 + Int.toNat 1 * (Qg .i64).sz) (iv s) 25 (Qi (e := (Qg .i64)) (Qj (Qp (SP.get e2 (i := 0) rfl)) e5 a0 a1) b2 (j := 0) rfl) ?_
  exact eK c
 ·exact oU (hC (hA 7 25) (h0))
 ·refine oH 1 2 ?_
  rintro P W hs f ⟨⟨e6, -⟩, e7⟩
  refine kM (kc (kA f 5 23) (kc (kA f 8 26) k0)) fun c => ?_
  refine cS e7 416 #[(.tmp 23), (.tmp 26)] #[43, 3] 27 Tryz.call416 (V4  p1 (IntKind.wrap .i64 (0 - s)) W  p c0) ?_
  intro f6 e8
  refine ⟨_, Qb c, rfl, ?_⟩
  exact (ai (ai e6 (ai rfl (trivial))) e8)
 ·exact oU (hC (hA 4 22) (hC (hA 9 27) (h0)))
 ·exact oU (hC (hS 7 (.int .u32 h)) (h0))
 ·exact oU (hC (hA 10 28) (hC (hA 11 29) (h0)))
 ·exact oU (hC (hA 12 30) (h0))
 rintro P f7 hs hf ⟨⟨f8, f9, -⟩, e9⟩
 refine Vy _ (kc (kF hf 13 6) k0) ?_
 refine At.ret K ?_
 refine ⟨(.int .u32 (Vw .u32 (Vw .u32 o p) h)), K, ?_⟩
 obtain rfl := Zd H
 exact ⟨rfl, SP.sel e9 [] rfl rfl⟩
def Yb (k : (List Int) → Int → Option ((List Int))) (c : (List Int) → Int → Option ((List Int))) (b : (List Int)) (a : Int) : Option ((List Int)) :=
  (cond (decide (a < 64)) ((idx b (IntKind.wrap .i64 (a - 2))).bind fun d => ((Zw d ([17, 19, 10] : List Int) true).bind fun e => ((idx b (IntKind.wrap .i64 (a - 7))).bind fun f => ((idx b (IntKind.wrap .i64 (a - 15))).bind fun g => ((Zw g ([7, 18, 3] : List Int) true).bind fun h => ((idx b (IntKind.wrap .i64 (a - 16))).bind fun i => ((idx b a).bind fun l => ((some (List.set b (Int.toNat a) (IntKind.wrap .u32 ((IntKind.wrap .u32 ((IntKind.wrap .u32 (e + f)) + h)) + i)))).bind fun j => (c j (IntKind.wrap .i64 (a + 1))))))))))) (some (b)))
def Xe (a : (List Int) → Int → Option ((List Int))) : Nat → (List Int) → Int → Option ((List Int))
  | 0, _, _ => none
  | f + 1, b, c => Yb a (Xe a f) b c
def Yc (c : (List Int) → Int → Option ((List Int))) (d : (List UInt8)) (b : (List Int)) (a : Int) : Option ((List Int)) :=
  (cond (decide (a < ((List.length d : Nat) : Int))) ((idx d a).bind fun e => ((idx b (IntKind.wrap .i64 (Int.tdiv a 4))).bind fun f => ((idx b (IntKind.wrap .i64 (Int.tdiv a 4))).bind fun h => ((some (List.set b (Int.toNat (IntKind.wrap .i64 (Int.tdiv a 4))) (bOr .u32 (J8 .u32 f 8) (IntKind.wrap .u32 ((e).toNat : Int))))).bind fun g => (c g (IntKind.wrap .i64 (a + 1))))))) (Xe c Ji b 16))
def Vz (a : (List UInt8)) : Nat → (List Int) → Int → Option ((List Int))
  | 0, _, _ => none
  | f + 1, b, c => Yc  (Vz a f) a b c
def Yk (p1 : (List UInt8)) : Option ((List Int)) :=
  ((sub p1 0 64).bind fun a => (Vz a Ji (List.replicate 64 0) 0))
set_option maxHeartbeats 40000000 in
theorem Y5 (A2 : Option Addr) (c3 : Nat) (p1 : Bs) (w0 : World) (b7 : RdT eU8 w0 A2 c3 p1) (r : ((List Int))) (H : Yk p1 = some r) :
  Calls Tryz.prog 411 #[(lv A2 p1 c3)] w0 (fun e W => e = .returned (.agg (Qd (Qg .u32) r).toArray) ∧ SP [] w0 W []) := by
 unfold Yk at H
 refine Z1 (n := 57) Tryz.func411 K K K ?_
 have e8 := SP.start [] w0
 refine aC ?_
 refine iS 1 ?_
 refine Q1 (e := (Qg .u32)) (l := (List.replicate 64 0)) (m := 64) (t := 359) (z := .agg (Qd (Qg .u32) (List.replicate 64 0)).toArray) (d := (some 2)) (k := 0) K rfl K rfl rfl K e8 ?_
 intro g5 w6 e9
 refine iF ?_
 refine aC ?_
 refine iS 1 ?_
 refine Q1 (e := (Qg .u32)) (l := (List.replicate 64 0)) (m := 64) (t := 359) (z := .agg (Qd (Qg .u32) (List.replicate 64 0)).toArray) (d := (some 3)) (k := 0) K rfl K rfl rfl K e9 ?_
 intro g9 o4 d3
 refine iF ?_
 refine aQ ?_
 refine aC ?_
 refine iR 1 1 [(7, (lv A2 p1 c3))] ?_
 obtain ⟨b8, b9, c0, H⟩ := Js H
 obtain ⟨s, hyl16⟩ : ∃ y, (List.drop (Int.toNat 0) (List.take (Int.toNat 64) p1)) = y := ⟨_, rfl⟩
 rw [hyl16] at H
 refine iS 2 ?_
 refine Ju (e := eU8) (l := p1) (m := s) (A := A2) (c := c3) (T := 51) (E := 5) (x := (.tmp 7)) (lo := none) (hi := (some (.const (.int .i64 (64))))) (i := 0) (j := 64) (d := (some 8)) (k := 1) K rfl K K K rfl ⟨.i64, K⟩ (RdX.le (RdT.sp b7 d3)) b8 b9 c0 hyl16 ?_
 refine iR 2 4 [(9, (iv (ln s))), (10, (iv 0))] ?_
 refine iF ?_
 refine Xu K (id := 0) K ?_
 refine U1 K (fun f4 ρ w => ∃ (u : (List Int)) (q : Int), Z5 ρ [(2, (pt g5 0)), (3, (pt g9 0)), (8, (lv (Nw eU8.sz c3 (Int.toNat 0) A2) s (c3 - Int.toNat 0))), (9, (iv (ln s))), (10, (iv q))] ∧ SP [] w0 w [Q7 359 (Qg .u32) g5 64 (List.replicate 64 0), Q7 359 (Qg .u32) g9 64 u] ∧ Vz s f4 u q = some r) (by rintro ρ w ⟨u, q, hk, hs, H⟩; cases H) ?_ Ji ?_
 ·rintro f4 ρ d4 ⟨u, q, hk, a1, H⟩
  refine At.known _ hk ?_
  replace H := (show Yc (Vz s f4) s u q = some r from H)
  unfold Yc at H
  have o5 := Qv (SP.get a1 (i := 0) rfl)
  have o6 := Qv (SP.get a1 (i := 1) rfl)
  refine aC ?_
  refine iR 1 1 [(11, (bv (decide (q < (ln s)))))] ?_
  refine iF ?_
  refine aQ ?_
  refine cD 11 H (fun H => ?_) fun H => ?_
  ·refine At.skip K ?_
   refine aQ ?_
   refine Xu K (id := 1) K ?_
   refine aC ?_
   refine iR 1 1 [(12, (iv q))] ?_
   obtain ⟨a4, d5, d6, f0, H⟩ := Qn H
   refine jE 2 eU8 s (Nw eU8.sz c3 (Int.toNat 0) A2) (c3 - Int.toNat 0) 51 5 (.tmp 8) (.tmp 10) q 13 ((G9 b8 b9 c0 hyl16) d4 (RdT.sp b7 a1)) d5 d6 ?_
   intro f1 f2 f3 o7 hc2226
   refine jX 3 5 13 f1 (f2 + Int.toNat q * eU8.sz) (.int .u8 ((a4).toNat : Int)) 14 (Qi (e := eU8) (Qj ((G9 b8 b9 c0 hyl16) d4 (RdT.sp b7 a1)) f3 d5 d6) f0 (j := 0) rfl) ?_
   refine iR 2 5 [(4, (iv q)), (5, (.int .u8 ((a4).toNat : Int)))] ?_
   refine iF ?_
   refine aR ?_
   refine iR 4 4 [(15, (iv q)), (16, (iv (IntKind.wrap .i64 (Int.tdiv q 4)))), (17, (iv q)), (18, (iv (IntKind.wrap .i64 (Int.tdiv q 4))))] ?_
   obtain ⟨b0, d7, d8, f6, H⟩ := Qn H
   refine iS 5 ?_
   refine Qe (e := (Qg .u32)) (l := u) (m := 64) (g := g9) (T := 359) (E := 43) (x := (.tmp 3)) (ix := (.tmp 18)) (ki := .i64) (iz := (IntKind.wrap .i64 (Int.tdiv q 4))) (i := 1) (d := (some 19)) (k := 4) K rfl K K K K a1 rfl d7 d8 ?_
   refine jX 6 43 19 g9 (0 + Int.toNat (IntKind.wrap .i64 (Int.tdiv q 4)) * (Qg .u32).sz) (.int .u32 b0) 20 (Qi (e := (Qg .u32)) (Qj (Qp (SP.get a1 (i := 1) rfl)) rfl d7 d8) f6 (j := 0) rfl) ?_
   refine iR 4 10 [(21, (.int .u32 (J8 .u32 b0 8))), (22, (.int .u8 ((a4).toNat : Int))), (23, (.int .u32 (IntKind.wrap .u32 ((a4).toNat : Int)))), (24, (.int .u32 (bOr .u32 (J8 .u32 b0 8) (IntKind.wrap .u32 ((a4).toNat : Int)))))] ?_
   obtain ⟨o8, d9, e0, o9, H⟩ := Qn H
   refine iS 11 ?_
   refine Qe (e := (Qg .u32)) (l := u) (m := 64) (g := g9) (T := 359) (E := 43) (x := (.tmp 3)) (ix := (.tmp 16)) (ki := .i64) (iz := (IntKind.wrap .i64 (Int.tdiv q 4))) (i := 1) (d := (some 25)) (k := 10) K rfl K K K K a1 rfl d9 e0 ?_
   obtain ⟨e1, hyl2237, H⟩ := Vp H
   have hnl2237 : List.length e1 = List.length u := by rw [← hyl2237, List.length_set]
   refine iS 12 ?_
   refine Vf (e := (Qg .u32)) (t := 43) (x := (.tmp 25)) (y := (.tmp 24)) (l := u) (iz := (IntKind.wrap .i64 (Int.tdiv q 4))) (m := 64) (g := g9) (b := g9) (off := 0) (i := 1) (v := (.int .u32 (bOr .u32 (J8 .u32 b0 8) (IntKind.wrap .u32 ((a4).toNat : Int))))) (x' := (bOr .u32 (J8 .u32 b0 8) (IntKind.wrap .u32 ((a4).toNat : Int)))) (d := none) (k := 11) K rfl rfl K K a1 rfl rfl e0 d9 rfl K ?_
   rw [hyl2237]
   intro p0 f7
   refine In.known [] trivial ?_
   refine iF ?_
   refine aR ?_
   refine iR 2 2 [(26, (iv (IntKind.wrap .i64 (q + 1)))), (10, (iv (IntKind.wrap .i64 (q + 1))))] ?_
   refine iF ?_
   exact ⟨e1, (IntKind.wrap .i64 (q + 1)), ⟨K, K, K, K, K, trivial⟩, SP.sel f7 [0, 1] rfl rfl, H⟩
  refine At.exit K (id := 0) K ?_
  refine aQ ?_
  refine aC ?_
  refine iR 1 1 [(6, (iv 16))] ?_
  refine iF ?_
  refine Xu K (id := 2) K ?_
  refine U1 K (fun f5 ρ w => ∃ (p : (List Int)) (f : Int), Z5 ρ [(2, (pt g5 0)), (3, (pt g9 0)), (6, (iv f))] ∧ SP [] w0 w [Q7 359 (Qg .u32) g5 64 (List.replicate 64 0), Q7 359 (Qg .u32) g9 64 p] ∧ Xe (Vz s f4) f5 p f = some r) (by rintro ρ w ⟨p, f, hk, hs, H⟩; cases H) ?_ Ji ?_
  ·rintro f5 ρ p2 ⟨p, f, hk, b1, H⟩
   refine At.known _ hk ?_
   replace H := (show Yb (Vz s f4) (Xe (Vz s f4) f5) p f = some r from H)
   unfold Yb at H
   have p3 := Qv (SP.get b1 (i := 0) rfl)
   have f8 := Qv (SP.get b1 (i := 1) rfl)
   refine aQ ?_
   refine aC ?_
   refine iR 2 2 [(27, (iv f)), (28, (bv (decide (f < 64))))] ?_
   refine iF ?_
   refine cD 28 H (fun H => ?_) fun H => ?_
   ·refine At.skip K ?_
    refine aQ ?_
    refine Xu K (id := 3) K ?_
    obtain ⟨c1, e2, e3, f9, H⟩ := Qn H
    obtain ⟨a0, g0, H⟩ := Va H
    obtain ⟨a2, a6, a7, c2, H⟩ := Qn H
    obtain ⟨b4, b5, b6, e4, H⟩ := Qn H
    obtain ⟨a3, g1, H⟩ := Va H
    obtain ⟨a5, a8, a9, d0, H⟩ := Qn H
    obtain ⟨p4, e5, e6, p5, H⟩ := Qn H
    obtain ⟨d1, hyl2808, H⟩ := Vp H
    have hnl2808 : List.length d1 = List.length p := by rw [← hyl2808, List.length_set]
    refine aG [GEq (iv f), GEq (iv f), GEq (iv (IntKind.wrap .i64 (f - 2))), Vk (some ⟨g9, 0, none⟩) (Qg .u32).sz (IntKind.wrap .i64 (f - 2)), GEq (.int .u32 c1), GEq (.agg (Qd (Qg .i64) ([17, 19, 10] : List Int)).toArray), GEq (.int .u32 a0), GEq (iv f), GEq (iv (IntKind.wrap .i64 (f - 7))), Vk (some ⟨g9, 0, none⟩) (Qg .u32).sz (IntKind.wrap .i64 (f - 7)), GEq (.int .u32 a2), GEq (.int .u32 (IntKind.wrap .u32 (a0 + a2))), GEq (iv f), GEq (iv (IntKind.wrap .i64 (f - 15))), Vk (some ⟨g9, 0, none⟩) (Qg .u32).sz (IntKind.wrap .i64 (f - 15)), GEq (.int .u32 b4), GEq (.agg (Qd (Qg .i64) ([7, 18, 3] : List Int)).toArray), GEq (.int .u32 a3), GEq (.int .u32 (IntKind.wrap .u32 ((IntKind.wrap .u32 (a0 + a2)) + a3))), GEq (iv f), GEq (iv (IntKind.wrap .i64 (f - 16))), Vk (some ⟨g9, 0, none⟩) (Qg .u32).sz (IntKind.wrap .i64 (f - 16)), GEq (.int .u32 a5), GEq (.int .u32 (IntKind.wrap .u32 ((IntKind.wrap .u32 ((IntKind.wrap .u32 (a0 + a2)) + a3)) + a5))), Vk (some ⟨g9, 0, none⟩) (Qg .u32).sz f, Ii] [6, 17, 25] [sG [] [] [] w0 [Q7 359 (Qg .u32) g5 64 (List.replicate 64 0), Q7 359 (Qg .u32) g9 64 p], sG [6] [(.int .u32 a0)] [] w0 [Q7 359 (Qg .u32) g5 64 (List.replicate 64 0), Q7 359 (Qg .u32) g9 64 p], sG [6, 17] [(.int .u32 a0), (.int .u32 a3)] [] w0 [Q7 359 (Qg .u32) g5 64 (List.replicate 64 0), Q7 359 (Qg .u32) g9 64 p], sG [6, 17, 25] [(.int .u32 a0), (.int .u32 a3), undef] [] w0 [Q7 359 (Qg .u32) g5 64 (List.replicate 64 0), Q7 359 (Qg .u32) g9 64 d1]] 26 3 ⟨trivial, SP.drew b1⟩ ?_ ?_
    iterate 26 refine And.intro ?_ ?_
    exact trivial
    ·exact oU (hC (hS 6 (iv f)) (h0))
    ·exact oU (hC (hS 6 (iv f)) (h0))
    ·exact oU (hC (hA 1 32) (h0))
    ·refine oL 0 ?_
     rintro P W hs h ⟨-, g2⟩
     refine kM (kc (kS hs 3 (pt g9 0)) (kc (kA h 2 33) k0)) fun o => ?_
     refine Qe (e := (Qg .u32)) (l := p) (m := 64) (g := g9) (T := 359) (E := 43) (x := (.tmp 3)) (ix := (.tmp 33)) (ki := .i64) (iz := (IntKind.wrap .i64 (f - 2))) (i := 1) (d := (some 34)) (k := 3) K rfl K K K K g2 rfl e2 e3 ?_
     exact ⟨rfl, _, Qb o, ⟨g9, 0, rfl, rfl⟩⟩
    ·refine oL 0 ?_
     rintro P W hs h ⟨-, g3⟩
     obtain ⟨g4, g6, g7, g8⟩ := h 3 34 K
     refine kM (kc g8 k0) fun o => ?_
     refine sC 43 34 g4 (g6 + Int.toNat (IntKind.wrap .i64 (f - 2)) * (Qg .u32).sz) (.int .u32 c1) 35 (Qi (e := (Qg .u32)) (Qj (Qp (SP.get g3 (i := 1) rfl)) g7 e2 e3) f9 (j := 0) rfl) ?_
     exact eK o
    ·exact Owe.run K [] trivial (.agg (Qd (Qg .i64) ([17, 19, 10] : List Int)).toArray) (fun _ _ => K) rfl
    ·refine oH 0 1 ?_
     rintro P W hs h ⟨-, h1⟩
     refine kM (kc (kA h 4 35) (kc (kA h 5 36) k0)) fun o => ?_
     refine cS h1 415 #[(.tmp 35), (.tmp 36), (.const (.bool true))] #[43, 135, 4] 37 Tryz.call415 (Zq  c1 ([17, 19, 10] : List Int) true W rfl a0 g0) ?_
     intro p6 h2
     refine ⟨_, Qb o, rfl, ?_⟩
     exact (ai (ai rfl (trivial)) h2)
    ·exact oU (hC (hS 6 (iv f)) (h0))
    ·exact oU (hC (hA 7 38) (h0))
    ·refine Owe.light K [0, 1, 2] K (Qc ?_ (Qc ?_ (Qc ?_ Qz)))
     ·rintro P W hs h ⟨-, h3⟩
      refine kM (kc (kS hs 3 (pt g9 0)) (kc (kA h 8 39) k0)) fun o => ?_
      refine Qe (e := (Qg .u32)) (l := p) (m := 64) (g := g9) (T := 359) (E := 43) (x := (.tmp 3)) (ix := (.tmp 39)) (ki := .i64) (iz := (IntKind.wrap .i64 (f - 7))) (i := 1) (d := (some 40)) (k := 9) K rfl K K K K h3 rfl a6 a7 ?_
      exact ⟨rfl, _, Qb o, ⟨g9, 0, rfl, rfl⟩⟩
     ·rintro P W hs h ⟨⟨p7, -⟩, h4⟩
      refine kM (kc (kS hs 3 (pt g9 0)) (kc (kA h 8 39) k0)) fun o => ?_
      refine Qe (e := (Qg .u32)) (l := p) (m := 64) (g := g9) (T := 359) (E := 43) (x := (.tmp 3)) (ix := (.tmp 39)) (ki := .i64) (iz := (IntKind.wrap .i64 (f - 7))) (i := 1) (d := (some 40)) (k := 9) K rfl K K K K h4 rfl a6 a7 ?_
      exact ⟨rfl, _, Qb o, ⟨g9, 0, rfl, rfl⟩⟩
     rintro P W hs h ⟨⟨p8, p9, -⟩, h5⟩
     refine kM (kc (kS hs 3 (pt g9 0)) (kc (kA h 8 39) k0)) fun o => ?_
     refine Qe (e := (Qg .u32)) (l := p) (m := 64) (g := g9) (T := 359) (E := 43) (x := (.tmp 3)) (ix := (.tmp 39)) (ki := .i64) (iz := (IntKind.wrap .i64 (f - 7))) (i := 1) (d := (some 40)) (k := 9) K rfl K K K K h5 rfl a6 a7 ?_
     exact ⟨rfl, _, Qb o, ⟨g9, 0, rfl, rfl⟩⟩
    ·refine Owe.light K [0, 1, 2] K (Qc ?_ (Qc ?_ (Qc ?_ Qz)))
     ·rintro P W hs h ⟨-, h6⟩
      obtain ⟨h7, h8, h9, b2⟩ := h 9 40 K
      refine kM (kc b2 k0) fun o => ?_
      refine sC 43 40 h7 (h8 + Int.toNat (IntKind.wrap .i64 (f - 7)) * (Qg .u32).sz) (.int .u32 a2) 41 (Qi (e := (Qg .u32)) (Qj (Qp (SP.get h6 (i := 1) rfl)) h9 a6 a7) c2 (j := 0) rfl) ?_
      exact eK o
     ·rintro P W hs h ⟨⟨q0, -⟩, i0⟩
      obtain ⟨i1, i2, i3, b2⟩ := h 9 40 K
      refine kM (kc b2 k0) fun o => ?_
      refine sC 43 40 i1 (i2 + Int.toNat (IntKind.wrap .i64 (f - 7)) * (Qg .u32).sz) (.int .u32 a2) 41 (Qi (e := (Qg .u32)) (Qj (Qp (SP.get i0 (i := 1) rfl)) i3 a6 a7) c2 (j := 0) rfl) ?_
      exact eK o
     rintro P W hs h ⟨⟨q1, q2, -⟩, i4⟩
     obtain ⟨i5, i6, i7, b2⟩ := h 9 40 K
     refine kM (kc b2 k0) fun o => ?_
     refine sC 43 40 i5 (i6 + Int.toNat (IntKind.wrap .i64 (f - 7)) * (Qg .u32).sz) (.int .u32 a2) 41 (Qi (e := (Qg .u32)) (Qj (Qp (SP.get i4 (i := 1) rfl)) i7 a6 a7) c2 (j := 0) rfl) ?_
     exact eK o
    ·exact oU (hC (hA 6 37) (hC (hA 10 41) (h0)))
    ·exact oU (hC (hS 6 (iv f)) (h0))
    ·exact oU (hC (hA 12 43) (h0))
    ·refine Owe.light K [0, 1] K (Qc ?_ (Qc ?_ Qz))
     ·rintro P W hs h ⟨-, i8⟩
      refine kM (kc (kS hs 3 (pt g9 0)) (kc (kA h 13 44) k0)) fun o => ?_
      refine Qe (e := (Qg .u32)) (l := p) (m := 64) (g := g9) (T := 359) (E := 43) (x := (.tmp 3)) (ix := (.tmp 44)) (ki := .i64) (iz := (IntKind.wrap .i64 (f - 15))) (i := 1) (d := (some 45)) (k := 14) K rfl K K K K i8 rfl b5 b6 ?_
      exact ⟨rfl, _, Qb o, ⟨g9, 0, rfl, rfl⟩⟩
     rintro P W hs h ⟨⟨q3, -⟩, i9⟩
     refine kM (kc (kS hs 3 (pt g9 0)) (kc (kA h 13 44) k0)) fun o => ?_
     refine Qe (e := (Qg .u32)) (l := p) (m := 64) (g := g9) (T := 359) (E := 43) (x := (.tmp 3)) (ix := (.tmp 44)) (ki := .i64) (iz := (IntKind.wrap .i64 (f - 15))) (i := 1) (d := (some 45)) (k := 14) K rfl K K K K i9 rfl b5 b6 ?_
     exact ⟨rfl, _, Qb o, ⟨g9, 0, rfl, rfl⟩⟩
    ·refine Owe.light K [0, 1] K (Qc ?_ (Qc ?_ Qz))
     ·rintro P W hs h ⟨-, j0⟩
      obtain ⟨j1, j2, j3, d2⟩ := h 14 45 K
      refine kM (kc d2 k0) fun o => ?_
      refine sC 43 45 j1 (j2 + Int.toNat (IntKind.wrap .i64 (f - 15)) * (Qg .u32).sz) (.int .u32 b4) 46 (Qi (e := (Qg .u32)) (Qj (Qp (SP.get j0 (i := 1) rfl)) j3 b5 b6) e4 (j := 0) rfl) ?_
      exact eK o
     rintro P W hs h ⟨⟨q4, -⟩, j4⟩
     obtain ⟨j5, j6, j7, d2⟩ := h 14 45 K
     refine kM (kc d2 k0) fun o => ?_
     refine sC 43 45 j5 (j6 + Int.toNat (IntKind.wrap .i64 (f - 15)) * (Qg .u32).sz) (.int .u32 b4) 46 (Qi (e := (Qg .u32)) (Qj (Qp (SP.get j4 (i := 1) rfl)) j7 b5 b6) e4 (j := 0) rfl) ?_
     exact eK o
    ·exact Owe.run K [] trivial (.agg (Qd (Qg .i64) ([7, 18, 3] : List Int)).toArray) (fun _ _ => K) rfl
    ·refine oH 1 2 ?_
     rintro P W hs h ⟨⟨j8, -⟩, j9⟩
     refine kM (kc (kA h 15 46) (kc (kA h 16 47) k0)) fun o => ?_
     refine cS j9 415 #[(.tmp 46), (.tmp 47), (.const (.bool true))] #[43, 135, 4] 48 Tryz.call415 (Zq  b4 ([7, 18, 3] : List Int) true W rfl a3 g1) ?_
     intro q5 k1
     refine ⟨_, Qb o, rfl, ?_⟩
     exact (ai (ai j8 (ai rfl (trivial))) k1)
    ·exact oU (hC (hA 11 42) (hC (hA 17 48) (h0)))
    ·exact oU (hC (hS 6 (iv f)) (h0))
    ·exact oU (hC (hA 19 50) (h0))
    ·refine Owe.light K [0, 1, 2] K (Qc ?_ (Qc ?_ (Qc ?_ Qz)))
     ·rintro P W hs h ⟨-, k2⟩
      refine kM (kc (kS hs 3 (pt g9 0)) (kc (kA h 20 51) k0)) fun o => ?_
      refine Qe (e := (Qg .u32)) (l := p) (m := 64) (g := g9) (T := 359) (E := 43) (x := (.tmp 3)) (ix := (.tmp 51)) (ki := .i64) (iz := (IntKind.wrap .i64 (f - 16))) (i := 1) (d := (some 52)) (k := 21) K rfl K K K K k2 rfl a8 a9 ?_
      exact ⟨rfl, _, Qb o, ⟨g9, 0, rfl, rfl⟩⟩
     ·rintro P W hs h ⟨⟨q6, -⟩, l0⟩
      refine kM (kc (kS hs 3 (pt g9 0)) (kc (kA h 20 51) k0)) fun o => ?_
      refine Qe (e := (Qg .u32)) (l := p) (m := 64) (g := g9) (T := 359) (E := 43) (x := (.tmp 3)) (ix := (.tmp 51)) (ki := .i64) (iz := (IntKind.wrap .i64 (f - 16))) (i := 1) (d := (some 52)) (k := 21) K rfl K K K K l0 rfl a8 a9 ?_
      exact ⟨rfl, _, Qb o, ⟨g9, 0, rfl, rfl⟩⟩
     rintro P W hs h ⟨⟨q7, q8, -⟩, l1⟩
     refine kM (kc (kS hs 3 (pt g9 0)) (kc (kA h 20 51) k0)) fun o => ?_
     refine Qe (e := (Qg .u32)) (l := p) (m := 64) (g := g9) (T := 359) (E := 43) (x := (.tmp 3)) (ix := (.tmp 51)) (ki := .i64) (iz := (IntKind.wrap .i64 (f - 16))) (i := 1) (d := (some 52)) (k := 21) K rfl K K K K l1 rfl a8 a9 ?_
     exact ⟨rfl, _, Qb o, ⟨g9, 0, rfl, rfl⟩⟩
    ·refine Owe.light K [0, 1, 2] K (Qc ?_ (Qc ?_ (Qc ?_ Qz)))
     ·rintro P W hs h ⟨-, l2⟩
      obtain ⟨l3, l4, l5, b3⟩ := h 21 52 K
      refine kM (kc b3 k0) fun o => ?_
      refine sC 43 52 l3 (l4 + Int.toNat (IntKind.wrap .i64 (f - 16)) * (Qg .u32).sz) (.int .u32 a5) 53 (Qi (e := (Qg .u32)) (Qj (Qp (SP.get l2 (i := 1) rfl)) l5 a8 a9) d0 (j := 0) rfl) ?_
      exact eK o
     ·rintro P W hs h ⟨⟨q9, -⟩, l6⟩
      obtain ⟨l7, l8, l9, b3⟩ := h 21 52 K
      refine kM (kc b3 k0) fun o => ?_
      refine sC 43 52 l7 (l8 + Int.toNat (IntKind.wrap .i64 (f - 16)) * (Qg .u32).sz) (.int .u32 a5) 53 (Qi (e := (Qg .u32)) (Qj (Qp (SP.get l6 (i := 1) rfl)) l9 a8 a9) d0 (j := 0) rfl) ?_
      exact eK o
     rintro P W hs h ⟨⟨r0, r1, -⟩, m0⟩
     obtain ⟨m1, m2, m3, b3⟩ := h 21 52 K
     refine kM (kc b3 k0) fun o => ?_
     refine sC 43 52 m1 (m2 + Int.toNat (IntKind.wrap .i64 (f - 16)) * (Qg .u32).sz) (.int .u32 a5) 53 (Qi (e := (Qg .u32)) (Qj (Qp (SP.get m0 (i := 1) rfl)) m3 a8 a9) d0 (j := 0) rfl) ?_
     exact eK o
    ·exact oU (hC (hA 18 49) (hC (hA 22 53) (h0)))
    ·refine oL 2 ?_
     rintro P W hs h ⟨⟨r2, r3, -⟩, m4⟩
     refine kM (kc (kS hs 3 (pt g9 0)) (kc (kA h 0 31) k0)) fun o => ?_
     refine Qe (e := (Qg .u32)) (l := p) (m := 64) (g := g9) (T := 359) (E := 43) (x := (.tmp 3)) (ix := (.tmp 31)) (ki := .i64) (iz := f) (i := 1) (d := (some 55)) (k := 24) K rfl K K K K m4 rfl e5 e6 ?_
     exact ⟨rfl, _, Qb o, ⟨g9, 0, rfl, rfl⟩⟩
    ·refine oH 2 3 ?_
     rintro P W hs h ⟨⟨m5, m6, -⟩, m7⟩
     obtain ⟨m8, m9, o0, o1⟩ := h 24 55 K
     refine kM (kc o1 (kc (kA h 23 54) k0)) fun o => ?_
     refine Vf (e := (Qg .u32)) (t := 43) (x := (.tmp 55)) (y := (.tmp 54)) (l := p) (iz := f) (m := 64) (g := g9) (b := m8) (off := m9) (i := 1) (v := (.int .u32 (IntKind.wrap .u32 ((IntKind.wrap .u32 ((IntKind.wrap .u32 (a0 + a2)) + a3)) + a5)))) (x' := (IntKind.wrap .u32 ((IntKind.wrap .u32 ((IntKind.wrap .u32 (a0 + a2)) + a3)) + a5))) (d := none) (k := 25) K rfl o0 K K m7 rfl rfl e6 e5 rfl K ?_
     rw [hyl2808]
     intro r4 o2
     refine ⟨_, Qb o, trivial, ?_⟩
     exact (ai (ai m5 (ai m6 (ai rfl (trivial)))) o2)
    rintro P r5 hs hf ⟨⟨r6, r7, r8, -⟩, o3⟩
    refine Vy _ (kc (kT hs 2 (pt g5 0)) (kc (kT hs 3 (pt g9 0)) (kc (kT hs 6 (iv f)) k0))) ?_
    refine aR ?_
    refine iR 3 3 [(29, (iv f)), (30, (iv (IntKind.wrap .i64 (f + 1)))), (6, (iv (IntKind.wrap .i64 (f + 1))))] ?_
    refine iF ?_
    exact ⟨d1, (IntKind.wrap .i64 (f + 1)), ⟨K, K, K, trivial⟩, SP.sel o3 [0, 1] rfl rfl, H⟩
   refine At.exit K (id := 2) K ?_
   refine aC ?_
   refine iS 1 ?_
   refine Vl (e := (Qg .u32)) (l := p) (m := 64) (t := 359) (x := (.tmp 3)) (g := g9) (i := 1) (d := (some 56)) (k := 0) K rfl K b1 rfl K K ?_
   refine iS 2 ?_
   refine Vb (e := (Qg .u32)) (l := (List.replicate 64 0)) (l' := p) (m := 64) (t := 359) (x := (.tmp 2)) (y := (.tmp 56)) (g := g5) (i := 0) (d := none) (k := 1) K rfl K K f8 b1 rfl K ?_
   intro r9 e7
   refine iF ?_
   refine At.ret K ?_
   refine ⟨(.agg (Qd (Qg .u32) p).toArray), Bb K (Y0 (e := (Qg .u32)) (l := p) (a := 2) (t := 359) K (SP.get e7 (i := 0) rfl) K K), ?_⟩
   obtain rfl := Zd H
   exact ⟨rfl, SP.sel e7 [] rfl rfl⟩
  exact ⟨u, 16, ⟨K, K, K, trivial⟩, SP.sel a1 [0, 1] rfl rfl, H⟩
 exact ⟨(List.replicate 64 0), 0, ⟨K, K, K, K, K, trivial⟩, SP.sel d3 [0, 1] rfl rfl, H⟩
def Zk (g : (List Int) → Int → Option ((List Int))) (c : (List Int) → Int → Option ((List Int))) (p1 : (List Int)) (b : (List Int)) (a : Int) : Option ((List Int)) :=
  (cond (decide (a < 8)) ((idx b a).bind fun d => ((idx p1 a).bind fun e => ((idx b a).bind fun h => ((some (List.set b (Int.toNat a) (IntKind.wrap .u32 (d + e)))).bind fun f => (c f (IntKind.wrap .i64 (a + 1))))))) (some (b)))
def V3 (a : (List Int) → Int → Option ((List Int))) (p1 : (List Int)) : Nat → (List Int) → Int → Option ((List Int))
  | 0, _, _ => none
  | f + 1, b, c => Zk a (V3 a p1 f) p1 b c
def Zm (e : (List Int) → Int → Option ((List Int))) (p1 : (List Int)) (p3 : (List Int)) (q : ((List Int))) (a : (List Int)) (b : Int) : Option ((List Int)) :=
  (cond (decide (b < 64)) ((idx a 0).bind fun f => ((idx a 1).bind fun g => ((idx a 2).bind fun h => ((idx a 4).bind fun c => ((idx a 7).bind fun i => ((Zw c ([6, 11, 25] : List Int) false).bind fun j => ((idx a 6).bind fun k => ((idx a 5).bind fun l => ((idx a 6).bind fun m => ((idx q b).bind fun n => ((idx p3 b).bind fun o => ((Zw f ([2, 13, 22] : List Int) false).bind fun r => ((sub a 1 ((List.length a : Nat) : Int)).bind fun s => ((sub a 0 7).bind fun t => ((some (cpy a (Int.toNat 1) (List.length s) t)).bind fun d => ((idx d 4).bind fun u => ((idx d 0).bind fun w => ((some (List.set d (Int.toNat 0) (IntKind.wrap .u32 ((IntKind.wrap .u32 ((IntKind.wrap .u32 ((IntKind.wrap .u32 ((IntKind.wrap .u32 (i + j)) + (Vw .u32 k (Vr .u32 c (Vw .u32 l m))))) + n)) + o)) + (IntKind.wrap .u32 (r + (bOr .u32 (Vr .u32 f (bOr .u32 g h)) (Vr .u32 g h)))))))).bind fun p => ((idx p 4).bind fun x => ((some (List.set p (Int.toNat 4) (IntKind.wrap .u32 (u + (IntKind.wrap .u32 ((IntKind.wrap .u32 ((IntKind.wrap .u32 ((IntKind.wrap .u32 (i + j)) + (Vw .u32 k (Vr .u32 c (Vw .u32 l m))))) + n)) + o)))))).bind fun v => (e v (IntKind.wrap .i64 (b + 1))))))))))))))))))))))) (V3 e p1 Ji a 0))
def Vc (p1 : (List Int)) (p3 : (List Int)) (a : ((List Int))) : Nat → (List Int) → Int → Option ((List Int))
  | 0, _, _ => none
  | f + 1, b, c => Zm  (Vc p1 p3 a f) p1 p3 a b c
def Ze (p1 : (List Int)) (p3 : (List Int)) : Option ((List Int)) :=
  ((Jf ).bind fun a => ((chk (Nat.beq (List.length a) 64)).bind fun _ => (Vc p1 p3 a Ji p1 0)))
set_option maxHeartbeats 40000000 in
theorem Xh  (p1 : (List Int)) (p3 : (List Int)) (w0 : World) (h4 : List.length p1 = 8) (l9 : List.length p3 = 64) (r : ((List Int))) (H : Ze p1 p3 = some r) :
  Calls Tryz.prog 410 #[(.agg (Qd (Qg .u32) p1).toArray), (.agg (Qd (Qg .u32) p3).toArray)] w0 (fun e W => e = .returned (.agg (Qd (Qg .u32) r).toArray) ∧ SP [] w0 W []) := by
 unfold Ze at H
 refine Z1 (n := 92) Tryz.func410 K K K ?_
 have m0 := SP.start [] w0
 refine aC ?_
 refine iS 1 ?_
 refine Nc (e := (Qg .u32)) (l := p1) (m := 8) (t := 512) (x := (.tmp 0)) (d := (some 2)) (k := 0) K rfl K h4 K m0 ?_
 intro g5 w6 m1
 refine iS 2 ?_
 refine Nc (e := (Qg .u32)) (l := p3) (m := 64) (t := 359) (x := (.tmp 1)) (d := (some 3)) (k := 1) K rfl K l9 K m1 ?_
 intro g9 w10 m2
 refine iS 3 ?_
 refine Q1 (e := (Qg .u32)) (l := (List.replicate 8 0)) (m := 8) (t := 512) (z := .agg (Qd (Qg .u32) (List.replicate 8 0)).toArray) (d := (some 4)) (k := 2) K rfl K rfl rfl K m2 ?_
 intro a7 w14 m3
 refine iF ?_
 refine aQ ?_
 obtain ⟨u, e0, H⟩ := Va H
 obtain ⟨g2, H⟩ := V7 H
 replace g2 := Nat.eq_of_beq_eq_true g2
 refine aG [GEq (.agg (Qd (Qg .u32) p1).toArray), GEq (.agg (Qd (Qg .u32) u).toArray), Ii, Ii, Ii, Ii] [1, 2, 3, 4, 5] ((fun (X0 X1 X2 : Ent) => [([], fun vs w => VL vs [] ∧ SP [] w0 w [X0, X1, X2]), ([1], fun vs w => VL vs [(.agg (Qd (Qg .u32) u).toArray)] ∧ SP [] w0 w [X0, X1, X2]), ([2], fun vs w => ∃ (b7 : Nat), VL vs [(pt b7 0)] ∧ SP [] w0 w [X0, X1, X2, Q7 512 (Qg .u32) b7 8 (List.replicate 8 0)]), ([3], fun vs w => ∃ (b8 : Nat), VL vs [(pt b8 0)] ∧ SP [] w0 w [X0, X1, X2, Q7 359 (Qg .u32) b8 64 (List.replicate 64 0)]), ([1, 2], fun vs w => ∃ (d1 : Nat), VL vs [(.agg (Qd (Qg .u32) u).toArray), (pt d1 0)] ∧ SP [] w0 w [X0, X1, X2, Q7 512 (Qg .u32) d1 8 (List.replicate 8 0)]), ([1, 3], fun vs w => ∃ (d2 : Nat), VL vs [(.agg (Qd (Qg .u32) u).toArray), (pt d2 0)] ∧ SP [] w0 w [X0, X1, X2, Q7 359 (Qg .u32) d2 64 (List.replicate 64 0)]), ([2, 3], fun vs w => ∃ (d3 : Nat), ∃ (d4 : Nat), VL vs [(pt d3 0), (pt d4 0)] ∧ SP [] w0 w [X0, X1, X2, Q7 512 (Qg .u32) d3 8 (List.replicate 8 0), Q7 359 (Qg .u32) d4 64 (List.replicate 64 0)]), ([1, 2, 3], fun vs w => ∃ (b9 : Nat), ∃ (d5 : Nat), VL vs [(.agg (Qd (Qg .u32) u).toArray), (pt b9 0), (pt d5 0)] ∧ SP [] w0 w [X0, X1, X2, Q7 512 (Qg .u32) b9 8 (List.replicate 8 0), Q7 359 (Qg .u32) d5 64 (List.replicate 64 0)]), ([1, 2, 3, 4], fun vs w => ∃ (e1 : Nat), ∃ (c1 : Nat), VL vs [(.agg (Qd (Qg .u32) u).toArray), (pt e1 0), (pt c1 0), undef] ∧ SP [] w0 w [X0, X1, X2, Q7 512 (Qg .u32) e1 8 p1, Q7 359 (Qg .u32) c1 64 (List.replicate 64 0)]), ([1, 2, 3, 4, 5], fun vs w => ∃ (o : Nat), ∃ (a4 : Nat), VL vs [(.agg (Qd (Qg .u32) u).toArray), (pt o 0), (pt a4 0), undef, undef] ∧ SP [] w0 w [X0, X1, X2, Q7 512 (Qg .u32) o 8 p1, Q7 359 (Qg .u32) a4 64 u])]) (Q7 512 (Qg .u32) g5 8 p1) (Q7 359 (Qg .u32) g9 64 p3) (Q7 512 (Qg .u32) a7 8 (List.replicate 8 0))) 6 9 ⟨trivial, SP.drew m3⟩ ?_ ?_
 iterate 6 refine And.intro ?_ ?_
 exact trivial
 ·refine Owe.light K [0, 1, 2, 3, 4, 5, 6, 7] K (Qc ?_ (Qc ?_ (Qc ?_ (Qc ?_ (Qc ?_ (Qc ?_ (Qc ?_ (Qc ?_ Qz))))))))
  ·rintro P W hs f ⟨-, m4⟩
   refine kM (kc (kS hs 2 (pt g5 0)) k0) fun c => ?_
   refine Vl (e := (Qg .u32)) (l := p1) (m := 8) (t := 512) (x := (.tmp 2)) (g := g5) (i := 0) (d := (some 15)) (k := 0) K rfl K m4 rfl K K ?_
   exact eK c
  ·rintro P W hs f ⟨⟨ag8, -⟩, m5⟩
   refine kM (kc (kS hs 2 (pt g5 0)) k0) fun c => ?_
   refine Vl (e := (Qg .u32)) (l := p1) (m := 8) (t := 512) (x := (.tmp 2)) (g := g5) (i := 0) (d := (some 15)) (k := 0) K rfl K m5 rfl K K ?_
   exact eK c
  ·rintro P W hs f ⟨b7, ⟨ag9, -⟩, m6⟩
   refine kM (kc (kS hs 2 (pt g5 0)) k0) fun c => ?_
   refine Vl (e := (Qg .u32)) (l := p1) (m := 8) (t := 512) (x := (.tmp 2)) (g := g5) (i := 0) (d := (some 15)) (k := 0) K rfl K m6 rfl K K ?_
   exact eK c
  ·rintro P W hs f ⟨b8, ⟨ah0, -⟩, m7⟩
   refine kM (kc (kS hs 2 (pt g5 0)) k0) fun c => ?_
   refine Vl (e := (Qg .u32)) (l := p1) (m := 8) (t := 512) (x := (.tmp 2)) (g := g5) (i := 0) (d := (some 15)) (k := 0) K rfl K m7 rfl K K ?_
   exact eK c
  ·rintro P W hs f ⟨d1, ⟨ah1, ah2, -⟩, m8⟩
   refine kM (kc (kS hs 2 (pt g5 0)) k0) fun c => ?_
   refine Vl (e := (Qg .u32)) (l := p1) (m := 8) (t := 512) (x := (.tmp 2)) (g := g5) (i := 0) (d := (some 15)) (k := 0) K rfl K m8 rfl K K ?_
   exact eK c
  ·rintro P W hs f ⟨d2, ⟨ah3, ah4, -⟩, m9⟩
   refine kM (kc (kS hs 2 (pt g5 0)) k0) fun c => ?_
   refine Vl (e := (Qg .u32)) (l := p1) (m := 8) (t := 512) (x := (.tmp 2)) (g := g5) (i := 0) (d := (some 15)) (k := 0) K rfl K m9 rfl K K ?_
   exact eK c
  ·rintro P W hs f ⟨d3, d4, ⟨ah5, ah6, -⟩, o0⟩
   refine kM (kc (kS hs 2 (pt g5 0)) k0) fun c => ?_
   refine Vl (e := (Qg .u32)) (l := p1) (m := 8) (t := 512) (x := (.tmp 2)) (g := g5) (i := 0) (d := (some 15)) (k := 0) K rfl K o0 rfl K K ?_
   exact eK c
  rintro P W hs f ⟨b9, d5, ⟨ah7, ah8, ah9, -⟩, o1⟩
  refine kM (kc (kS hs 2 (pt g5 0)) k0) fun c => ?_
  refine Vl (e := (Qg .u32)) (l := p1) (m := 8) (t := 512) (x := (.tmp 2)) (g := g5) (i := 0) (d := (some 15)) (k := 0) K rfl K o1 rfl K K ?_
  exact eK c
 ·refine Owe.heavy K [(0, 1), (2, 4), (3, 5), (6, 7)] K (Qc ⟨K, K, ?_⟩ (Qc ⟨K, K, ?_⟩ (Qc ⟨K, K, ?_⟩ (Qc ⟨K, K, ?_⟩ Qz))))
  ·rintro P W hs f ⟨-, o2⟩
   refine kN [] trivial fun c => ?_
   refine cS o2 414 #[] #[] 16 Tryz.call414 (Zp   W  u e0) ?_
   intro ai0 o3
   refine ⟨_, Qb c, rfl, ?_⟩
   exact (ai (ai rfl (trivial)) o3)
  ·rintro P W hs f ⟨b7, ⟨o4, -⟩, o5⟩
   refine kN [] trivial fun c => ?_
   refine cS o5 414 #[] #[] 16 Tryz.call414 (Zp   W  u e0) ?_
   intro ai1 o6
   refine ⟨_, Qb c, rfl, ?_⟩
   exact (ei b7 (ai (ai rfl (ai o4 (trivial))) o6))
  ·rintro P W hs f ⟨b8, ⟨o7, -⟩, o8⟩
   refine kN [] trivial fun c => ?_
   refine cS o8 414 #[] #[] 16 Tryz.call414 (Zp   W  u e0) ?_
   intro ai2 o9
   refine ⟨_, Qb c, rfl, ?_⟩
   exact (ei b8 (ai (ai rfl (ai o7 (trivial))) o9))
  rintro P W hs f ⟨d3, d4, ⟨p0, p2, -⟩, p4⟩
  refine kN [] trivial fun c => ?_
  refine cS p4 414 #[] #[] 16 Tryz.call414 (Zp   W  u e0) ?_
  intro ai3 p5
  refine ⟨_, Qb c, rfl, ?_⟩
  exact (ei d3 (ei d4 (ai (ai rfl (ai p0 (ai p2 (trivial)))) p5)))
 ·refine Owe.heavy K [(0, 2), (1, 4), (3, 6), (5, 7)] K (Qc ⟨K, K, ?_⟩ (Qc ⟨K, K, ?_⟩ (Qc ⟨K, K, ?_⟩ (Qc ⟨K, K, ?_⟩ Qz))))
  ·rintro P W hs f ⟨-, p6⟩
   refine kN [] trivial fun c => ?_
   refine Q1 (e := (Qg .u32)) (l := (List.replicate 8 0)) (m := 8) (t := 512) (z := .agg (Qd (Qg .u32) (List.replicate 8 0)).toArray) (d := (some 5)) (k := 2) K rfl K rfl rfl K p6 ?_
   intro p7 ai4 p8
   refine ⟨_, Qb c, trivial, ?_⟩
   exact (ei p7 (ai (ai rfl (trivial)) p8))
  ·rintro P W hs f ⟨⟨p9, -⟩, q0⟩
   refine kN [] trivial fun c => ?_
   refine Q1 (e := (Qg .u32)) (l := (List.replicate 8 0)) (m := 8) (t := 512) (z := .agg (Qd (Qg .u32) (List.replicate 8 0)).toArray) (d := (some 5)) (k := 2) K rfl K rfl rfl K q0 ?_
   intro q1 ai5 q2
   refine ⟨_, Qb c, trivial, ?_⟩
   exact (ei q1 (ai (ai p9 (ai rfl (trivial))) q2))
  ·rintro P W hs f ⟨b8, ⟨q3, -⟩, q4⟩
   refine kN [] trivial fun c => ?_
   refine Q1 (e := (Qg .u32)) (l := (List.replicate 8 0)) (m := 8) (t := 512) (z := .agg (Qd (Qg .u32) (List.replicate 8 0)).toArray) (d := (some 5)) (k := 2) K rfl K rfl rfl K q4 ?_
   intro q5 ai6 q6
   refine ⟨_, Qb c, trivial, ?_⟩
   exact (ei q5 (ei b8 (ai (ai rfl (ai q3 (trivial))) (SP.sel q6 [0, 1, 2, 4, 3] rfl rfl))))
  rintro P W hs f ⟨d2, ⟨q7, q8, -⟩, q9⟩
  refine kN [] trivial fun c => ?_
  refine Q1 (e := (Qg .u32)) (l := (List.replicate 8 0)) (m := 8) (t := 512) (z := .agg (Qd (Qg .u32) (List.replicate 8 0)).toArray) (d := (some 5)) (k := 2) K rfl K rfl rfl K q9 ?_
  intro r0 ai7 r1
  refine ⟨_, Qb c, trivial, ?_⟩
  exact (ei r0 (ei d2 (ai (ai q7 (ai rfl (ai q8 (trivial)))) (SP.sel r1 [0, 1, 2, 4, 3] rfl rfl))))
 ·refine Owe.heavy K [(0, 3), (1, 5), (2, 6), (4, 7)] K (Qc ⟨K, K, ?_⟩ (Qc ⟨K, K, ?_⟩ (Qc ⟨K, K, ?_⟩ (Qc ⟨K, K, ?_⟩ Qz))))
  ·rintro P W hs f ⟨-, r2⟩
   refine kN [] trivial fun c => ?_
   refine Q1 (e := (Qg .u32)) (l := (List.replicate 64 0)) (m := 64) (t := 359) (z := .agg (Qd (Qg .u32) (List.replicate 64 0)).toArray) (d := (some 6)) (k := 3) K rfl K rfl rfl K r2 ?_
   intro r3 ai8 r4
   refine ⟨_, Qb c, trivial, ?_⟩
   exact (ei r3 (ai (ai rfl (trivial)) r4))
  ·rintro P W hs f ⟨⟨r5, -⟩, r6⟩
   refine kN [] trivial fun c => ?_
   refine Q1 (e := (Qg .u32)) (l := (List.replicate 64 0)) (m := 64) (t := 359) (z := .agg (Qd (Qg .u32) (List.replicate 64 0)).toArray) (d := (some 6)) (k := 3) K rfl K rfl rfl K r6 ?_
   intro r7 ai9 r8
   refine ⟨_, Qb c, trivial, ?_⟩
   exact (ei r7 (ai (ai r5 (ai rfl (trivial))) r8))
  ·rintro P W hs f ⟨b7, ⟨r9, -⟩, s0⟩
   refine kN [] trivial fun c => ?_
   refine Q1 (e := (Qg .u32)) (l := (List.replicate 64 0)) (m := 64) (t := 359) (z := .agg (Qd (Qg .u32) (List.replicate 64 0)).toArray) (d := (some 6)) (k := 3) K rfl K rfl rfl K s0 ?_
   intro s1 aj0 s2
   refine ⟨_, Qb c, trivial, ?_⟩
   exact (ei b7 (ei s1 (ai (ai r9 (ai rfl (trivial))) s2)))
  rintro P W hs f ⟨d1, ⟨s3, s4, -⟩, s5⟩
  refine kN [] trivial fun c => ?_
  refine Q1 (e := (Qg .u32)) (l := (List.replicate 64 0)) (m := 64) (t := 359) (z := .agg (Qd (Qg .u32) (List.replicate 64 0)).toArray) (d := (some 6)) (k := 3) K rfl K rfl rfl K s5 ?_
  intro s6 aj1 s7
  refine ⟨_, Qb c, trivial, ?_⟩
  exact (ei d1 (ei s6 (ai (ai s3 (ai s4 (ai rfl (trivial)))) s7)))
 ·refine oH 7 8 ?_
  rintro P W hs f ⟨b9, d5, ⟨s8, h5, s9, -⟩, t0⟩
  refine kN [(5, (pt b9 0)), (15, (.agg (Qd (Qg .u32) p1).toArray))] ⟨(Je (h := 2) K).symm.trans h5, f 0 15 K, trivial⟩ fun c => ?_
  refine Vb (e := (Qg .u32)) (l := (List.replicate 8 0)) (l' := p1) (m := 8) (t := 512) (x := (.tmp 5)) (y := (.tmp 15)) (g := b9) (i := 3) (d := none) (k := 4) K rfl K K h4 t0 rfl K ?_
  intro aj2 t1
  refine ⟨_, Qb c, trivial, ?_⟩
  exact (ei b9 (ei d5 (ai (ai s8 (ai h5 (ai s9 (ai rfl (trivial))))) t1)))
 ·refine oH 8 9 ?_
  rintro P W hs f ⟨e1, c1, ⟨h6, t2, h7, t3, -⟩, t4⟩
  refine kN [(6, (pt c1 0)), (16, (.agg (Qd (Qg .u32) u).toArray))] ⟨(Je (h := 3) K).symm.trans h7, (Je (h := 1) K).symm.trans h6, trivial⟩ fun c => ?_
  refine Vb (e := (Qg .u32)) (l := (List.replicate 64 0)) (l' := u) (m := 64) (t := 359) (x := (.tmp 6)) (y := (.tmp 16)) (g := c1) (i := 4) (d := none) (k := 5) K rfl K K g2 t4 rfl K ?_
  intro aj3 t5
  refine ⟨_, Qb c, trivial, ?_⟩
  exact (ei e1 (ei c1 (ai (ai h6 (ai t2 (ai h7 (ai t3 (ai rfl (trivial)))))) t5)))
 rintro P aj4 hs hf ⟨o, a4, ⟨aj5, t6, t7, aj6, aj7, -⟩, t8⟩
 refine Vy [(2, (pt g5 0)), (3, (pt g9 0)), (4, (pt a7 0)), (5, (pt o 0)), (6, (pt a4 0))] ⟨(hs 2 K).trans K, (hs 3 K).trans K, (hs 4 K).trans K, (Je (h := 2) K).symm.trans t6, (Je (h := 3) K).symm.trans t7, trivial⟩ ?_
 refine aQ ?_
 refine aC ?_
 refine iR 1 1 [(17, (iv 0))] ?_
 refine iF ?_
 refine Xu K (id := 0) K ?_
 refine U1 K (fun f4 ρ w => ∃ (p : (List Int)) (s : Int), Z5 ρ [(2, (pt g5 0)), (3, (pt g9 0)), (4, (pt a7 0)), (5, (pt o 0)), (6, (pt a4 0)), (17, (iv s))] ∧ SP [] w0 w [Q7 512 (Qg .u32) g5 8 p1, Q7 359 (Qg .u32) g9 64 p3, Q7 512 (Qg .u32) a7 8 (List.replicate 8 0), Q7 512 (Qg .u32) o 8 p, Q7 359 (Qg .u32) a4 64 u] ∧ Vc p1 p3 u f4 p s = some r) (by rintro ρ w ⟨p, s, hk, hs, H⟩; cases H) ?_ Ji ?_
 ·rintro f4 ρ aj8 ⟨p, s, hk, c0, H⟩
  refine At.known _ hk ?_
  replace H := (show Zm (Vc p1 p3 u f4) p1 p3 u p s = some r from H)
  unfold Zm at H
  have aj9 := Qv (SP.get c0 (i := 0) rfl)
  have ak0 := Qv (SP.get c0 (i := 1) rfl)
  have ak1 := Qv (SP.get c0 (i := 2) rfl)
  have ak2 := Qv (SP.get c0 (i := 3) rfl)
  have ak3 := Qv (SP.get c0 (i := 4) rfl)
  refine aC ?_
  refine iR 1 1 [(18, (bv (decide (s < 64))))] ?_
  refine iF ?_
  refine aQ ?_
  refine cD 18 H (fun H => ?_) fun H => ?_
  ·refine At.skip K ?_
   refine aQ ?_
   refine Xu K (id := 1) K ?_
   refine aC ?_
   refine iR 2 2 [(19, (iv s)), (7, (iv s))] ?_
   refine iF ?_
   refine aQ ?_
   obtain ⟨b1, h8, h9, t9, H⟩ := Qn H
   obtain ⟨a0, i0, i1, u0, H⟩ := Qn H
   obtain ⟨a1, i2, i3, u1, H⟩ := Qn H
   obtain ⟨a3, i4, i5, u2, H⟩ := Qn H
   refine aG [Vk (some ⟨o, 0, none⟩) (Qg .u32).sz 0, GEq (.int .u32 b1), Vk (some ⟨o, 0, none⟩) (Qg .u32).sz 1, GEq (.int .u32 a0), Vk (some ⟨o, 0, none⟩) (Qg .u32).sz 2, GEq (.int .u32 a1), Vk (some ⟨o, 0, none⟩) (Qg .u32).sz 4, GEq (.int .u32 a3), GEq (.int .u32 b1), GEq (.int .u32 a0), GEq (.int .u32 a1), GEq (.int .u32 a3)] [] (tG [] w0 [Q7 512 (Qg .u32) g5 8 p1, Q7 359 (Qg .u32) g9 64 p3, Q7 512 (Qg .u32) a7 8 (List.replicate 8 0), Q7 512 (Qg .u32) o 8 p, Q7 359 (Qg .u32) a4 64 u] [([], [])]) 12 0 ⟨trivial, SP.drew c0⟩ ?_ ?_
   iterate 12 refine And.intro ?_ ?_
   exact trivial
   ·refine oL 0 ?_
    rintro P W hs f ⟨-, u3⟩
    refine kM (kc (kS hs 5 (pt o 0)) k0) fun c => ?_
    refine Qe (e := (Qg .u32)) (l := p) (m := 8) (g := o) (T := 512) (E := 43) (x := (.tmp 5)) (ix := (.const (.int .i64 (0)))) (ki := .i64) (iz := 0) (i := 3) (d := (some 20)) (k := 0) K rfl K K K K u3 rfl h8 h9 ?_
    exact ⟨rfl, _, Qb c, ⟨o, 0, rfl, rfl⟩⟩
   ·refine oL 0 ?_
    rintro P W hs f ⟨-, u4⟩
    obtain ⟨u5, u6, u7, u8⟩ := f 0 20 K
    refine kM (kc u8 k0) fun c => ?_
    refine sC 43 20 u5 (u6 + Int.toNat 0 * (Qg .u32).sz) (.int .u32 b1) 21 (Qi (e := (Qg .u32)) (Qj (Qp (SP.get u4 (i := 3) rfl)) u7 h8 h9) t9 (j := 0) rfl) ?_
    exact eK c
   ·refine oL 0 ?_
    rintro P W hs f ⟨-, u9⟩
    refine kM (kc (kS hs 5 (pt o 0)) k0) fun c => ?_
    refine Qe (e := (Qg .u32)) (l := p) (m := 8) (g := o) (T := 512) (E := 43) (x := (.tmp 5)) (ix := (.const (.int .i64 (1)))) (ki := .i64) (iz := 1) (i := 3) (d := (some 22)) (k := 2) K rfl K K K K u9 rfl i0 i1 ?_
    exact ⟨rfl, _, Qb c, ⟨o, 0, rfl, rfl⟩⟩
   ·refine oL 0 ?_
    rintro P W hs f ⟨-, v0⟩
    obtain ⟨v1, v2, v3, v4⟩ := f 2 22 K
    refine kM (kc v4 k0) fun c => ?_
    refine sC 43 22 v1 (v2 + Int.toNat 1 * (Qg .u32).sz) (.int .u32 a0) 23 (Qi (e := (Qg .u32)) (Qj (Qp (SP.get v0 (i := 3) rfl)) v3 i0 i1) u0 (j := 0) rfl) ?_
    exact eK c
   ·refine oL 0 ?_
    rintro P W hs f ⟨-, v5⟩
    refine kM (kc (kS hs 5 (pt o 0)) k0) fun c => ?_
    refine Qe (e := (Qg .u32)) (l := p) (m := 8) (g := o) (T := 512) (E := 43) (x := (.tmp 5)) (ix := (.const (.int .i64 (2)))) (ki := .i64) (iz := 2) (i := 3) (d := (some 24)) (k := 4) K rfl K K K K v5 rfl i2 i3 ?_
    exact ⟨rfl, _, Qb c, ⟨o, 0, rfl, rfl⟩⟩
   ·refine oL 0 ?_
    rintro P W hs f ⟨-, v6⟩
    obtain ⟨v7, v8, v9, w1⟩ := f 4 24 K
    refine kM (kc w1 k0) fun c => ?_
    refine sC 43 24 v7 (v8 + Int.toNat 2 * (Qg .u32).sz) (.int .u32 a1) 25 (Qi (e := (Qg .u32)) (Qj (Qp (SP.get v6 (i := 3) rfl)) v9 i2 i3) u1 (j := 0) rfl) ?_
    exact eK c
   ·refine oL 0 ?_
    rintro P W hs f ⟨-, w2⟩
    refine kM (kc (kS hs 5 (pt o 0)) k0) fun c => ?_
    refine Qe (e := (Qg .u32)) (l := p) (m := 8) (g := o) (T := 512) (E := 43) (x := (.tmp 5)) (ix := (.const (.int .i64 (4)))) (ki := .i64) (iz := 4) (i := 3) (d := (some 26)) (k := 6) K rfl K K K K w2 rfl i4 i5 ?_
    exact ⟨rfl, _, Qb c, ⟨o, 0, rfl, rfl⟩⟩
   ·refine oL 0 ?_
    rintro P W hs f ⟨-, w3⟩
    obtain ⟨w4, w5, w7, w8⟩ := f 6 26 K
    refine kM (kc w8 k0) fun c => ?_
    refine sC 43 26 w4 (w5 + Int.toNat 4 * (Qg .u32).sz) (.int .u32 a3) 27 (Qi (e := (Qg .u32)) (Qj (Qp (SP.get w3 (i := 3) rfl)) w7 i4 i5) u2 (j := 0) rfl) ?_
    exact eK c
   ·exact oU (hC (hA 1 21) (h0))
   ·exact oU (hC (hA 3 23) (h0))
   ·exact oU (hC (hA 5 25) (h0))
   ·exact oU (hC (hA 7 27) (h0))
   rintro P ak4 hs hf ⟨-, w9⟩
   refine Vy _ (kc (kT hs 2 (pt g5 0)) (kc (kT hs 3 (pt g9 0)) (kc (kT hs 4 (pt a7 0)) (kc (kT hs 5 (pt o 0)) (kc (kT hs 6 (pt a4 0)) (kc (kT hs 7 (iv s)) (kc (kF hf 8 8) (kc (kF hf 9 9) (kc (kF hf 10 10) (kc (kF hf 11 11) (kc (kT hs 17 (iv s)) k0))))))))))) ?_
   refine aQ ?_
   obtain ⟨a8, e2, e3, i6, H⟩ := Qn H
   obtain ⟨a9, x0, H⟩ := Va H
   obtain ⟨b0, e4, e5, i7, H⟩ := Qn H
   obtain ⟨a5, e6, e7, i8, H⟩ := Qn H
   obtain ⟨a6, e8, e9, i9, H⟩ := Qn H
   obtain ⟨b2, f0, f1, j0, H⟩ := Qn H
   obtain ⟨b3, f2, f3, j1, H⟩ := Qn H
   refine aG [Vk (some ⟨o, 0, none⟩) (Qg .u32).sz 7, GEq (.int .u32 a8), GEq (.int .u32 a3), GEq (.agg (Qd (Qg .i64) ([6, 11, 25] : List Int)).toArray), GEq (.int .u32 a9), GEq (.int .u32 (IntKind.wrap .u32 (a8 + a9))), Vk (some ⟨o, 0, none⟩) (Qg .u32).sz 6, GEq (.int .u32 b0), GEq (.int .u32 a3), Vk (some ⟨o, 0, none⟩) (Qg .u32).sz 5, GEq (.int .u32 a5), Vk (some ⟨o, 0, none⟩) (Qg .u32).sz 6, GEq (.int .u32 a6), GEq (.int .u32 (Vw .u32 a5 a6)), GEq (.int .u32 (Vr .u32 a3 (Vw .u32 a5 a6))), GEq (.int .u32 (Vw .u32 b0 (Vr .u32 a3 (Vw .u32 a5 a6)))), GEq (.int .u32 (IntKind.wrap .u32 ((IntKind.wrap .u32 (a8 + a9)) + (Vw .u32 b0 (Vr .u32 a3 (Vw .u32 a5 a6)))))), GEq (iv s), Vk (some ⟨a4, 0, none⟩) (Qg .u32).sz s, GEq (.int .u32 b2), GEq (.int .u32 (IntKind.wrap .u32 ((IntKind.wrap .u32 ((IntKind.wrap .u32 (a8 + a9)) + (Vw .u32 b0 (Vr .u32 a3 (Vw .u32 a5 a6))))) + b2))), GEq (iv s), Vk (some ⟨g9, 0, none⟩) (Qg .u32).sz s, GEq (.int .u32 b3), GEq (.int .u32 (IntKind.wrap .u32 ((IntKind.wrap .u32 ((IntKind.wrap .u32 ((IntKind.wrap .u32 (a8 + a9)) + (Vw .u32 b0 (Vr .u32 a3 (Vw .u32 a5 a6))))) + b2)) + b3))), GEq (.int .u32 (IntKind.wrap .u32 ((IntKind.wrap .u32 ((IntKind.wrap .u32 ((IntKind.wrap .u32 (a8 + a9)) + (Vw .u32 b0 (Vr .u32 a3 (Vw .u32 a5 a6))))) + b2)) + b3)))] [4] (tG [] w0 [Q7 512 (Qg .u32) g5 8 p1, Q7 359 (Qg .u32) g9 64 p3, Q7 512 (Qg .u32) a7 8 (List.replicate 8 0), Q7 512 (Qg .u32) o 8 p, Q7 359 (Qg .u32) a4 64 u] [([], []), ([4], [(.int .u32 a9)])]) 26 1 ⟨trivial, SP.drew w9⟩ ?_ ?_
   iterate 26 refine And.intro ?_ ?_
   exact trivial
   ·refine Owe.light K [0, 1] K (Qc ?_ (Qc ?_ Qz))
    ·rintro P W hs f ⟨-, x1⟩
     refine kM (kc (kS hs 5 (pt o 0)) k0) fun c => ?_
     refine Qe (e := (Qg .u32)) (l := p) (m := 8) (g := o) (T := 512) (E := 43) (x := (.tmp 5)) (ix := (.const (.int .i64 (7)))) (ki := .i64) (iz := 7) (i := 3) (d := (some 28)) (k := 0) K rfl K K K K x1 rfl e2 e3 ?_
     exact ⟨rfl, _, Qb c, ⟨o, 0, rfl, rfl⟩⟩
    rintro P W hs f ⟨⟨ak5, -⟩, x2⟩
    refine kM (kc (kS hs 5 (pt o 0)) k0) fun c => ?_
    refine Qe (e := (Qg .u32)) (l := p) (m := 8) (g := o) (T := 512) (E := 43) (x := (.tmp 5)) (ix := (.const (.int .i64 (7)))) (ki := .i64) (iz := 7) (i := 3) (d := (some 28)) (k := 0) K rfl K K K K x2 rfl e2 e3 ?_
    exact ⟨rfl, _, Qb c, ⟨o, 0, rfl, rfl⟩⟩
   ·refine Owe.light K [0, 1] K (Qc ?_ (Qc ?_ Qz))
    ·rintro P W hs f ⟨-, x3⟩
     obtain ⟨x4, x5, x6, g3⟩ := f 0 28 K
     refine kM (kc g3 k0) fun c => ?_
     refine sC 43 28 x4 (x5 + Int.toNat 7 * (Qg .u32).sz) (.int .u32 a8) 29 (Qi (e := (Qg .u32)) (Qj (Qp (SP.get x3 (i := 3) rfl)) x6 e2 e3) i6 (j := 0) rfl) ?_
     exact eK c
    rintro P W hs f ⟨⟨ak6, -⟩, x7⟩
    obtain ⟨x8, x9, y0, g3⟩ := f 0 28 K
    refine kM (kc g3 k0) fun c => ?_
    refine sC 43 28 x8 (x9 + Int.toNat 7 * (Qg .u32).sz) (.int .u32 a8) 29 (Qi (e := (Qg .u32)) (Qj (Qp (SP.get x7 (i := 3) rfl)) y0 e2 e3) i6 (j := 0) rfl) ?_
    exact eK c
   ·exact oU (hC (hS 11 (.int .u32 a3)) (h0))
   ·exact Owe.run K [] trivial (.agg (Qd (Qg .i64) ([6, 11, 25] : List Int)).toArray) (fun _ _ => K) rfl
   ·refine oH 0 1 ?_
    rintro P W hs f ⟨-, y1⟩
    refine kM (kc (kA f 2 30) (kc (kA f 3 31) k0)) fun c => ?_
    refine cS y1 415 #[(.tmp 30), (.tmp 31), (.const (.bool false))] #[43, 135, 4] 32 Tryz.call415 (Zq  a3 ([6, 11, 25] : List Int) false W rfl a9 x0) ?_
    intro ak7 y2
    refine ⟨_, Qb c, rfl, ?_⟩
    exact (ai (ai rfl (trivial)) y2)
   ·exact oU (hC (hA 1 29) (hC (hA 4 32) (h0)))
   ·refine Owe.light K [0, 1] K (Qc ?_ (Qc ?_ Qz))
    ·rintro P W hs f ⟨-, y3⟩
     refine kM (kc (kS hs 5 (pt o 0)) k0) fun c => ?_
     refine Qe (e := (Qg .u32)) (l := p) (m := 8) (g := o) (T := 512) (E := 43) (x := (.tmp 5)) (ix := (.const (.int .i64 (6)))) (ki := .i64) (iz := 6) (i := 3) (d := (some 34)) (k := 6) K rfl K K K K y3 rfl e4 e5 ?_
     exact ⟨rfl, _, Qb c, ⟨o, 0, rfl, rfl⟩⟩
    rintro P W hs f ⟨⟨ak8, -⟩, y4⟩
    refine kM (kc (kS hs 5 (pt o 0)) k0) fun c => ?_
    refine Qe (e := (Qg .u32)) (l := p) (m := 8) (g := o) (T := 512) (E := 43) (x := (.tmp 5)) (ix := (.const (.int .i64 (6)))) (ki := .i64) (iz := 6) (i := 3) (d := (some 34)) (k := 6) K rfl K K K K y4 rfl e4 e5 ?_
    exact ⟨rfl, _, Qb c, ⟨o, 0, rfl, rfl⟩⟩
   ·refine Owe.light K [0, 1] K (Qc ?_ (Qc ?_ Qz))
    ·rintro P W hs f ⟨-, y5⟩
     obtain ⟨y6, y7, y8, g4⟩ := f 6 34 K
     refine kM (kc g4 k0) fun c => ?_
     refine sC 43 34 y6 (y7 + Int.toNat 6 * (Qg .u32).sz) (.int .u32 b0) 35 (Qi (e := (Qg .u32)) (Qj (Qp (SP.get y5 (i := 3) rfl)) y8 e4 e5) i7 (j := 0) rfl) ?_
     exact eK c
    rintro P W hs f ⟨⟨ak9, -⟩, y9⟩
    obtain ⟨z0, z1, z2, g4⟩ := f 6 34 K
    refine kM (kc g4 k0) fun c => ?_
    refine sC 43 34 z0 (z1 + Int.toNat 6 * (Qg .u32).sz) (.int .u32 b0) 35 (Qi (e := (Qg .u32)) (Qj (Qp (SP.get y9 (i := 3) rfl)) z2 e4 e5) i7 (j := 0) rfl) ?_
    exact eK c
   ·exact oU (hC (hS 11 (.int .u32 a3)) (h0))
   ·refine Owe.light K [0, 1] K (Qc ?_ (Qc ?_ Qz))
    ·rintro P W hs f ⟨-, z3⟩
     refine kM (kc (kS hs 5 (pt o 0)) k0) fun c => ?_
     refine Qe (e := (Qg .u32)) (l := p) (m := 8) (g := o) (T := 512) (E := 43) (x := (.tmp 5)) (ix := (.const (.int .i64 (5)))) (ki := .i64) (iz := 5) (i := 3) (d := (some 37)) (k := 9) K rfl K K K K z3 rfl e6 e7 ?_
     exact ⟨rfl, _, Qb c, ⟨o, 0, rfl, rfl⟩⟩
    rintro P W hs f ⟨⟨al0, -⟩, z4⟩
    refine kM (kc (kS hs 5 (pt o 0)) k0) fun c => ?_
    refine Qe (e := (Qg .u32)) (l := p) (m := 8) (g := o) (T := 512) (E := 43) (x := (.tmp 5)) (ix := (.const (.int .i64 (5)))) (ki := .i64) (iz := 5) (i := 3) (d := (some 37)) (k := 9) K rfl K K K K z4 rfl e6 e7 ?_
    exact ⟨rfl, _, Qb c, ⟨o, 0, rfl, rfl⟩⟩
   ·refine Owe.light K [0, 1] K (Qc ?_ (Qc ?_ Qz))
    ·rintro P W hs f ⟨-, z5⟩
     obtain ⟨z6, z7, z8, g6⟩ := f 9 37 K
     refine kM (kc g6 k0) fun c => ?_
     refine sC 43 37 z6 (z7 + Int.toNat 5 * (Qg .u32).sz) (.int .u32 a5) 38 (Qi (e := (Qg .u32)) (Qj (Qp (SP.get z5 (i := 3) rfl)) z8 e6 e7) i8 (j := 0) rfl) ?_
     exact eK c
    rintro P W hs f ⟨⟨al1, -⟩, z9⟩
    obtain ⟨aa0, aa1, aa2, g6⟩ := f 9 37 K
    refine kM (kc g6 k0) fun c => ?_
    refine sC 43 37 aa0 (aa1 + Int.toNat 5 * (Qg .u32).sz) (.int .u32 a5) 38 (Qi (e := (Qg .u32)) (Qj (Qp (SP.get z9 (i := 3) rfl)) aa2 e6 e7) i8 (j := 0) rfl) ?_
    exact eK c
   ·refine Owe.light K [0, 1] K (Qc ?_ (Qc ?_ Qz))
    ·rintro P W hs f ⟨-, aa3⟩
     refine kM (kc (kS hs 5 (pt o 0)) k0) fun c => ?_
     refine Qe (e := (Qg .u32)) (l := p) (m := 8) (g := o) (T := 512) (E := 43) (x := (.tmp 5)) (ix := (.const (.int .i64 (6)))) (ki := .i64) (iz := 6) (i := 3) (d := (some 39)) (k := 11) K rfl K K K K aa3 rfl e8 e9 ?_
     exact ⟨rfl, _, Qb c, ⟨o, 0, rfl, rfl⟩⟩
    rintro P W hs f ⟨⟨al2, -⟩, aa4⟩
    refine kM (kc (kS hs 5 (pt o 0)) k0) fun c => ?_
    refine Qe (e := (Qg .u32)) (l := p) (m := 8) (g := o) (T := 512) (E := 43) (x := (.tmp 5)) (ix := (.const (.int .i64 (6)))) (ki := .i64) (iz := 6) (i := 3) (d := (some 39)) (k := 11) K rfl K K K K aa4 rfl e8 e9 ?_
    exact ⟨rfl, _, Qb c, ⟨o, 0, rfl, rfl⟩⟩
   ·refine Owe.light K [0, 1] K (Qc ?_ (Qc ?_ Qz))
    ·rintro P W hs f ⟨-, aa5⟩
     obtain ⟨aa6, aa7, aa8, g7⟩ := f 11 39 K
     refine kM (kc g7 k0) fun c => ?_
     refine sC 43 39 aa6 (aa7 + Int.toNat 6 * (Qg .u32).sz) (.int .u32 a6) 40 (Qi (e := (Qg .u32)) (Qj (Qp (SP.get aa5 (i := 3) rfl)) aa8 e8 e9) i9 (j := 0) rfl) ?_
     exact eK c
    rintro P W hs f ⟨⟨al3, -⟩, aa9⟩
    obtain ⟨ab0, ab1, ab2, g7⟩ := f 11 39 K
    refine kM (kc g7 k0) fun c => ?_
    refine sC 43 39 ab0 (ab1 + Int.toNat 6 * (Qg .u32).sz) (.int .u32 a6) 40 (Qi (e := (Qg .u32)) (Qj (Qp (SP.get aa9 (i := 3) rfl)) ab2 e8 e9) i9 (j := 0) rfl) ?_
    exact eK c
   ·exact oU (hC (hA 10 38) (hC (hA 12 40) (h0)))
   ·exact oU (hC (hA 8 36) (hC (hA 13 41) (h0)))
   ·exact oU (hC (hA 7 35) (hC (hA 14 42) (h0)))
   ·exact oU (hC (hA 5 33) (hC (hA 15 43) (h0)))
   ·exact oU (hC (hS 7 (iv s)) (h0))
   ·refine Owe.light K [0, 1] K (Qc ?_ (Qc ?_ Qz))
    ·rintro P W hs f ⟨-, ab3⟩
     refine kM (kc (kS hs 6 (pt a4 0)) (kc (kA f 17 45) k0)) fun c => ?_
     refine Qe (e := (Qg .u32)) (l := u) (m := 64) (g := a4) (T := 359) (E := 43) (x := (.tmp 6)) (ix := (.tmp 45)) (ki := .i64) (iz := s) (i := 4) (d := (some 46)) (k := 18) K rfl K K K K ab3 rfl f0 f1 ?_
     exact ⟨rfl, _, Qb c, ⟨a4, 0, rfl, rfl⟩⟩
    rintro P W hs f ⟨⟨al4, -⟩, ab4⟩
    refine kM (kc (kS hs 6 (pt a4 0)) (kc (kA f 17 45) k0)) fun c => ?_
    refine Qe (e := (Qg .u32)) (l := u) (m := 64) (g := a4) (T := 359) (E := 43) (x := (.tmp 6)) (ix := (.tmp 45)) (ki := .i64) (iz := s) (i := 4) (d := (some 46)) (k := 18) K rfl K K K K ab4 rfl f0 f1 ?_
    exact ⟨rfl, _, Qb c, ⟨a4, 0, rfl, rfl⟩⟩
   ·refine Owe.light K [0, 1] K (Qc ?_ (Qc ?_ Qz))
    ·rintro P W hs f ⟨-, ab5⟩
     obtain ⟨ab6, ab7, ab8, g8⟩ := f 18 46 K
     refine kM (kc g8 k0) fun c => ?_
     refine sC 43 46 ab6 (ab7 + Int.toNat s * (Qg .u32).sz) (.int .u32 b2) 47 (Qi (e := (Qg .u32)) (Qj (Qp (SP.get ab5 (i := 4) rfl)) ab8 f0 f1) j0 (j := 0) rfl) ?_
     exact eK c
    rintro P W hs f ⟨⟨al5, -⟩, ab9⟩
    obtain ⟨ac0, ac1, ac2, g8⟩ := f 18 46 K
    refine kM (kc g8 k0) fun c => ?_
    refine sC 43 46 ac0 (ac1 + Int.toNat s * (Qg .u32).sz) (.int .u32 b2) 47 (Qi (e := (Qg .u32)) (Qj (Qp (SP.get ab9 (i := 4) rfl)) ac2 f0 f1) j0 (j := 0) rfl) ?_
    exact eK c
   ·exact oU (hC (hA 16 44) (hC (hA 19 47) (h0)))
   ·exact oU (hC (hS 7 (iv s)) (h0))
   ·refine Owe.light K [0, 1] K (Qc ?_ (Qc ?_ Qz))
    ·rintro P W hs f ⟨-, ac3⟩
     refine kM (kc (kS hs 3 (pt g9 0)) (kc (kA f 21 49) k0)) fun c => ?_
     refine Qe (e := (Qg .u32)) (l := p3) (m := 64) (g := g9) (T := 359) (E := 43) (x := (.tmp 3)) (ix := (.tmp 49)) (ki := .i64) (iz := s) (i := 1) (d := (some 50)) (k := 22) K rfl K K K K ac3 rfl f2 f3 ?_
     exact ⟨rfl, _, Qb c, ⟨g9, 0, rfl, rfl⟩⟩
    rintro P W hs f ⟨⟨al6, -⟩, ac4⟩
    refine kM (kc (kS hs 3 (pt g9 0)) (kc (kA f 21 49) k0)) fun c => ?_
    refine Qe (e := (Qg .u32)) (l := p3) (m := 64) (g := g9) (T := 359) (E := 43) (x := (.tmp 3)) (ix := (.tmp 49)) (ki := .i64) (iz := s) (i := 1) (d := (some 50)) (k := 22) K rfl K K K K ac4 rfl f2 f3 ?_
    exact ⟨rfl, _, Qb c, ⟨g9, 0, rfl, rfl⟩⟩
   ·refine Owe.light K [0, 1] K (Qc ?_ (Qc ?_ Qz))
    ·rintro P W hs f ⟨-, ac5⟩
     obtain ⟨ac6, ac7, ac8, h1⟩ := f 22 50 K
     refine kM (kc h1 k0) fun c => ?_
     refine sC 43 50 ac6 (ac7 + Int.toNat s * (Qg .u32).sz) (.int .u32 b3) 51 (Qi (e := (Qg .u32)) (Qj (Qp (SP.get ac5 (i := 1) rfl)) ac8 f2 f3) j1 (j := 0) rfl) ?_
     exact eK c
    rintro P W hs f ⟨⟨al7, -⟩, ac9⟩
    obtain ⟨ad0, ad1, ad2, h1⟩ := f 22 50 K
    refine kM (kc h1 k0) fun c => ?_
    refine sC 43 50 ad0 (ad1 + Int.toNat s * (Qg .u32).sz) (.int .u32 b3) 51 (Qi (e := (Qg .u32)) (Qj (Qp (SP.get ac9 (i := 1) rfl)) ad2 f2 f3) j1 (j := 0) rfl) ?_
    exact eK c
   ·exact oU (hC (hA 20 48) (hC (hA 23 51) (h0)))
   ·exact oU (hC (hA 24 52) (h0))
   rintro P ad3 hs hf ⟨⟨al8, -⟩, ad4⟩
   refine Vy _ (kc (kT hs 2 (pt g5 0)) (kc (kT hs 3 (pt g9 0)) (kc (kT hs 4 (pt a7 0)) (kc (kT hs 5 (pt o 0)) (kc (kT hs 6 (pt a4 0)) (kc (kT hs 8 (.int .u32 b1)) (kc (kT hs 9 (.int .u32 a0)) (kc (kT hs 10 (.int .u32 a1)) (kc (kF hf 25 12) (kc (kT hs 17 (iv s)) k0)))))))))) ?_
   refine aC ?_
   refine iR 2 2 [(53, (.int .u32 b1)), (54, (.agg (Qd (Qg .i64) ([2, 13, 22] : List Int)).toArray))] ?_
   obtain ⟨b5, ad5, H⟩ := Va H
   refine iS 3 ?_
   refine cS ad4 415 #[(.tmp 53), (.tmp 54), (.const (.bool false))] #[43, 135, 4] 55 Tryz.call415 (Zq  b1 ([2, 13, 22] : List Int) false ad3 rfl b5 ad5) ?_
   intro al9 ad6
   refine iR 11 14 [(56, (.int .u32 b1)), (57, (.int .u32 a0)), (58, (.int .u32 a1)), (59, (.int .u32 (bOr .u32 a0 a1))), (60, (.int .u32 (Vr .u32 b1 (bOr .u32 a0 a1)))), (61, (.int .u32 a0)), (62, (.int .u32 a1)), (63, (.int .u32 (Vr .u32 a0 a1))), (64, (.int .u32 (bOr .u32 (Vr .u32 b1 (bOr .u32 a0 a1)) (Vr .u32 a0 a1)))), (65, (.int .u32 (IntKind.wrap .u32 (b5 + (bOr .u32 (Vr .u32 b1 (bOr .u32 a0 a1)) (Vr .u32 a0 a1)))))), (13, (.int .u32 (IntKind.wrap .u32 (b5 + (bOr .u32 (Vr .u32 b1 (bOr .u32 a0 a1)) (Vr .u32 a0 a1))))))] ?_
   refine iF ?_
   refine aQ ?_
   obtain ⟨f6, f7, f8, H⟩ := Js H
   obtain ⟨d6, hyl1878⟩ : ∃ y, (List.drop (Int.toNat 1) (List.take (Int.toNat (ln p)) p)) = y := ⟨_, rfl⟩
   rw [hyl1878] at H
   obtain ⟨j2, j3, j4, H⟩ := Js H
   obtain ⟨d7, hyl1882⟩ : ∃ y, (List.drop (Int.toNat 0) (List.take (Int.toNat 7) p)) = y := ⟨_, rfl⟩
   rw [hyl1882] at H
   obtain ⟨b6, hyl1883, H⟩ := Vp H
   have hnl1883 : List.length b6 = List.length p := by rw [← hyl1883]; exact Nz (cut_dl f6 f7 f8 hyl1878)
   refine aG [GEq (lv (Nw (Qg .u32).sz 8 (Int.toNat 1) (some ⟨o, 0, none⟩)) d6 (8 - Int.toNat 1)), GEq (lv (Nw (Qg .u32).sz 8 (Int.toNat 0) (some ⟨o, 0, none⟩)) d7 (8 - Int.toNat 0)), GEq (iv (min (ln d7) (((List.length d6) : Nat) : Int)))] [2] [sG [] [] [] w0 [Q7 512 (Qg .u32) g5 8 p1, Q7 359 (Qg .u32) g9 64 p3, Q7 512 (Qg .u32) a7 8 (List.replicate 8 0), Q7 512 (Qg .u32) o 8 p, Q7 359 (Qg .u32) a4 64 u], sG [2] [(iv (min (ln d7) (((List.length d6) : Nat) : Int)))] [] w0 [Q7 512 (Qg .u32) g5 8 p1, Q7 359 (Qg .u32) g9 64 p3, Q7 512 (Qg .u32) a7 8 (List.replicate 8 0), Q7 512 (Qg .u32) o 8 b6, Q7 359 (Qg .u32) a4 64 u]] 3 1 ⟨trivial, SP.drew ad6⟩ ?_ ?_
   iterate 3 refine And.intro ?_ ?_
   exact trivial
   ·refine oL 0 ?_
    rintro P W hs f ⟨-, ad7⟩
    refine kM (kc (kS hs 5 (pt o 0)) k0) fun c => ?_
    refine Jv (e := (Qg .u32)) (l := p) (l' := d6) (m := 8) (g := o) (T := 512) (E := 43) (x := (.tmp 5)) (lo := (some (.const (.int .i64 (1))))) (hi := none) (i := 1) (j := (ln p)) (q := 3) (d := (some 66)) (k := 0) K rfl K K K ⟨.i64, K⟩ rfl ad7 rfl f6 f7 f8 hyl1878 ?_
    exact eK c
   ·refine oL 0 ?_
    rintro P W hs f ⟨-, ad8⟩
    refine kM (kc (kS hs 5 (pt o 0)) k0) fun c => ?_
    refine Jv (e := (Qg .u32)) (l := p) (l' := d7) (m := 8) (g := o) (T := 512) (E := 43) (x := (.tmp 5)) (lo := none) (hi := (some (.const (.int .i64 (7))))) (i := 0) (j := 7) (q := 3) (d := (some 67)) (k := 1) K rfl K K K rfl ⟨.i64, K⟩ ad8 rfl j2 j3 j4 hyl1882 ?_
    exact eK c
   ·refine oH 0 1 ?_
    rintro P W hs f ⟨-, h2⟩
    refine kM (kc (kA f 0 66) (kc (kA f 1 67) k0)) fun c => ?_
    refine Dk (e := (Qg .u32)) (l := p) (y' := d7) (l' := b6) (m := 8) (g := o) (lo := (Int.toNat 1)) (dl := (List.length d6)) (T := 518) (T2 := 518) (E := 43) (x := (.tmp 66)) (y := (.tmp 67)) (i := 3) (A := (Nw (Qg .u32).sz 8 (Int.toNat 1) (some ⟨o, 0, none⟩))) (dc := (8 - Int.toNat 1)) (A2 := (Nw (Qg .u32).sz 8 (Int.toNat 0) (some ⟨o, 0, none⟩))) (c2 := (8 - Int.toNat 0)) (d := (some 68)) (k := 2) K rfl K K K K rfl h2 rfl (cut_hA (e := (Qg .u32)) (Qv (SP.get h2 (i := 3) rfl)) f6 f7 f8 hyl1878) (cut_dl f6 f7 f8 hyl1878) ((G9 j2 j3 j4 hyl1882) W (Qp (SP.get h2 (i := 3) rfl))) hyl1883 ?_
    intro ad9 j5 _
    have ae0 : SP [] w0 ad9 [Q7 512 (Qg .u32) g5 8 p1, Q7 359 (Qg .u32) g9 64 p3, Q7 512 (Qg .u32) a7 8 (List.replicate 8 0), Q7 512 (Qg .u32) o 8 b6, Q7 359 (Qg .u32) a4 64 u] := j5
    clear j5
    refine ⟨_, Qb c, rfl, ?_⟩
    exact (ai (ai rfl (trivial)) ae0)
   rintro P am0 hs hf ⟨⟨am1, -⟩, f9⟩
   refine Vy _ (kc (kT hs 2 (pt g5 0)) (kc (kT hs 3 (pt g9 0)) (kc (kT hs 4 (pt a7 0)) (kc (kT hs 5 (pt o 0)) (kc (kT hs 6 (pt a4 0)) (kc (kT hs 12 (.int .u32 (IntKind.wrap .u32 ((IntKind.wrap .u32 ((IntKind.wrap .u32 ((IntKind.wrap .u32 (a8 + a9)) + (Vw .u32 b0 (Vr .u32 a3 (Vw .u32 a5 a6))))) + b2)) + b3)))) (kc (kT hs 13 (.int .u32 (IntKind.wrap .u32 (b5 + (bOr .u32 (Vr .u32 b1 (bOr .u32 a0 a1)) (Vr .u32 a0 a1)))))) (kc (kT hs 17 (iv s)) k0)))))))) ?_
   refine aR ?_
   refine iR 3 3 [(69, (.int .u32 (IntKind.wrap .u32 ((IntKind.wrap .u32 ((IntKind.wrap .u32 ((IntKind.wrap .u32 (a8 + a9)) + (Vw .u32 b0 (Vr .u32 a3 (Vw .u32 a5 a6))))) + b2)) + b3)))), (70, (.int .u32 (IntKind.wrap .u32 (b5 + (bOr .u32 (Vr .u32 b1 (bOr .u32 a0 a1)) (Vr .u32 a0 a1)))))), (71, (.int .u32 (IntKind.wrap .u32 ((IntKind.wrap .u32 ((IntKind.wrap .u32 ((IntKind.wrap .u32 ((IntKind.wrap .u32 (a8 + a9)) + (Vw .u32 b0 (Vr .u32 a3 (Vw .u32 a5 a6))))) + b2)) + b3)) + (IntKind.wrap .u32 (b5 + (bOr .u32 (Vr .u32 b1 (bOr .u32 a0 a1)) (Vr .u32 a0 a1))))))))] ?_
   obtain ⟨g0, j6, j7, ae1, H⟩ := Qn H
   refine iS 4 ?_
   refine Qe (e := (Qg .u32)) (l := b6) (m := 8) (g := o) (T := 512) (E := 43) (x := (.tmp 5)) (ix := (.const (.int .i64 (4)))) (ki := .i64) (iz := 4) (i := 3) (d := (some 72)) (k := 3) K rfl K K K K f9 rfl j6 j7 ?_
   refine jX 5 43 72 o (0 + Int.toNat 4 * (Qg .u32).sz) (.int .u32 g0) 73 (Qi (e := (Qg .u32)) (Qj (Qp (SP.get f9 (i := 3) rfl)) rfl j6 j7) ae1 (j := 0) rfl) ?_
   refine iR 2 7 [(74, (.int .u32 (IntKind.wrap .u32 ((IntKind.wrap .u32 ((IntKind.wrap .u32 ((IntKind.wrap .u32 (a8 + a9)) + (Vw .u32 b0 (Vr .u32 a3 (Vw .u32 a5 a6))))) + b2)) + b3)))), (75, (.int .u32 (IntKind.wrap .u32 (g0 + (IntKind.wrap .u32 ((IntKind.wrap .u32 ((IntKind.wrap .u32 ((IntKind.wrap .u32 (a8 + a9)) + (Vw .u32 b0 (Vr .u32 a3 (Vw .u32 a5 a6))))) + b2)) + b3))))))] ?_
   obtain ⟨am2, j8, j9, am3, H⟩ := Qn H
   refine iS 8 ?_
   refine Qe (e := (Qg .u32)) (l := b6) (m := 8) (g := o) (T := 512) (E := 43) (x := (.tmp 5)) (ix := (.const (.int .i64 (0)))) (ki := .i64) (iz := 0) (i := 3) (d := (some 76)) (k := 7) K rfl K K K K f9 rfl j8 j9 ?_
   obtain ⟨g1, hyl1912, H⟩ := Vp H
   have hnl1912 : List.length g1 = List.length b6 := by rw [← hyl1912, List.length_set]
   refine iS 9 ?_
   refine Vf (e := (Qg .u32)) (t := 43) (x := (.tmp 76)) (y := (.tmp 71)) (l := b6) (iz := 0) (m := 8) (g := o) (b := o) (off := 0) (i := 3) (v := (.int .u32 (IntKind.wrap .u32 ((IntKind.wrap .u32 ((IntKind.wrap .u32 ((IntKind.wrap .u32 ((IntKind.wrap .u32 (a8 + a9)) + (Vw .u32 b0 (Vr .u32 a3 (Vw .u32 a5 a6))))) + b2)) + b3)) + (IntKind.wrap .u32 (b5 + (bOr .u32 (Vr .u32 b1 (bOr .u32 a0 a1)) (Vr .u32 a0 a1)))))))) (x' := (IntKind.wrap .u32 ((IntKind.wrap .u32 ((IntKind.wrap .u32 ((IntKind.wrap .u32 ((IntKind.wrap .u32 (a8 + a9)) + (Vw .u32 b0 (Vr .u32 a3 (Vw .u32 a5 a6))))) + b2)) + b3)) + (IntKind.wrap .u32 (b5 + (bOr .u32 (Vr .u32 b1 (bOr .u32 a0 a1)) (Vr .u32 a0 a1))))))) (d := none) (k := 8) K rfl rfl K K f9 rfl rfl j9 j8 rfl K ?_
   rw [hyl1912]
   intro am4 k1
   refine In.known [] trivial ?_
   obtain ⟨am5, k2, l0, am6, H⟩ := Qn H
   refine iS 10 ?_
   refine Qe (e := (Qg .u32)) (l := g1) (m := 8) (g := o) (T := 512) (E := 43) (x := (.tmp 5)) (ix := (.const (.int .i64 (4)))) (ki := .i64) (iz := 4) (i := 3) (d := (some 77)) (k := 9) K rfl K K K K k1 rfl k2 l0 ?_
   obtain ⟨l1, hyl1920, H⟩ := Vp H
   have hnl1920 : List.length l1 = List.length g1 := by rw [← hyl1920, List.length_set]
   refine iS 11 ?_
   refine Vf (e := (Qg .u32)) (t := 43) (x := (.tmp 77)) (y := (.tmp 75)) (l := g1) (iz := 4) (m := 8) (g := o) (b := o) (off := 0) (i := 3) (v := (.int .u32 (IntKind.wrap .u32 (g0 + (IntKind.wrap .u32 ((IntKind.wrap .u32 ((IntKind.wrap .u32 ((IntKind.wrap .u32 (a8 + a9)) + (Vw .u32 b0 (Vr .u32 a3 (Vw .u32 a5 a6))))) + b2)) + b3)))))) (x' := (IntKind.wrap .u32 (g0 + (IntKind.wrap .u32 ((IntKind.wrap .u32 ((IntKind.wrap .u32 ((IntKind.wrap .u32 (a8 + a9)) + (Vw .u32 b0 (Vr .u32 a3 (Vw .u32 a5 a6))))) + b2)) + b3))))) (d := none) (k := 10) K rfl rfl K K k1 rfl rfl l0 k2 rfl K ?_
   rw [hyl1920]
   intro am7 ae2
   refine In.known [] trivial ?_
   refine iF ?_
   refine aR ?_
   refine iR 2 2 [(78, (iv (IntKind.wrap .i64 (s + 1)))), (17, (iv (IntKind.wrap .i64 (s + 1))))] ?_
   refine iF ?_
   exact ⟨l1, (IntKind.wrap .i64 (s + 1)), ⟨K, K, K, K, K, K, trivial⟩, SP.sel ae2 [0, 1, 2, 3, 4] rfl rfl, H⟩
  refine At.exit K (id := 0) K ?_
  refine aQ ?_
  refine aC ?_
  refine iR 1 1 [(79, (iv 0))] ?_
  refine iF ?_
  refine Xu K (id := 2) K ?_
  refine U1 K (fun f5 ρ w => ∃ (b4 : (List Int)) (a2 : Int), Z5 ρ [(2, (pt g5 0)), (4, (pt a7 0)), (5, (pt o 0)), (79, (iv a2))] ∧ SP [] w0 w [Q7 512 (Qg .u32) g5 8 p1, Q7 512 (Qg .u32) a7 8 (List.replicate 8 0), Q7 512 (Qg .u32) o 8 b4] ∧ V3 (Vc p1 p3 u f4) p1 f5 b4 a2 = some r) (by rintro ρ w ⟨b4, a2, hk, hs, H⟩; cases H) ?_ Ji ?_
  ·rintro f5 ρ am8 ⟨b4, a2, hk, d0, H⟩
   refine At.known _ hk ?_
   replace H := (show Zk (Vc p1 p3 u f4) (V3 (Vc p1 p3 u f4) p1 f5) p1 b4 a2 = some r from H)
   unfold Zk at H
   have am9 := Qv (SP.get d0 (i := 0) rfl)
   have an0 := Qv (SP.get d0 (i := 1) rfl)
   have ae3 := Qv (SP.get d0 (i := 2) rfl)
   refine aC ?_
   refine iR 1 1 [(80, (bv (decide (a2 < 8))))] ?_
   refine iF ?_
   refine aQ ?_
   refine cD 80 H (fun H => ?_) fun H => ?_
   ·refine At.skip K ?_
    refine aQ ?_
    refine Xu K (id := 3) K ?_
    refine aC ?_
    refine iR 2 2 [(81, (iv a2)), (14, (iv a2))] ?_
    refine iF ?_
    obtain ⟨d8, l2, l3, ae4, H⟩ := Qn H
    obtain ⟨d9, l4, l5, ae5, H⟩ := Qn H
    obtain ⟨an1, l6, l7, an2, H⟩ := Qn H
    obtain ⟨h3, hyl2109, H⟩ := Vp H
    have hnl2109 : List.length h3 = List.length b4 := by rw [← hyl2109, List.length_set]
    refine aG [GEq (iv a2), Vk (some ⟨o, 0, none⟩) (Qg .u32).sz a2, GEq (.int .u32 d8), GEq (iv a2), Vk (some ⟨g5, 0, none⟩) (Qg .u32).sz a2, GEq (.int .u32 d9), GEq (.int .u32 (IntKind.wrap .u32 (d8 + d9))), Vk (some ⟨o, 0, none⟩) (Qg .u32).sz a2, Ii] [8] [sG [] [] [] w0 [Q7 512 (Qg .u32) g5 8 p1, Q7 512 (Qg .u32) a7 8 (List.replicate 8 0), Q7 512 (Qg .u32) o 8 b4], sG [8] [undef] [] w0 [Q7 512 (Qg .u32) g5 8 p1, Q7 512 (Qg .u32) a7 8 (List.replicate 8 0), Q7 512 (Qg .u32) o 8 h3]] 9 1 ⟨trivial, SP.drew d0⟩ ?_ ?_
    iterate 9 refine And.intro ?_ ?_
    exact trivial
    ·exact oU (hC (hS 14 (iv a2)) (h0))
    ·refine oL 0 ?_
     rintro P W hs f ⟨-, ae6⟩
     refine kM (kc (kS hs 5 (pt o 0)) (kc (kA f 0 82) k0)) fun c => ?_
     refine Qe (e := (Qg .u32)) (l := b4) (m := 8) (g := o) (T := 512) (E := 43) (x := (.tmp 5)) (ix := (.tmp 82)) (ki := .i64) (iz := a2) (i := 2) (d := (some 83)) (k := 1) K rfl K K K K ae6 rfl l2 l3 ?_
     exact ⟨rfl, _, Qb c, ⟨o, 0, rfl, rfl⟩⟩
    ·refine oL 0 ?_
     rintro P W hs f ⟨-, ae7⟩
     obtain ⟨ae8, ae9, af0, e83⟩ := f 1 83 K
     refine kM (kc e83 k0) fun c => ?_
     refine sC 43 83 ae8 (ae9 + Int.toNat a2 * (Qg .u32).sz) (.int .u32 d8) 84 (Qi (e := (Qg .u32)) (Qj (Qp (SP.get ae7 (i := 2) rfl)) af0 l2 l3) ae4 (j := 0) rfl) ?_
     exact eK c
    ·exact oU (hC (hS 14 (iv a2)) (h0))
    ·refine oL 0 ?_
     rintro P W hs f ⟨-, af2⟩
     refine kM (kc (kS hs 2 (pt g5 0)) (kc (kA f 3 85) k0)) fun c => ?_
     refine Qe (e := (Qg .u32)) (l := p1) (m := 8) (g := g5) (T := 512) (E := 43) (x := (.tmp 2)) (ix := (.tmp 85)) (ki := .i64) (iz := a2) (i := 0) (d := (some 86)) (k := 4) K rfl K K K K af2 rfl l4 l5 ?_
     exact ⟨rfl, _, Qb c, ⟨g5, 0, rfl, rfl⟩⟩
    ·refine oL 0 ?_
     rintro P W hs f ⟨-, af3⟩
     obtain ⟨af4, af5, af6, e86⟩ := f 4 86 K
     refine kM (kc e86 k0) fun c => ?_
     refine sC 43 86 af4 (af5 + Int.toNat a2 * (Qg .u32).sz) (.int .u32 d9) 87 (Qi (e := (Qg .u32)) (Qj (Qp (SP.get af3 (i := 0) rfl)) af6 l4 l5) ae5 (j := 0) rfl) ?_
     exact eK c
    ·exact oU (hC (hA 2 84) (hC (hA 5 87) (h0)))
    ·refine oL 0 ?_
     rintro P W hs f ⟨-, af8⟩
     refine kM (kc (kS hs 5 (pt o 0)) (kc (kA f 0 82) k0)) fun c => ?_
     refine Qe (e := (Qg .u32)) (l := b4) (m := 8) (g := o) (T := 512) (E := 43) (x := (.tmp 5)) (ix := (.tmp 82)) (ki := .i64) (iz := a2) (i := 2) (d := (some 89)) (k := 7) K rfl K K K K af8 rfl l6 l7 ?_
     exact ⟨rfl, _, Qb c, ⟨o, 0, rfl, rfl⟩⟩
    ·refine oH 0 1 ?_
     rintro P W hs f ⟨-, af9⟩
     obtain ⟨ag0, ag1, ag2, e89⟩ := f 7 89 K
     refine kM (kc e89 (kc (kA f 6 88) k0)) fun c => ?_
     refine Vf (e := (Qg .u32)) (t := 43) (x := (.tmp 89)) (y := (.tmp 88)) (l := b4) (iz := a2) (m := 8) (g := o) (b := ag0) (off := ag1) (i := 2) (v := (.int .u32 (IntKind.wrap .u32 (d8 + d9)))) (x' := (IntKind.wrap .u32 (d8 + d9))) (d := none) (k := 8) K rfl ag2 K K af9 rfl rfl l7 l6 rfl K ?_
     rw [hyl2109]
     intro an3 ag4
     refine ⟨_, Qb c, trivial, ?_⟩
     exact (ai (ai rfl (trivial)) ag4)
    rintro P an4 hs hf ⟨⟨an5, -⟩, ag5⟩
    refine Vy _ (kc (kT hs 2 (pt g5 0)) (kc (kT hs 4 (pt a7 0)) (kc (kT hs 5 (pt o 0)) (kc (kT hs 79 (iv a2)) k0)))) ?_
    refine aR ?_
    refine iR 2 2 [(90, (iv (IntKind.wrap .i64 (a2 + 1)))), (79, (iv (IntKind.wrap .i64 (a2 + 1))))] ?_
    refine iF ?_
    exact ⟨h3, (IntKind.wrap .i64 (a2 + 1)), ⟨K, K, K, K, trivial⟩, SP.sel ag5 [0, 1, 2] rfl rfl, H⟩
   refine At.exit K (id := 2) K ?_
   refine aC ?_
   refine iS 1 ?_
   refine Vl (e := (Qg .u32)) (l := b4) (m := 8) (t := 512) (x := (.tmp 5)) (g := o) (i := 2) (d := (some 91)) (k := 0) K rfl K d0 rfl K K ?_
   refine iS 2 ?_
   refine Vb (e := (Qg .u32)) (l := (List.replicate 8 0)) (l' := b4) (m := 8) (t := 512) (x := (.tmp 4)) (y := (.tmp 91)) (g := a7) (i := 1) (d := none) (k := 1) K rfl K K ae3 d0 rfl K ?_
   intro an6 l8
   refine iF ?_
   refine At.ret K ?_
   refine ⟨(.agg (Qd (Qg .u32) b4).toArray), Bb K (Y0 (e := (Qg .u32)) (l := b4) (a := 4) (t := 512) K (SP.get l8 (i := 1) rfl) K K), ?_⟩
   obtain rfl := Zd H
   exact ⟨rfl, SP.sel l8 [] rfl rfl⟩
  exact ⟨p, 0, ⟨K, K, K, K, trivial⟩, SP.sel c0 [0, 2, 3] rfl rfl, H⟩
 exact ⟨p1, 0, ⟨K, K, K, K, K, K, trivial⟩, SP.sel t8 [0, 1, 2, 3, 4] rfl rfl, H⟩
def Ys (g : (List Int) → Int → Option ((List UInt8))) (h : (List UInt8) → Int → Option ((List UInt8))) (i : (List Int) → Int → Option ((List UInt8))) (c : (List UInt8) → Int → Option ((List UInt8))) (d : (List Int)) (b : (List UInt8)) (a : Int) : Option ((List UInt8)) :=
  (cond (decide (a < 32)) ((idx d (IntKind.wrap .i64 (Int.tdiv a 4))).bind fun e => ((chk (decide (0 ≤ (IntKind.wrap .i64 (24 - (IntKind.wrap .i64 ((Int.tmod a 4) * 8))))))).bind fun _ => ((idx b a).bind fun j => ((some (List.set b (Int.toNat a) (D5 (IntKind.wrap .u8 (Yr .u32 e (IntKind.wrap .i64 (24 - (IntKind.wrap .i64 ((Int.tmod a 4) * 8))))))))).bind fun f => (c f (IntKind.wrap .i64 (a + 1))))))) (some (b)))
def Xj (a : (List Int) → Int → Option ((List UInt8))) (b : (List UInt8) → Int → Option ((List UInt8))) (c : (List Int) → Int → Option ((List UInt8))) (d : (List Int)) : Nat → (List UInt8) → Int → Option ((List UInt8))
  | 0, _, _ => none
  | f + 1, e, g => Ys a b c (Xj a b c d f) d e g
def Yt (g : (List Int) → Int → Option ((List UInt8))) (h : (List UInt8) → Int → Option ((List UInt8))) (b : (List Int) → Int → Option ((List UInt8))) (i : Int) (c : (List UInt8)) (d : (List Int)) (a : Int) : Option ((List UInt8)) :=
  (cond (decide (a < i)) ((sub c a ((List.length c : Nat) : Int)).bind fun j => ((Yk j).bind fun e => ((chk (Nat.beq (List.length e) 64)).bind fun _ => ((Ze d e).bind fun f => ((chk (Nat.beq (List.length f) 8)).bind fun _ => (b f (IntKind.wrap .i64 (a + 64)))))))) (Xj g h b d Ji (List.replicate 32 (0 : UInt8)) 0))
def V5 (a : (List Int) → Int → Option ((List UInt8))) (b : (List UInt8) → Int → Option ((List UInt8))) (c : Int) (d : (List UInt8)) : Nat → (List Int) → Int → Option ((List UInt8))
  | 0, _, _ => none
  | f + 1, e, g => Yt a b (V5 a b c d f) c d e g
def Yu (e : (List Int) → Int → Option ((List UInt8))) (d : (List UInt8) → Int → Option ((List UInt8))) (p1 : (List UInt8)) (f : (List Int)) (b : Int) (c : (List UInt8)) (a : Int) : Option ((List UInt8)) :=
  (cond (decide (a < 8)) ((chk (decide (0 ≤ (IntKind.wrap .i64 (8 * a))))).bind fun _ => ((idx c (IntKind.wrap .i64 ((IntKind.wrap .i64 (b - 1)) - a))).bind fun h => ((some (List.set c (Int.toNat (IntKind.wrap .i64 ((IntKind.wrap .i64 (b - 1)) - a))) (D5 (IntKind.wrap .u8 (Yr .u64 (IntKind.wrap .u64 ((IntKind.wrap .u64 ((List.length p1 : Nat) : Int)) * 8)) (IntKind.wrap .i64 (8 * a))))))).bind fun g => (d g (IntKind.wrap .i64 (a + 1)))))) (V5 e d b c Ji f 0))
def Q8 (a : (List Int) → Int → Option ((List UInt8))) (p1 : (List UInt8)) (b : (List Int)) (c : Int) : Nat → (List UInt8) → Int → Option ((List UInt8))
  | 0, _, _ => none
  | f + 1, d, e => Yu a (Q8 a p1 b c f) p1 b c d e
def Xk (a : (List Int) → Int → Option ((List UInt8))) (p1 : (List UInt8)) (b : (List Int)) (c : (List UInt8)) (d : Int) : Option ((List UInt8)) :=
  (Q8 a p1 b d Ji c 0)
def Yv (b : (List Int) → Int → Option ((List UInt8))) (p1 : (List UInt8)) (c : (List Int)) (d : Int) : Option ((List UInt8)) :=
  (cond (decide (d < (IntKind.wrap .i64 ((IntKind.wrap .i64 (Int.tdiv ((List.length p1 : Nat) : Int) 64)) * 64)))) ((sub p1 d ((List.length p1 : Nat) : Int)).bind fun i => ((Yk i).bind fun e => ((chk (Nat.beq (List.length e) 64)).bind fun _ => ((Ze c e).bind fun f => ((chk (Nat.beq (List.length f) 8)).bind fun _ => (b f (IntKind.wrap .i64 (d + 64)))))))) ((sub p1 (IntKind.wrap .i64 ((IntKind.wrap .i64 (Int.tdiv ((List.length p1 : Nat) : Int) 64)) * 64)) ((List.length p1 : Nat) : Int)).bind fun a => ((some (cpy (List.replicate 128 (0 : UInt8)) 0 (List.length (List.replicate 128 (0 : UInt8))) a)).bind fun g => ((idx g (min ((List.length a : Nat) : Int) (((List.length (List.replicate 128 (0 : UInt8))) : Nat) : Int))).bind fun j => ((some (List.set g (Int.toNat (min ((List.length a : Nat) : Int) (((List.length (List.replicate 128 (0 : UInt8))) : Nat) : Int))) (128 : UInt8))).bind fun h => (cond (decide ((IntKind.wrap .i64 ((IntKind.wrap .i64 ((min ((List.length a : Nat) : Int) (((List.length (List.replicate 128 (0 : UInt8))) : Nat) : Int)) + 1)) + 8)) > 64)) (Xk b p1 c h 128) (Xk b p1 c h 64)))))))
def Qm (p1 : (List UInt8)) : Nat → (List Int) → Int → Option ((List UInt8))
  | 0, _, _ => none
  | f + 1, a, b => Yv  (Qm p1 f) p1 a b
def Vi (p1 : (List UInt8)) : Option ((List UInt8)) :=
  ((Xv ).bind fun z9 => ((chk (Nat.beq (List.length z9) 8)).bind fun _ => (Qm p1 Ji z9 0)))
set_option maxHeartbeats 40000000 in
theorem N0 (A2 : Option Addr) (c3 : Nat) (p1 : Bs) (w0 : World) (d0 : RdT eU8 w0 A2 c3 p1) (r : (Bs)) (H : Vi p1 = some r) :
  Calls Tryz.prog 395 #[(lv A2 p1 c3)] w0 (fun e W => e = .returned (.agg (Qd eU8 r).toArray) ∧ SP [] w0 W []) := by
 unfold Vi at H
 refine Z1 (n := 84) Tryz.func395 K K K ?_
 have h4 := SP.start [] w0
 refine aC ?_
 refine iS 1 ?_
 refine Q1 (e := eU8) (l := (List.replicate 32 (0 : UInt8))) (m := 32) (t := 103) (z := .agg (Qd eU8 (List.replicate 32 (0 : UInt8))).toArray) (d := (some 2)) (k := 0) K rfl K rfl rfl K h4 ?_
 intro g5 w6 h5
 refine iF ?_
 refine aC ?_
 obtain ⟨z9, h6, H⟩ := Va H
 obtain ⟨d4, H⟩ := V7 H
 replace d4 := Nat.eq_of_beq_eq_true d4
 refine iS 1 ?_
 refine cS h5 409 #[] #[] 13 Tryz.call409 (Jw   w6  z9 h6) ?_
 intro m4 h7
 refine iS 2 ?_
 refine Q1 (e := (Qg .u32)) (l := (List.replicate 8 0)) (m := 8) (t := 512) (z := .agg (Qd (Qg .u32) (List.replicate 8 0)).toArray) (d := (some 3)) (k := 1) K rfl K rfl rfl K h7 ?_
 intro f m5 h8
 refine iS 3 ?_
 refine Vb (e := (Qg .u32)) (l := (List.replicate 8 0)) (l' := z9) (m := 8) (t := 512) (x := (.tmp 3)) (y := (.tmp 13)) (g := f) (i := 1) (d := none) (k := 2) K rfl K K d4 h8 rfl K ?_
 intro m6 h9
 refine iF ?_
 refine aC ?_
 refine iR 5 5 [(14, (lv A2 p1 c3)), (15, (iv (ln p1))), (16, (iv (IntKind.wrap .i64 (Int.tdiv (ln p1) 64)))), (17, (iv (IntKind.wrap .i64 ((IntKind.wrap .i64 (Int.tdiv (ln p1) 64)) * 64)))), (4, (iv (IntKind.wrap .i64 ((IntKind.wrap .i64 (Int.tdiv (ln p1) 64)) * 64))))] ?_
 refine iF ?_
 refine aQ ?_
 refine aC ?_
 refine iR 1 1 [(5, (iv 0))] ?_
 refine iF ?_
 refine Xu K (id := 0) K ?_
 refine U1 K (fun a1 ρ w => ∃ (o : (List Int)) (a5 : Int), Z5 ρ [(0, (lv A2 p1 c3)), (2, (pt g5 0)), (3, (pt f 0)), (4, (iv (IntKind.wrap .i64 ((IntKind.wrap .i64 (Int.tdiv (ln p1) 64)) * 64)))), (5, (iv a5))] ∧ SP [] w0 w [Q7 103 eU8 g5 32 (List.replicate 32 (0 : UInt8)), Q7 512 (Qg .u32) f 8 o] ∧ Qm p1 a1 o a5 = some r) (by rintro ρ w ⟨o, a5, hk, hs, H⟩; cases H) ?_ Ji ?_
 ·rintro a1 ρ m7 ⟨o, a5, hk, d1, H⟩
  refine At.known _ hk ?_
  replace H := (show Yv (Qm p1 a1) p1 o a5 = some r from H)
  unfold Yv at H
  have m8 := Qv (SP.get d1 (i := 0) rfl)
  have i0 := Qv (SP.get d1 (i := 1) rfl)
  refine aQ ?_
  refine aC ?_
  refine iR 3 3 [(18, (iv a5)), (19, (iv (IntKind.wrap .i64 ((IntKind.wrap .i64 (Int.tdiv (ln p1) 64)) * 64)))), (20, (bv (decide (a5 < (IntKind.wrap .i64 ((IntKind.wrap .i64 (Int.tdiv (ln p1) 64)) * 64))))))] ?_
  refine iF ?_
  refine cD 20 H (fun H => ?_) fun H => ?_
  ·refine At.skip K ?_
   refine aQ ?_
   refine Xu K (id := 1) K ?_
   obtain ⟨e2, e3, e4, H⟩ := Js H
   obtain ⟨d5, hyl8928⟩ : ∃ y, (List.drop (Int.toNat a5) (List.take (Int.toNat (ln p1)) p1)) = y := ⟨_, rfl⟩
   rw [hyl8928] at H
   obtain ⟨b4, i1, H⟩ := Va H
   obtain ⟨d6, H⟩ := V7 H
   replace d6 := Nat.eq_of_beq_eq_true d6
   obtain ⟨b2, i2, H⟩ := Va H
   obtain ⟨d7, H⟩ := V7 H
   replace d7 := Nat.eq_of_beq_eq_true d7
   refine aG [GEq (.agg (Qd (Qg .u32) o).toArray), GEq (lv A2 p1 c3), GEq (iv a5), GEq (lv (Nw eU8.sz c3 (Int.toNat a5) A2) d5 (c3 - Int.toNat a5)), GEq (.agg (Qd (Qg .u32) b4).toArray), GEq (.agg (Qd (Qg .u32) b2).toArray), Ii] [4, 5, 6] [sG [] [] [] w0 [Q7 103 eU8 g5 32 (List.replicate 32 (0 : UInt8)), Q7 512 (Qg .u32) f 8 o], sG [4] [(.agg (Qd (Qg .u32) b4).toArray)] [] w0 [Q7 103 eU8 g5 32 (List.replicate 32 (0 : UInt8)), Q7 512 (Qg .u32) f 8 o], sG [4, 5] [(.agg (Qd (Qg .u32) b4).toArray), (.agg (Qd (Qg .u32) b2).toArray)] [] w0 [Q7 103 eU8 g5 32 (List.replicate 32 (0 : UInt8)), Q7 512 (Qg .u32) f 8 o], sG [4, 5, 6] [(.agg (Qd (Qg .u32) b4).toArray), (.agg (Qd (Qg .u32) b2).toArray), undef] [] w0 [Q7 103 eU8 g5 32 (List.replicate 32 (0 : UInt8)), Q7 512 (Qg .u32) f 8 b2]] 7 3 ⟨trivial, SP.drew d1⟩ ?_ ?_
   iterate 7 refine And.intro ?_ ?_
   exact trivial
   ·refine Owe.light K [0, 1] K (Qc ?_ (Qc ?_ Qz))
    ·rintro P W hs a2 ⟨-, i3⟩
     refine kM (kc (kS hs 3 (pt f 0)) k0) fun u => ?_
     refine Vl (e := (Qg .u32)) (l := o) (m := 8) (t := 512) (x := (.tmp 3)) (g := f) (i := 1) (d := (some 23)) (k := 0) K rfl K i3 rfl K K ?_
     exact eK u
    rintro P W hs a2 ⟨⟨m9, -⟩, i4⟩
    refine kM (kc (kS hs 3 (pt f 0)) k0) fun u => ?_
    refine Vl (e := (Qg .u32)) (l := o) (m := 8) (t := 512) (x := (.tmp 3)) (g := f) (i := 1) (d := (some 23)) (k := 0) K rfl K i4 rfl K K ?_
    exact eK u
   ·exact oU (hC (hS 0 (lv A2 p1 c3)) (h0))
   ·exact oU (hC (hS 5 (iv a5)) (h0))
   ·refine oL 0 ?_
    rintro P W hs a2 ⟨-, i5⟩
    refine kM (kc (kA a2 1 24) (kc (kA a2 2 25) k0)) fun u => ?_
    refine Ju (e := eU8) (l := p1) (m := d5) (A := A2) (c := c3) (T := 51) (E := 5) (x := (.tmp 24)) (lo := (some (.tmp 25))) (hi := none) (i := a5) (j := (ln p1)) (d := (some 26)) (k := 3) K rfl K K K ⟨.i64, K⟩ rfl (RdX.le (RdT.sp d0 i5)) e2 e3 e4 hyl8928 ?_
    exact eK u
   ·refine oH 0 1 ?_
    rintro P W hs a2 ⟨-, e5⟩
    refine kM (kc (kA a2 3 26) k0) fun u => ?_
    refine cS e5 411 #[(.tmp 26)] #[51] 27 Tryz.call411 (Y5 (Nw eU8.sz c3 (Int.toNat a5) A2) (c3 - Int.toNat a5) d5 W ((G9 e2 e3 e4 hyl8928) W (RdT.sp d0 e5)) b4 i1) ?_
    intro o0 i6
    refine ⟨_, Qb u, rfl, ?_⟩
    exact (ai (ai rfl (trivial)) i6)
   ·refine oH 1 2 ?_
    rintro P W hs a2 ⟨⟨e6, -⟩, i7⟩
    refine kN [(23, (.agg (Qd (Qg .u32) o).toArray)), (27, (.agg (Qd (Qg .u32) b4).toArray))] ⟨a2 0 23 K, (Je (h := 4) K).symm.trans e6, trivial⟩ fun u => ?_
    refine cS i7 410 #[(.tmp 23), (.tmp 27)] #[512, 359] 28 Tryz.call410 (Xh  o b4 W i0 d6 b2 i2) ?_
    intro o1 i8
    refine ⟨_, Qb u, rfl, ?_⟩
    exact (ai (ai e6 (ai rfl (trivial))) i8)
   ·refine oH 2 3 ?_
    rintro P W hs a2 ⟨⟨i9, e7, -⟩, j0⟩
    refine kN [(3, (pt f 0)), (28, (.agg (Qd (Qg .u32) b2).toArray))] ⟨(hs 3 K).trans K, (Je (h := 5) K).symm.trans e7, trivial⟩ fun u => ?_
    refine Vb (e := (Qg .u32)) (l := o) (l' := b2) (m := 8) (t := 512) (x := (.tmp 3)) (y := (.tmp 28)) (g := f) (i := 1) (d := none) (k := 6) K rfl K K d7 j0 rfl K ?_
    intro o2 j1
    refine ⟨_, Qb u, trivial, ?_⟩
    exact (ai (ai i9 (ai e7 (ai rfl (trivial)))) j1)
   rintro P o3 hs hf ⟨⟨o4, o5, o6, -⟩, j2⟩
   refine Vy _ (kc (kT hs 0 (lv A2 p1 c3)) (kc (kT hs 2 (pt g5 0)) (kc (kT hs 3 (pt f 0)) (kc (kT hs 4 (iv (IntKind.wrap .i64 ((IntKind.wrap .i64 (Int.tdiv (ln p1) 64)) * 64)))) (kc (kT hs 5 (iv a5)) k0))))) ?_
   refine aR ?_
   refine iR 3 3 [(21, (iv a5)), (22, (iv (IntKind.wrap .i64 (a5 + 64)))), (5, (iv (IntKind.wrap .i64 (a5 + 64))))] ?_
   refine iF ?_
   exact ⟨b2, (IntKind.wrap .i64 (a5 + 64)), ⟨K, K, K, K, K, trivial⟩, SP.sel j2 [0, 1] rfl rfl, H⟩
  refine At.exit K (id := 0) K ?_
  refine aC ?_
  refine iS 1 ?_
  refine Q1 (e := eU8) (l := (List.replicate 128 (0 : UInt8))) (m := 128) (t := 515) (z := .agg (Qd eU8 (List.replicate 128 (0 : UInt8))).toArray) (d := (some 6)) (k := 0) K rfl K rfl rfl K d1 ?_
  intro s o7 j3
  refine iF ?_
  refine aQ ?_
  obtain ⟨e8, e9, f0, H⟩ := Js H
  obtain ⟨a8, hyl9009⟩ : ∃ y, (List.drop (Int.toNat (IntKind.wrap .i64 ((IntKind.wrap .i64 (Int.tdiv (ln p1) 64)) * 64))) (List.take (Int.toNat (ln p1)) p1)) = y := ⟨_, rfl⟩
  rw [hyl9009] at H
  obtain ⟨b5, hyl9010, H⟩ := Vp H
  have hnl9010 : List.length b5 = List.length (List.replicate 128 (0 : UInt8)) := by rw [← hyl9010]; exact Nz (by omega)
  refine aG [GEq (lv (some ⟨s, 0, none⟩) (List.replicate 128 (0 : UInt8)) 128), GEq (lv A2 p1 c3), GEq (iv (IntKind.wrap .i64 ((IntKind.wrap .i64 (Int.tdiv (ln p1) 64)) * 64))), GEq (lv (Nw eU8.sz c3 (Int.toNat (IntKind.wrap .i64 ((IntKind.wrap .i64 (Int.tdiv (ln p1) 64)) * 64))) A2) a8 (c3 - Int.toNat (IntKind.wrap .i64 ((IntKind.wrap .i64 (Int.tdiv (ln p1) 64)) * 64)))), GEq (iv (min (ln a8) (((List.length (List.replicate 128 (0 : UInt8))) : Nat) : Int))), GEq (iv (min (ln a8) (((List.length (List.replicate 128 (0 : UInt8))) : Nat) : Int)))] [4] [sG [] [] [] w0 [Q7 103 eU8 g5 32 (List.replicate 32 (0 : UInt8)), Q7 512 (Qg .u32) f 8 o, Q7 515 eU8 s 128 (List.replicate 128 (0 : UInt8))], sG [4] [(iv (min (ln a8) (((List.length (List.replicate 128 (0 : UInt8))) : Nat) : Int)))] [] w0 [Q7 103 eU8 g5 32 (List.replicate 32 (0 : UInt8)), Q7 512 (Qg .u32) f 8 o, Q7 515 eU8 s 128 b5]] 6 1 ⟨trivial, SP.drew j3⟩ ?_ ?_
  iterate 6 refine And.intro ?_ ?_
  exact trivial
  ·refine oL 0 ?_
   rintro P W hs a2 ⟨-, j4⟩
   refine kM (kc (kS hs 6 (pt s 0)) k0) fun u => ?_
   refine Cp (e := eU8) (l := (List.replicate 128 (0 : UInt8))) (m := 128) (g := s) (T := 515) (E := 5) (x := (.tmp 6)) (q := 2) (d := (some 29)) (k := 0) K rfl K K K j4 rfl ?_
   exact eK u
  ·exact oU (hC (hS 0 (lv A2 p1 c3)) (h0))
  ·exact oU (hC (hS 4 (iv (IntKind.wrap .i64 ((IntKind.wrap .i64 (Int.tdiv (ln p1) 64)) * 64)))) (h0))
  ·refine oL 0 ?_
   rintro P W hs a2 ⟨-, j5⟩
   refine kM (kc (kA a2 1 30) (kc (kA a2 2 31) k0)) fun u => ?_
   refine Ju (e := eU8) (l := p1) (m := a8) (A := A2) (c := c3) (T := 51) (E := 5) (x := (.tmp 30)) (lo := (some (.tmp 31))) (hi := none) (i := (IntKind.wrap .i64 ((IntKind.wrap .i64 (Int.tdiv (ln p1) 64)) * 64))) (j := (ln p1)) (d := (some 32)) (k := 3) K rfl K K K ⟨.i64, K⟩ rfl (RdX.le (RdT.sp d0 j5)) e8 e9 f0 hyl9009 ?_
   exact eK u
  ·refine oH 0 1 ?_
   rintro P W hs a2 ⟨-, f1⟩
   refine kM (kc (kA a2 0 29) (kc (kA a2 3 32) k0)) fun u => ?_
   refine Dk (e := eU8) (l := (List.replicate 128 (0 : UInt8))) (y' := a8) (l' := b5) (m := 128) (g := s) (lo := 0) (dl := (List.length (List.replicate 128 (0 : UInt8)))) (T := 51) (T2 := 51) (E := 5) (x := (.tmp 29)) (y := (.tmp 32)) (i := 2) (A := (some ⟨s, 0, none⟩)) (dc := 128) (A2 := (Nw eU8.sz c3 (Int.toNat (IntKind.wrap .i64 ((IntKind.wrap .i64 (Int.tdiv (ln p1) 64)) * 64))) A2)) (c2 := (c3 - Int.toNat (IntKind.wrap .i64 ((IntKind.wrap .i64 (Int.tdiv (ln p1) 64)) * 64)))) (d := (some 33)) (k := 4) K rfl K K K K rfl f1 rfl (Hv) (by omega) ((G9 e8 e9 f0 hyl9009) W (RdT.sp d0 f1)) hyl9010 ?_
   intro j6 f2 _
   have j7 : SP [] w0 j6 [Q7 103 eU8 g5 32 (List.replicate 32 (0 : UInt8)), Q7 512 (Qg .u32) f 8 o, Q7 515 eU8 s 128 b5] := f2
   clear f2
   refine ⟨_, Qb u, rfl, ?_⟩
   exact (ai (ai rfl (trivial)) j7)
  ·exact oU (hC (hA 4 33) (h0))
  rintro P o8 hs hf ⟨⟨o9, -⟩, f3⟩
  refine Vy _ (kc (kT hs 0 (lv A2 p1 c3)) (kc (kT hs 2 (pt g5 0)) (kc (kT hs 3 (pt f 0)) (kc (kT hs 6 (pt s 0)) (kc (kF hf 5 7) k0))))) ?_
  refine aC ?_
  refine iR 1 1 [(34, (iv (min (ln a8) (((List.length (List.replicate 128 (0 : UInt8))) : Nat) : Int))))] ?_
  obtain ⟨p0, f4, f5, p2, H⟩ := Qn H
  refine iS 2 ?_
  refine Qe (e := eU8) (l := b5) (m := 128) (g := s) (T := 515) (E := 5) (x := (.tmp 6)) (ix := (.tmp 34)) (ki := .i64) (iz := (min (ln a8) (((List.length (List.replicate 128 (0 : UInt8))) : Nat) : Int))) (i := 2) (d := (some 35)) (k := 1) K rfl K K K K f3 rfl f4 f5 ?_
  obtain ⟨d2, hyl9035, H⟩ := Vp H
  have hnl9035 : List.length d2 = List.length b5 := by rw [← hyl9035, List.length_set]
  refine iS 3 ?_
  refine Vf (e := eU8) (t := 5) (x := (.tmp 35)) (y := (.const (.int .u8 (128)))) (l := b5) (iz := (min (ln a8) (((List.length (List.replicate 128 (0 : UInt8))) : Nat) : Int))) (m := 128) (g := s) (b := s) (off := 0) (i := 2) (v := (.int .u8 128)) (x' := (128 : UInt8)) (d := none) (k := 2) K rfl rfl K K f3 rfl rfl f5 f4 rfl K ?_
  rw [hyl9035]
  intro p3 f6
  refine In.known [] trivial ?_
  refine iF ?_
  refine aC ?_
  refine iR 1 1 [(8, (iv 64))] ?_
  refine iF ?_
  refine aQ ?_
  refine aC ?_
  refine iR 4 4 [(36, (iv (min (ln a8) (((List.length (List.replicate 128 (0 : UInt8))) : Nat) : Int)))), (37, (iv (IntKind.wrap .i64 ((min (ln a8) (((List.length (List.replicate 128 (0 : UInt8))) : Nat) : Int)) + 1)))), (38, (iv (IntKind.wrap .i64 ((IntKind.wrap .i64 ((min (ln a8) (((List.length (List.replicate 128 (0 : UInt8))) : Nat) : Int)) + 1)) + 8)))), (39, (bv (decide ((IntKind.wrap .i64 ((IntKind.wrap .i64 ((min (ln a8) (((List.length (List.replicate 128 (0 : UInt8))) : Nat) : Int)) + 1)) + 8)) > 64))))] ?_
  refine iF ?_
  refine At.join (fun ρ w => ∃ (p : Int), Z5 ρ [(0, (lv A2 p1 c3)), (2, (pt g5 0)), (3, (pt f 0)), (6, (pt s 0)), (8, (iv p))] ∧ SP [] w0 w [Q7 103 eU8 g5 32 (List.replicate 32 (0 : UInt8)), Q7 512 (Qg .u32) f 8 o, Q7 515 eU8 s 128 d2] ∧ Xk (Qm p1 a1) p1 o d2 p = some r) ?_ ?_
  ·refine cD 39 H (fun H => ?_) fun H => ?_
   ·refine aR ?_
    refine iR 1 1 [(8, (iv 128))] ?_
    refine iF ?_
    exact ⟨128, ⟨K, K, K, K, K, trivial⟩, SP.sel f6 [0, 1, 2] rfl rfl, H⟩
   refine At.skip K ?_
   exact ⟨64, ⟨K, K, K, K, K, trivial⟩, SP.sel f6 [0, 1, 2] rfl rfl, H⟩
  rintro ρ p4 ⟨p, hk, d3, H⟩
  unfold Xk at H
  first | refine At.known _ hk ?_ | rw [← Xc hk]
  have p5 := Qv (SP.get d3 (i := 0) rfl)
  have p6 := Qv (SP.get d3 (i := 1) rfl)
  have p7 := Qv (SP.get d3 (i := 2) rfl)
  refine aQ ?_
  refine aC ?_
  refine iR 1 1 [(40, (iv 0))] ?_
  refine iF ?_
  refine Xu K (id := 2) K ?_
  refine U1 K (fun a9 ρ w => ∃ (a3 : Bs) (a4 : Int), Z5 ρ [(0, (lv A2 p1 c3)), (2, (pt g5 0)), (3, (pt f 0)), (6, (pt s 0)), (8, (iv p)), (40, (iv a4))] ∧ SP [] w0 w [Q7 103 eU8 g5 32 (List.replicate 32 (0 : UInt8)), Q7 512 (Qg .u32) f 8 o, Q7 515 eU8 s 128 a3] ∧ Q8 (Qm p1 a1) p1 o p a9 a3 a4 = some r) (by rintro ρ w ⟨a3, a4, hk, hs, H⟩; cases H) ?_ Ji ?_
  ·rintro a9 ρ p8 ⟨a3, a4, hk, b8, H⟩
   refine At.known _ hk ?_
   replace H := (show Yu (Qm p1 a1) (Q8 (Qm p1 a1) p1 o p a9) p1 o p a3 a4 = some r from H)
   unfold Yu at H
   have p9 := Qv (SP.get b8 (i := 0) rfl)
   have q0 := Qv (SP.get b8 (i := 1) rfl)
   have q1 := Qv (SP.get b8 (i := 2) rfl)
   refine aC ?_
   refine iR 1 1 [(41, (bv (decide (a4 < 8))))] ?_
   refine iF ?_
   refine aQ ?_
   refine cD 41 H (fun H => ?_) fun H => ?_
   ·refine At.skip K ?_
    refine aQ ?_
    refine Xu K (id := 3) K ?_
    refine aC ?_
    refine iR 2 2 [(42, (iv a4)), (9, (iv a4))] ?_
    refine iF ?_
    refine aR ?_
    refine iR 10 10 [(43, (iv p)), (44, (iv (IntKind.wrap .i64 (p - 1)))), (45, (iv a4)), (46, (iv (IntKind.wrap .i64 ((IntKind.wrap .i64 (p - 1)) - a4)))), (47, (lv A2 p1 c3)), (48, (iv (ln p1))), (49, (.int .u64 (IntKind.wrap .u64 (ln p1)))), (50, (.int .u64 (IntKind.wrap .u64 ((IntKind.wrap .u64 (ln p1)) * 8)))), (51, (iv a4)), (52, (iv (IntKind.wrap .i64 (8 * a4))))] ?_
    obtain ⟨hl11181, H⟩ := V7 H
    refine iS 11 ?_
    refine Qr.shift (op := .shr) (T := 358) (T' := 3) (x := (.tmp 50)) (y := (.tmp 52)) (kx := .u64) (ky := .i64) (a := (IntKind.wrap .u64 ((IntKind.wrap .u64 (ln p1)) * 8))) (b := (IntKind.wrap .i64 (8 * a4))) (v := (.int .u64 (Yr .u64 (IntKind.wrap .u64 ((IntKind.wrap .u64 (ln p1)) * 8)) (IntKind.wrap .i64 (8 * a4))))) (d := (some 53)) (k := 10) K rfl K K (of_decide_eq_true hl11181) rfl ?_
    refine iR 1 12 [(54, (.int .u8 (IntKind.wrap .u8 (Yr .u64 (IntKind.wrap .u64 ((IntKind.wrap .u64 (ln p1)) * 8)) (IntKind.wrap .i64 (8 * a4))))))] ?_
    obtain ⟨q2, f7, f8, q3, H⟩ := Qn H
    refine iS 13 ?_
    refine Qe (e := eU8) (l := a3) (m := 128) (g := s) (T := 515) (E := 5) (x := (.tmp 6)) (ix := (.tmp 46)) (ki := .i64) (iz := (IntKind.wrap .i64 ((IntKind.wrap .i64 (p - 1)) - a4))) (i := 2) (d := (some 55)) (k := 12) K rfl K K K K b8 rfl f7 f8 ?_
    obtain ⟨f9, hyl11186, H⟩ := Vp H
    have hnl11186 : List.length f9 = List.length a3 := by rw [← hyl11186, List.length_set]
    refine iS 14 ?_
    refine Vf (e := eU8) (t := 5) (x := (.tmp 55)) (y := (.tmp 54)) (l := a3) (iz := (IntKind.wrap .i64 ((IntKind.wrap .i64 (p - 1)) - a4))) (m := 128) (g := s) (b := s) (off := 0) (i := 2) (v := (.int .u8 (IntKind.wrap .u8 (Yr .u64 (IntKind.wrap .u64 ((IntKind.wrap .u64 (ln p1)) * 8)) (IntKind.wrap .i64 (8 * a4)))))) (x' := (D5 (IntKind.wrap .u8 (Yr .u64 (IntKind.wrap .u64 ((IntKind.wrap .u64 (ln p1)) * 8)) (IntKind.wrap .i64 (8 * a4)))))) (d := none) (k := 13) K rfl rfl K K b8 rfl rfl f8 f7 (by show [Value.int .u8 (((D5 (IntKind.wrap .u8 (Yr .u64 (IntKind.wrap .u64 ((IntKind.wrap .u64 (ln p1)) * 8)) (IntKind.wrap .i64 (8 * a4)))))).toNat : Int)] = _; rw [D6 (D7 _)]) K ?_
    rw [hyl11186]
    intro q4 j8
    refine In.known [] trivial ?_
    refine iF ?_
    refine aR ?_
    refine iR 2 2 [(56, (iv (IntKind.wrap .i64 (a4 + 1)))), (40, (iv (IntKind.wrap .i64 (a4 + 1))))] ?_
    refine iF ?_
    exact ⟨f9, (IntKind.wrap .i64 (a4 + 1)), ⟨K, K, K, K, K, K, trivial⟩, SP.sel j8 [0, 1, 2] rfl rfl, H⟩
   refine At.exit K (id := 2) K ?_
   refine aQ ?_
   refine aC ?_
   refine iR 1 1 [(10, (iv 0))] ?_
   refine iF ?_
   refine Xu K (id := 4) K ?_
   refine U1 K (fun b9 ρ w => ∃ (a7 : (List Int)) (a6 : Int), Z5 ρ [(2, (pt g5 0)), (3, (pt f 0)), (6, (pt s 0)), (8, (iv p)), (10, (iv a6))] ∧ SP [] w0 w [Q7 103 eU8 g5 32 (List.replicate 32 (0 : UInt8)), Q7 512 (Qg .u32) f 8 a7, Q7 515 eU8 s 128 a3] ∧ V5 (Qm p1 a1) (Q8 (Qm p1 a1) p1 o p a9) p a3 b9 a7 a6 = some r) (by rintro ρ w ⟨a7, a6, hk, hs, H⟩; cases H) ?_ Ji ?_
   ·rintro b9 ρ q5 ⟨a7, a6, hk, c1, H⟩
    refine At.known _ hk ?_
    replace H := (show Yt (Qm p1 a1) (Q8 (Qm p1 a1) p1 o p a9) (V5 (Qm p1 a1) (Q8 (Qm p1 a1) p1 o p a9) p a3 b9) p a3 a7 a6 = some r from H)
    unfold Yt at H
    have q6 := Qv (SP.get c1 (i := 0) rfl)
    have j9 := Qv (SP.get c1 (i := 1) rfl)
    have q7 := Qv (SP.get c1 (i := 2) rfl)
    refine aQ ?_
    refine aC ?_
    refine iR 3 3 [(57, (iv a6)), (58, (iv p)), (59, (bv (decide (a6 < p))))] ?_
    refine iF ?_
    refine cD 59 H (fun H => ?_) fun H => ?_
    ·refine At.skip K ?_
     refine aQ ?_
     refine Xu K (id := 5) K ?_
     obtain ⟨g0, g1, g2, H⟩ := Js H
     obtain ⟨d8, hyl11720⟩ : ∃ y, (List.drop (Int.toNat a6) (List.take (Int.toNat (ln a3)) a3)) = y := ⟨_, rfl⟩
     rw [hyl11720] at H
     obtain ⟨b6, k1, H⟩ := Va H
     obtain ⟨d9, H⟩ := V7 H
     replace d9 := Nat.eq_of_beq_eq_true d9
     obtain ⟨b3, k2, H⟩ := Va H
     obtain ⟨e0, H⟩ := V7 H
     replace e0 := Nat.eq_of_beq_eq_true e0
     refine aG [GEq (.agg (Qd (Qg .u32) a7).toArray), GEq (iv a6), GEq (lv (Nw eU8.sz 128 (Int.toNat a6) (some ⟨s, 0, none⟩)) d8 (128 - Int.toNat a6)), GEq (.agg (Qd (Qg .u32) b6).toArray), GEq (.agg (Qd (Qg .u32) b3).toArray), Ii] [3, 4, 5] [sG [] [] [] w0 [Q7 103 eU8 g5 32 (List.replicate 32 (0 : UInt8)), Q7 512 (Qg .u32) f 8 a7, Q7 515 eU8 s 128 a3], sG [3] [(.agg (Qd (Qg .u32) b6).toArray)] [] w0 [Q7 103 eU8 g5 32 (List.replicate 32 (0 : UInt8)), Q7 512 (Qg .u32) f 8 a7, Q7 515 eU8 s 128 a3], sG [3, 4] [(.agg (Qd (Qg .u32) b6).toArray), (.agg (Qd (Qg .u32) b3).toArray)] [] w0 [Q7 103 eU8 g5 32 (List.replicate 32 (0 : UInt8)), Q7 512 (Qg .u32) f 8 a7, Q7 515 eU8 s 128 a3], sG [3, 4, 5] [(.agg (Qd (Qg .u32) b6).toArray), (.agg (Qd (Qg .u32) b3).toArray), undef] [] w0 [Q7 103 eU8 g5 32 (List.replicate 32 (0 : UInt8)), Q7 512 (Qg .u32) f 8 b3, Q7 515 eU8 s 128 a3]] 6 3 ⟨trivial, SP.drew c1⟩ ?_ ?_
     iterate 6 refine And.intro ?_ ?_
     exact trivial
     ·refine Owe.light K [0, 1] K (Qc ?_ (Qc ?_ Qz))
      ·rintro P W hs a2 ⟨-, l0⟩
       refine kM (kc (kS hs 3 (pt f 0)) k0) fun u => ?_
       refine Vl (e := (Qg .u32)) (l := a7) (m := 8) (t := 512) (x := (.tmp 3)) (g := f) (i := 1) (d := (some 62)) (k := 0) K rfl K l0 rfl K K ?_
       exact eK u
      rintro P W hs a2 ⟨⟨q8, -⟩, l1⟩
      refine kM (kc (kS hs 3 (pt f 0)) k0) fun u => ?_
      refine Vl (e := (Qg .u32)) (l := a7) (m := 8) (t := 512) (x := (.tmp 3)) (g := f) (i := 1) (d := (some 62)) (k := 0) K rfl K l1 rfl K K ?_
      exact eK u
     ·exact oU (hC (hS 10 (iv a6)) (h0))
     ·refine oL 0 ?_
      rintro P W hs a2 ⟨-, l2⟩
      refine kM (kc (kS hs 6 (pt s 0)) (kc (kA a2 1 63) k0)) fun u => ?_
      refine Jv (e := eU8) (l := a3) (l' := d8) (m := 128) (g := s) (T := 515) (E := 5) (x := (.tmp 6)) (lo := (some (.tmp 63))) (hi := none) (i := a6) (j := (ln a3)) (q := 2) (d := (some 64)) (k := 2) K rfl K K K ⟨.i64, K⟩ rfl l2 rfl g0 g1 g2 hyl11720 ?_
      exact eK u
     ·refine oH 0 1 ?_
      rintro P W hs a2 ⟨-, g3⟩
      refine kM (kc (kA a2 2 64) k0) fun u => ?_
      refine cS g3 411 #[(.tmp 64)] #[51] 65 Tryz.call411 (Y5 (Nw eU8.sz 128 (Int.toNat a6) (some ⟨s, 0, none⟩)) (128 - Int.toNat a6) d8 W ((G9 g0 g1 g2 hyl11720) W (Qp (SP.get g3 (i := 2) rfl))) b6 k1) ?_
      intro q9 l3
      refine ⟨_, Qb u, rfl, ?_⟩
      exact (ai (ai rfl (trivial)) l3)
     ·refine oH 1 2 ?_
      rintro P W hs a2 ⟨⟨g4, -⟩, l4⟩
      refine kN [(62, (.agg (Qd (Qg .u32) a7).toArray)), (65, (.agg (Qd (Qg .u32) b6).toArray))] ⟨a2 0 62 K, (Je (h := 3) K).symm.trans g4, trivial⟩ fun u => ?_
      refine cS l4 410 #[(.tmp 62), (.tmp 65)] #[512, 359] 66 Tryz.call410 (Xh  a7 b6 W j9 d9 b3 k2) ?_
      intro r0 l5
      refine ⟨_, Qb u, rfl, ?_⟩
      exact (ai (ai g4 (ai rfl (trivial))) l5)
     ·refine oH 2 3 ?_
      rintro P W hs a2 ⟨⟨l6, g6, -⟩, l7⟩
      refine kN [(3, (pt f 0)), (66, (.agg (Qd (Qg .u32) b3).toArray))] ⟨(hs 3 K).trans K, (Je (h := 4) K).symm.trans g6, trivial⟩ fun u => ?_
      refine Vb (e := (Qg .u32)) (l := a7) (l' := b3) (m := 8) (t := 512) (x := (.tmp 3)) (y := (.tmp 66)) (g := f) (i := 1) (d := none) (k := 5) K rfl K K e0 l7 rfl K ?_
      intro r1 l8
      refine ⟨_, Qb u, trivial, ?_⟩
      exact (ai (ai l6 (ai g6 (ai rfl (trivial)))) l8)
     rintro P r2 hs hf ⟨⟨r3, r4, r5, -⟩, l9⟩
     refine Vy _ (kc (kT hs 2 (pt g5 0)) (kc (kT hs 3 (pt f 0)) (kc (kT hs 6 (pt s 0)) (kc (kT hs 8 (iv p)) (kc (kT hs 10 (iv a6)) k0))))) ?_
     refine aR ?_
     refine iR 3 3 [(60, (iv a6)), (61, (iv (IntKind.wrap .i64 (a6 + 64)))), (10, (iv (IntKind.wrap .i64 (a6 + 64))))] ?_
     refine iF ?_
     exact ⟨b3, (IntKind.wrap .i64 (a6 + 64)), ⟨K, K, K, K, K, trivial⟩, SP.sel l9 [0, 1, 2] rfl rfl, H⟩
    refine At.exit K (id := 4) K ?_
    refine aC ?_
    refine iS 1 ?_
    refine Q1 (e := eU8) (l := (List.replicate 32 (0 : UInt8))) (m := 32) (t := 103) (z := .agg (Qd eU8 (List.replicate 32 (0 : UInt8))).toArray) (d := (some 11)) (k := 0) K rfl K rfl rfl K c1 ?_
    intro c0 r6 m0
    refine iF ?_
    refine aQ ?_
    refine aC ?_
    refine iR 1 1 [(67, (iv 0))] ?_
    refine iF ?_
    refine Xu K (id := 6) K ?_
    refine U1 K (fun e1 ρ w => ∃ (b0 : Bs) (a0 : Int), Z5 ρ [(2, (pt g5 0)), (3, (pt f 0)), (11, (pt c0 0)), (67, (iv a0))] ∧ SP [] w0 w [Q7 103 eU8 g5 32 (List.replicate 32 (0 : UInt8)), Q7 512 (Qg .u32) f 8 a7, Q7 103 eU8 c0 32 b0] ∧ Xj (Qm p1 a1) (Q8 (Qm p1 a1) p1 o p a9) (V5 (Qm p1 a1) (Q8 (Qm p1 a1) p1 o p a9) p a3 b9) a7 e1 b0 a0 = some r) (by rintro ρ w ⟨b0, a0, hk, hs, H⟩; cases H) ?_ Ji ?_
    ·rintro e1 ρ r7 ⟨b0, a0, hk, b1, H⟩
     refine At.known _ hk ?_
     replace H := (show Ys (Qm p1 a1) (Q8 (Qm p1 a1) p1 o p a9) (V5 (Qm p1 a1) (Q8 (Qm p1 a1) p1 o p a9) p a3 b9) (Xj (Qm p1 a1) (Q8 (Qm p1 a1) p1 o p a9) (V5 (Qm p1 a1) (Q8 (Qm p1 a1) p1 o p a9) p a3 b9) a7 e1) a7 b0 a0 = some r from H)
     unfold Ys at H
     have r8 := Qv (SP.get b1 (i := 0) rfl)
     have r9 := Qv (SP.get b1 (i := 1) rfl)
     have m1 := Qv (SP.get b1 (i := 2) rfl)
     refine aC ?_
     refine iR 1 1 [(68, (bv (decide (a0 < 32))))] ?_
     refine iF ?_
     refine aQ ?_
     refine cD 68 H (fun H => ?_) fun H => ?_
     ·refine At.skip K ?_
      refine aQ ?_
      refine Xu K (id := 7) K ?_
      refine aC ?_
      refine iR 2 2 [(69, (iv a0)), (12, (iv a0))] ?_
      refine iF ?_
      refine aR ?_
      refine iR 3 3 [(70, (iv a0)), (71, (iv a0)), (72, (iv (IntKind.wrap .i64 (Int.tdiv a0 4))))] ?_
      obtain ⟨b7, g7, g8, m2, H⟩ := Qn H
      refine iS 4 ?_
      refine Qe (e := (Qg .u32)) (l := a7) (m := 8) (g := f) (T := 512) (E := 43) (x := (.tmp 3)) (ix := (.tmp 72)) (ki := .i64) (iz := (IntKind.wrap .i64 (Int.tdiv a0 4))) (i := 1) (d := (some 73)) (k := 3) K rfl K K K K b1 rfl g7 g8 ?_
      refine jX 5 43 73 f (0 + Int.toNat (IntKind.wrap .i64 (Int.tdiv a0 4)) * (Qg .u32).sz) (.int .u32 b7) 74 (Qi (e := (Qg .u32)) (Qj (Qp (SP.get b1 (i := 1) rfl)) rfl g7 g8) m2 (j := 0) rfl) ?_
      refine iR 4 9 [(75, (iv a0)), (76, (iv (Int.tmod a0 4))), (77, (iv (IntKind.wrap .i64 ((Int.tmod a0 4) * 8)))), (78, (iv (IntKind.wrap .i64 (24 - (IntKind.wrap .i64 ((Int.tmod a0 4) * 8))))))] ?_
      obtain ⟨hl11873, H⟩ := V7 H
      refine iS 10 ?_
      refine Qr.shift (op := .shr) (T := 43) (T' := 3) (x := (.tmp 74)) (y := (.tmp 78)) (kx := .u32) (ky := .i64) (a := b7) (b := (IntKind.wrap .i64 (24 - (IntKind.wrap .i64 ((Int.tmod a0 4) * 8))))) (v := (.int .u32 (Yr .u32 b7 (IntKind.wrap .i64 (24 - (IntKind.wrap .i64 ((Int.tmod a0 4) * 8))))))) (d := (some 79)) (k := 9) K rfl K K (of_decide_eq_true hl11873) rfl ?_
      refine iR 1 11 [(80, (.int .u8 (IntKind.wrap .u8 (Yr .u32 b7 (IntKind.wrap .i64 (24 - (IntKind.wrap .i64 ((Int.tmod a0 4) * 8))))))))] ?_
      obtain ⟨s0, g9, h1, s1, H⟩ := Qn H
      refine iS 12 ?_
      refine Qe (e := eU8) (l := b0) (m := 32) (g := c0) (T := 103) (E := 5) (x := (.tmp 11)) (ix := (.tmp 70)) (ki := .i64) (iz := a0) (i := 2) (d := (some 81)) (k := 11) K rfl K K K K b1 rfl g9 h1 ?_
      obtain ⟨h2, hyl11878, H⟩ := Vp H
      have hnl11878 : List.length h2 = List.length b0 := by rw [← hyl11878, List.length_set]
      refine iS 13 ?_
      refine Vf (e := eU8) (t := 5) (x := (.tmp 81)) (y := (.tmp 80)) (l := b0) (iz := a0) (m := 32) (g := c0) (b := c0) (off := 0) (i := 2) (v := (.int .u8 (IntKind.wrap .u8 (Yr .u32 b7 (IntKind.wrap .i64 (24 - (IntKind.wrap .i64 ((Int.tmod a0 4) * 8)))))))) (x' := (D5 (IntKind.wrap .u8 (Yr .u32 b7 (IntKind.wrap .i64 (24 - (IntKind.wrap .i64 ((Int.tmod a0 4) * 8)))))))) (d := none) (k := 12) K rfl rfl K K b1 rfl rfl h1 g9 (by show [Value.int .u8 (((D5 (IntKind.wrap .u8 (Yr .u32 b7 (IntKind.wrap .i64 (24 - (IntKind.wrap .i64 ((Int.tmod a0 4) * 8)))))))).toNat : Int)] = _; rw [D6 (D7 _)]) K ?_
      rw [hyl11878]
      intro s2 m3
      refine In.known [] trivial ?_
      refine iF ?_
      refine aR ?_
      refine iR 2 2 [(82, (iv (IntKind.wrap .i64 (a0 + 1)))), (67, (iv (IntKind.wrap .i64 (a0 + 1))))] ?_
      refine iF ?_
      exact ⟨h2, (IntKind.wrap .i64 (a0 + 1)), ⟨K, K, K, K, trivial⟩, SP.sel m3 [0, 1, 2] rfl rfl, H⟩
     refine At.exit K (id := 6) K ?_
     refine aC ?_
     refine iS 1 ?_
     refine Vl (e := eU8) (l := b0) (m := 32) (t := 103) (x := (.tmp 11)) (g := c0) (i := 2) (d := (some 83)) (k := 0) K rfl K b1 rfl K K ?_
     refine iS 2 ?_
     refine Vb (e := eU8) (l := (List.replicate 32 (0 : UInt8))) (l' := b0) (m := 32) (t := 103) (x := (.tmp 2)) (y := (.tmp 83)) (g := g5) (i := 0) (d := none) (k := 1) K rfl K K m1 b1 rfl K ?_
     intro s3 h3
     refine iF ?_
     refine At.ret K ?_
     refine ⟨(.agg (Qd eU8 b0).toArray), Bb K (Y0 (e := eU8) (l := b0) (a := 2) (t := 103) K (SP.get h3 (i := 0) rfl) K K), ?_⟩
     obtain rfl := Zd H
     exact ⟨rfl, SP.sel h3 [] rfl rfl⟩
    exact ⟨(List.replicate 32 (0 : UInt8)), 0, ⟨K, K, K, K, trivial⟩, SP.sel m0 [0, 1, 3] rfl rfl, H⟩
   exact ⟨o, 0, ⟨K, K, K, K, K, trivial⟩, SP.sel b8 [0, 1, 2] rfl rfl, H⟩
  exact ⟨d2, 0, ⟨K, K, K, K, K, K, trivial⟩, SP.sel d3 [0, 1, 2] rfl rfl, H⟩
 exact ⟨z9, 0, ⟨K, K, K, K, K, trivial⟩, SP.sel h9 [0, 1] rfl rfl, H⟩
end Go.Proofs.YtibipfdpembkgaaGreatDoor
namespace Go.Proofs.YtibipfdpembkgaaGreatDoor
open Go.RowKit
def Xn  : Option ((List Int)) :=
  (some (([1116352408, 1899447441, 3049323471, 3921009573, 961987163, 1508970993, 2453635748, 2870763221, 3624381080, 310598401, 607225278, 1426881987, 1925078388, 2162078206, 2614888103, 3248222580, 3835390401, 4022224774, 264347078, 604807628, 770255983, 1249150122, 1555081692, 1996064986, 2554220882, 2821834349, 2952996808, 3210313671, 3336571891, 3584528711, 113926993, 338241895, 666307205, 773529912, 1294757372, 1396182291, 1695183700, 1986661051, 2177026350, 2456956037, 2730485921, 2820302411, 3259730800, 3345764771, 3516065817, 3600352804, 4094571909, 275423344, 430227734, 506948616, 659060556, 883997877, 958139571, 1322822218, 1537002063, 1747873779, 1955562222, 2024104815, 2227730452, 2361852424, 2428436474, 2756734187, 3204031479, 3329325298] : List Int)))
set_option maxHeartbeats 40000000 in
theorem Jk   (w0 : World)  (r : ((List Int))) (H : Xn  = some r) :
  Calls Tryz.prog 233 #[] w0 (fun e W => e = .returned (.agg (Qd (Qg .u32) r).toArray) ∧ SP [] w0 W []) := by
 unfold Xn at H
 refine Z1 (n := 2) Tryz.func233 K K K ?_
 have c := SP.start [] w0
 refine aC ?_
 refine iS 1 ?_
 refine Q1 (e := (Qg .u32)) (l := (List.replicate 64 0)) (m := 64) (t := 359) (z := .agg (Qd (Qg .u32) (List.replicate 64 0)).toArray) (d := (some 0)) (k := 0) K rfl K rfl rfl K c ?_
 intro g1 w2 f
 refine iF ?_
 refine aC ?_
 refine iR 1 1 [(1, (.agg (Qd (Qg .u32) ([1116352408, 1899447441, 3049323471, 3921009573, 961987163, 1508970993, 2453635748, 2870763221, 3624381080, 310598401, 607225278, 1426881987, 1925078388, 2162078206, 2614888103, 3248222580, 3835390401, 4022224774, 264347078, 604807628, 770255983, 1249150122, 1555081692, 1996064986, 2554220882, 2821834349, 2952996808, 3210313671, 3336571891, 3584528711, 113926993, 338241895, 666307205, 773529912, 1294757372, 1396182291, 1695183700, 1986661051, 2177026350, 2456956037, 2730485921, 2820302411, 3259730800, 3345764771, 3516065817, 3600352804, 4094571909, 275423344, 430227734, 506948616, 659060556, 883997877, 958139571, 1322822218, 1537002063, 1747873779, 1955562222, 2024104815, 2227730452, 2361852424, 2428436474, 2756734187, 3204031479, 3329325298] : List Int)).toArray))] ?_
 refine iS 2 ?_
 refine Vb (e := (Qg .u32)) (l := (List.replicate 64 0)) (l' := ([1116352408, 1899447441, 3049323471, 3921009573, 961987163, 1508970993, 2453635748, 2870763221, 3624381080, 310598401, 607225278, 1426881987, 1925078388, 2162078206, 2614888103, 3248222580, 3835390401, 4022224774, 264347078, 604807628, 770255983, 1249150122, 1555081692, 1996064986, 2554220882, 2821834349, 2952996808, 3210313671, 3336571891, 3584528711, 113926993, 338241895, 666307205, 773529912, 1294757372, 1396182291, 1695183700, 1986661051, 2177026350, 2456956037, 2730485921, 2820302411, 3259730800, 3345764771, 3516065817, 3600352804, 4094571909, 275423344, 430227734, 506948616, 659060556, 883997877, 958139571, 1322822218, 1537002063, 1747873779, 1955562222, 2024104815, 2227730452, 2361852424, 2428436474, 2756734187, 3204031479, 3329325298] : List Int)) (m := 64) (t := 359) (x := (.tmp 0)) (y := (.tmp 1)) (g := g1) (i := 0) (d := none) (k := 1) K rfl K K rfl f rfl K ?_
 intro w5 b
 refine iF ?_
 refine At.ret K ?_
 refine ⟨(.agg (Qd (Qg .u32) ([1116352408, 1899447441, 3049323471, 3921009573, 961987163, 1508970993, 2453635748, 2870763221, 3624381080, 310598401, 607225278, 1426881987, 1925078388, 2162078206, 2614888103, 3248222580, 3835390401, 4022224774, 264347078, 604807628, 770255983, 1249150122, 1555081692, 1996064986, 2554220882, 2821834349, 2952996808, 3210313671, 3336571891, 3584528711, 113926993, 338241895, 666307205, 773529912, 1294757372, 1396182291, 1695183700, 1986661051, 2177026350, 2456956037, 2730485921, 2820302411, 3259730800, 3345764771, 3516065817, 3600352804, 4094571909, 275423344, 430227734, 506948616, 659060556, 883997877, 958139571, 1322822218, 1537002063, 1747873779, 1955562222, 2024104815, 2227730452, 2361852424, 2428436474, 2756734187, 3204031479, 3329325298] : List Int)).toArray), Bb K (Y0 (e := (Qg .u32)) (l := ([1116352408, 1899447441, 3049323471, 3921009573, 961987163, 1508970993, 2453635748, 2870763221, 3624381080, 310598401, 607225278, 1426881987, 1925078388, 2162078206, 2614888103, 3248222580, 3835390401, 4022224774, 264347078, 604807628, 770255983, 1249150122, 1555081692, 1996064986, 2554220882, 2821834349, 2952996808, 3210313671, 3336571891, 3584528711, 113926993, 338241895, 666307205, 773529912, 1294757372, 1396182291, 1695183700, 1986661051, 2177026350, 2456956037, 2730485921, 2820302411, 3259730800, 3345764771, 3516065817, 3600352804, 4094571909, 275423344, 430227734, 506948616, 659060556, 883997877, 958139571, 1322822218, 1537002063, 1747873779, 1955562222, 2024104815, 2227730452, 2361852424, 2428436474, 2756734187, 3204031479, 3329325298] : List Int)) (a := 0) (t := 359) K (SP.get b (i := 0) rfl) K K), ?_⟩
 obtain rfl := Zd H
 exact ⟨rfl, SP.sel b [] rfl rfl⟩
def Vt (p1 : Int) (p2 : Int) : Option (Int) :=
  ((chk (decide (0 ≤ p2))).bind fun _ => ((chk (decide (0 ≤ (IntKind.wrap .i64 (32 - p2))))).bind fun _ => (some ((bOr .u32 (Yr .u32 p1 p2) (J8 .u32 p1 (IntKind.wrap .i64 (32 - p2))))))))
set_option maxHeartbeats 40000000 in
theorem Vu  (p1 : Int) (p2 : Int) (w0 : World)  (r : (Int)) (H : Vt p1 p2 = some r) :
  Calls Tryz.prog 286 #[(.int .u32 p1), (iv p2)] w0 (fun e W => e = .returned (.int .u32 r) ∧ SP [] w0 W []) := by
 unfold Vt at H
 refine Z1 (n := 13) Tryz.func286 K K K ?_
 have g := SP.start [] w0
 refine aC ?_
 refine iR 1 1 [(4, (.int .u32 0))] ?_
 refine iF ?_
 refine aQ ?_
 obtain ⟨hl3, H⟩ := V7 H
 obtain ⟨hl4, H⟩ := V7 H
 refine aG [GEq (.int .u32 p1), GEq (iv p2), GEq (.int .u32 (Yr .u32 p1 p2)), GEq (.int .u32 p1), GEq (iv p2), GEq (iv (IntKind.wrap .i64 (32 - p2))), GEq (.int .u32 (J8 .u32 p1 (IntKind.wrap .i64 (32 - p2)))), GEq (.int .u32 (bOr .u32 (Yr .u32 p1 p2) (J8 .u32 p1 (IntKind.wrap .i64 (32 - p2))))), GEq (.int .u32 (bOr .u32 (Yr .u32 p1 p2) (J8 .u32 p1 (IntKind.wrap .i64 (32 - p2)))))] [] (tG [] w0 [] [([], [])]) 9 0 ⟨trivial, SP.drew g⟩ ?_ ?_
 iterate 9 refine And.intro ?_ ?_
 exact trivial
 ·exact oU (hC (hS 0 (.int .u32 p1)) (h0))
 ·exact oU (hC (hS 1 (iv p2)) (h0))
 ·refine oL 0 ?_
  rintro P W hs c ⟨-, i⟩
  refine kM (kc (kA c 0 5) (kc (kA c 1 6) k0)) fun f => ?_
  refine Qr.shift (op := .shr) (T := 43) (T' := 3) (x := (.tmp 5)) (y := (.tmp 6)) (kx := .u32) (ky := .i64) (a := p1) (b := p2) (v := (.int .u32 (Yr .u32 p1 p2))) (d := (some 7)) (k := 2) K rfl K K (of_decide_eq_true hl3) rfl ?_
  exact eK f
 ·exact oU (hC (hS 0 (.int .u32 p1)) (h0))
 ·exact oU (hC (hS 1 (iv p2)) (h0))
 ·exact oU (hC (hA 4 9) (h0))
 ·refine oL 0 ?_
  rintro P W hs c ⟨-, j⟩
  refine kM (kc (kA c 3 8) (kc (kA c 5 10) k0)) fun f => ?_
  refine Qr.shift (op := .shl) (T := 43) (T' := 3) (x := (.tmp 8)) (y := (.tmp 10)) (kx := .u32) (ky := .i64) (a := p1) (b := (IntKind.wrap .i64 (32 - p2))) (v := (.int .u32 (J8 .u32 p1 (IntKind.wrap .i64 (32 - p2))))) (d := (some 11)) (k := 6) K rfl K K (of_decide_eq_true hl4) rfl ?_
  exact eK f
 ·exact oU (hC (hA 2 7) (hC (hA 6 11) (h0)))
 ·exact oU (hC (hA 7 12) (h0))
 rintro P l hs hf ⟨-, h⟩
 refine Vy _ (kc (kF hf 8 4) k0) ?_
 refine At.ret K ?_
 refine ⟨(.int .u32 (bOr .u32 (Yr .u32 p1 p2) (J8 .u32 p1 (IntKind.wrap .i64 (32 - p2))))), K, ?_⟩
 obtain rfl := Zd H
 exact ⟨rfl, SP.sel h [] rfl rfl⟩
def Zr (p1 : Int) (p2 : Int) (p3 : Int) (p4 : Int) : Option (Int) :=
  ((Vt p1 p2).bind fun z5 => ((Vt p1 p3).bind fun a => ((chk (decide (0 ≤ p4))).bind fun _ => (some ((Vw .u32 (Vw .u32 z5 a) (Yr .u32 p1 p4)))))))
set_option maxHeartbeats 40000000 in
theorem Xq  (p1 : Int) (p2 : Int) (p3 : Int) (p4 : Int) (w0 : World)  (r : (Int)) (H : Zr p1 p2 p3 p4 = some r) :
  Calls Tryz.prog 285 #[(.int .u32 p1), (iv p2), (iv p3), (iv p4)] w0 (fun e W => e = .returned (.int .u32 r) ∧ SP [] w0 W []) := by
 unfold Zr at H
 refine Z1 (n := 20) Tryz.func285 K K K ?_
 have h := SP.start [] w0
 refine aC ?_
 refine iR 1 1 [(8, (.int .u32 0))] ?_
 refine iF ?_
 refine aQ ?_
 obtain ⟨z5, i, H⟩ := Va H
 obtain ⟨g, j, H⟩ := Va H
 obtain ⟨hl17, H⟩ := V7 H
 refine aG [GEq (.int .u32 p1), GEq (iv p2), GEq (.int .u32 z5), GEq (.int .u32 p1), GEq (iv p3), GEq (.int .u32 g), GEq (.int .u32 (Vw .u32 z5 g)), GEq (.int .u32 p1), GEq (iv p4), GEq (.int .u32 (Yr .u32 p1 p4)), GEq (.int .u32 (Vw .u32 (Vw .u32 z5 g) (Yr .u32 p1 p4))), GEq (.int .u32 (Vw .u32 (Vw .u32 z5 g) (Yr .u32 p1 p4)))] [2, 5] (tG [] w0 [] [([], []), ([2], [(.int .u32 z5)]), ([2, 5], [(.int .u32 z5), (.int .u32 g)])]) 12 2 ⟨trivial, SP.drew h⟩ ?_ ?_
 iterate 12 refine And.intro ?_ ?_
 exact trivial
 ·exact oU (hC (hS 0 (.int .u32 p1)) (h0))
 ·exact oU (hC (hS 1 (iv p2)) (h0))
 ·refine oH 0 1 ?_
  rintro P W hs c ⟨-, l⟩
  refine kM (kc (kA c 0 9) (kc (kA c 1 10) k0)) fun f => ?_
  refine cS l 286 #[(.tmp 9), (.tmp 10)] #[43, 3] 11 Tryz.call286 (Vu  p1 p2 W  z5 i) ?_
  intro t m
  refine ⟨_, Qb f, rfl, ?_⟩
  exact (ai (ai rfl (trivial)) m)
 ·exact oU (hC (hS 0 (.int .u32 p1)) (h0))
 ·exact oU (hC (hS 2 (iv p3)) (h0))
 ·refine oH 1 2 ?_
  rintro P W hs c ⟨⟨o, -⟩, p⟩
  refine kM (kc (kA c 3 12) (kc (kA c 4 13) k0)) fun f => ?_
  refine cS p 286 #[(.tmp 12), (.tmp 13)] #[43, 3] 14 Tryz.call286 (Vu  p1 p3 W  g j) ?_
  intro u q
  refine ⟨_, Qb f, rfl, ?_⟩
  exact (ai (ai o (ai rfl (trivial))) q)
 ·exact oU (hC (hA 2 11) (hC (hA 5 14) (h0)))
 ·exact oU (hC (hS 0 (.int .u32 p1)) (h0))
 ·exact oU (hC (hS 3 (iv p4)) (h0))
 ·refine Owe.light K [0, 1, 2] K (Qc ?_ (Qc ?_ (Qc ?_ Qz)))
  ·rintro P W hs c ⟨-, w⟩
   refine kM (kc (kA c 7 16) (kc (kA c 8 17) k0)) fun f => ?_
   refine Qr.shift (op := .shr) (T := 43) (T' := 3) (x := (.tmp 16)) (y := (.tmp 17)) (kx := .u32) (ky := .i64) (a := p1) (b := p4) (v := (.int .u32 (Yr .u32 p1 p4))) (d := (some 18)) (k := 9) K rfl K K (of_decide_eq_true hl17) rfl ?_
   exact eK f
  ·rintro P W hs c ⟨⟨z, -⟩, a0⟩
   refine kM (kc (kA c 7 16) (kc (kA c 8 17) k0)) fun f => ?_
   refine Qr.shift (op := .shr) (T := 43) (T' := 3) (x := (.tmp 16)) (y := (.tmp 17)) (kx := .u32) (ky := .i64) (a := p1) (b := p4) (v := (.int .u32 (Yr .u32 p1 p4))) (d := (some 18)) (k := 9) K rfl K K (of_decide_eq_true hl17) rfl ?_
   exact eK f
  rintro P W hs c ⟨⟨a1, a2, -⟩, a3⟩
  refine kM (kc (kA c 7 16) (kc (kA c 8 17) k0)) fun f => ?_
  refine Qr.shift (op := .shr) (T := 43) (T' := 3) (x := (.tmp 16)) (y := (.tmp 17)) (kx := .u32) (ky := .i64) (a := p1) (b := p4) (v := (.int .u32 (Yr .u32 p1 p4))) (d := (some 18)) (k := 9) K rfl K K (of_decide_eq_true hl17) rfl ?_
  exact eK f
 ·exact oU (hC (hA 6 15) (hC (hA 9 18) (h0)))
 ·exact oU (hC (hA 10 19) (h0))
 rintro P a4 hs hf ⟨⟨a5, a6, -⟩, s⟩
 refine Vy _ (kc (kF hf 11 8) k0) ?_
 refine At.ret K ?_
 refine ⟨(.int .u32 (Vw .u32 (Vw .u32 z5 g) (Yr .u32 p1 p4))), K, ?_⟩
 obtain rfl := Zd H
 exact ⟨rfl, SP.sel s [] rfl rfl⟩
def Zs (p1 : Int) (p2 : Int) (p3 : Int) (p4 : Int) : Option (Int) :=
  ((Vt p1 p2).bind fun z5 => ((Vt p1 p3).bind fun a => ((Vt p1 p4).bind fun b => (some ((Vw .u32 (Vw .u32 z5 a) b))))))
set_option maxHeartbeats 40000000 in
theorem Xr  (p1 : Int) (p2 : Int) (p3 : Int) (p4 : Int) (w0 : World)  (r : (Int)) (H : Zs p1 p2 p3 p4 = some r) :
  Calls Tryz.prog 235 #[(.int .u32 p1), (iv p2), (iv p3), (iv p4)] w0 (fun e W => e = .returned (.int .u32 r) ∧ SP [] w0 W []) := by
 unfold Zs at H
 refine Z1 (n := 20) Tryz.func235 K K K ?_
 have c := SP.start [] w0
 refine aC ?_
 refine iR 1 1 [(8, (.int .u32 0))] ?_
 refine iF ?_
 refine aC ?_
 refine iR 2 2 [(9, (.int .u32 p1)), (10, (iv p2))] ?_
 obtain ⟨z5, d, H⟩ := Va H
 refine iS 3 ?_
 refine cS c 286 #[(.tmp 9), (.tmp 10)] #[43, 3] 11 Tryz.call286 (Vu  p1 p2 w0  z5 d) ?_
 intro w7 f
 refine iR 2 5 [(12, (.int .u32 p1)), (13, (iv p3))] ?_
 obtain ⟨a, g, H⟩ := Va H
 refine iS 6 ?_
 refine cS f 286 #[(.tmp 12), (.tmp 13)] #[43, 3] 14 Tryz.call286 (Vu  p1 p3 w7  a g) ?_
 intro h i
 refine iR 3 9 [(15, (.int .u32 (Vw .u32 z5 a))), (16, (.int .u32 p1)), (17, (iv p4))] ?_
 obtain ⟨b, j, H⟩ := Va H
 refine iS 10 ?_
 refine cS i 286 #[(.tmp 16), (.tmp 17)] #[43, 3] 18 Tryz.call286 (Vu  p1 p4 h  b j) ?_
 intro l k
 refine iR 2 12 [(19, (.int .u32 (Vw .u32 (Vw .u32 z5 a) b))), (8, (.int .u32 (Vw .u32 (Vw .u32 z5 a) b)))] ?_
 refine iF ?_
 refine At.ret K ?_
 refine ⟨(.int .u32 (Vw .u32 (Vw .u32 z5 a) b)), K, ?_⟩
 obtain rfl := Zd H
 exact ⟨rfl, SP.sel k [] rfl rfl⟩
def V0 (a : (List Int) → Int → Option ((List Int))) (b : Int) (c : (List Int)) : Option ((List Int)) :=
  (a c (IntKind.wrap .i64 (b + 1)))
def Zh (c : (List Int) → Int → Option ((List Int))) (p1 : (List UInt8)) (b : (List Int)) (a : Int) : Option ((List Int)) :=
  (cond (decide (a < 64)) (cond (decide (a < 16)) ((idx p1 (IntKind.wrap .i64 (4 * a))).bind fun d => ((idx p1 (IntKind.wrap .i64 ((IntKind.wrap .i64 (4 * a)) + 1))).bind fun e => ((idx p1 (IntKind.wrap .i64 ((IntKind.wrap .i64 (4 * a)) + 2))).bind fun f => ((idx p1 (IntKind.wrap .i64 ((IntKind.wrap .i64 (4 * a)) + 3))).bind fun g => ((idx b a).bind fun p => ((some (List.set b (Int.toNat a) (bOr .u32 (bOr .u32 (bOr .u32 (J8 .u32 (IntKind.wrap .u32 ((d).toNat : Int)) 24) (J8 .u32 (IntKind.wrap .u32 ((e).toNat : Int)) 16)) (J8 .u32 (IntKind.wrap .u32 ((f).toNat : Int)) 8)) (IntKind.wrap .u32 ((g).toNat : Int))))).bind fun h => (V0 c a h))))))) ((idx b (IntKind.wrap .i64 (a - 2))).bind fun i => ((Zr i 17 19 10).bind fun j => ((idx b (IntKind.wrap .i64 (a - 7))).bind fun k => ((idx b (IntKind.wrap .i64 (a - 15))).bind fun l => ((Zr l 7 18 3).bind fun m => ((idx b (IntKind.wrap .i64 (a - 16))).bind fun n => ((idx b a).bind fun q => ((some (List.set b (Int.toNat a) (IntKind.wrap .u32 ((IntKind.wrap .u32 ((IntKind.wrap .u32 (j + k)) + m)) + n)))).bind fun o => (V0 c a o)))))))))) (some (b)))
def Vq (p1 : (List UInt8)) : Nat → (List Int) → Int → Option ((List Int))
  | 0, _, _ => none
  | f + 1, a, b => Zh  (Vq p1 f) p1 a b
def Zy (p1 : (List UInt8)) : Option ((List Int)) :=
  (Vq p1 Ji (List.replicate 64 0) 0)
set_option maxHeartbeats 40000000 in
theorem Y6 (A2 : Option Addr) (c3 : Nat) (p1 : Bs) (w0 : World) (a0 : RdT eU8 w0 A2 c3 p1) (r : ((List Int))) (H : Zy p1 = some r) :
  Calls Tryz.prog 234 #[(lv A2 p1 c3)] w0 (fun e W => e = .returned (.agg (Qd (Qg .u32) r).toArray) ∧ SP [] w0 W []) := by
 unfold Zy at H
 refine Z1 (n := 70) Tryz.func234 K K K ?_
 have e6 := SP.start [] w0
 refine aC ?_
 refine iS 1 ?_
 refine Q1 (e := (Qg .u32)) (l := (List.replicate 64 0)) (m := 64) (t := 359) (z := .agg (Qd (Qg .u32) (List.replicate 64 0)).toArray) (d := (some 2)) (k := 0) K rfl K rfl rfl K e6 ?_
 intro g5 w6 e7
 refine iF ?_
 refine aC ?_
 refine iS 1 ?_
 refine Q1 (e := (Qg .u32)) (l := (List.replicate 64 0)) (m := 64) (t := 359) (z := .agg (Qd (Qg .u32) (List.replicate 64 0)).toArray) (d := (some 3)) (k := 0) K rfl K rfl rfl K e7 ?_
 intro g9 s5 e8
 refine iF ?_
 refine aQ ?_
 refine aC ?_
 refine iR 1 1 [(4, (iv 0))] ?_
 refine iF ?_
 refine Xu K (id := 0) K ?_
 refine U1 K (fun f4 ρ w => ∃ (o : (List Int)) (c : Int), Z5 ρ [(0, (lv A2 p1 c3)), (2, (pt g5 0)), (3, (pt g9 0)), (4, (iv c))] ∧ SP [] w0 w [Q7 359 (Qg .u32) g5 64 (List.replicate 64 0), Q7 359 (Qg .u32) g9 64 o] ∧ Vq p1 f4 o c = some r) (by rintro ρ w ⟨o, c, hk, hs, H⟩; cases H) ?_ Ji ?_
 ·rintro f4 ρ s6 ⟨o, c, hk, a4, H⟩
  refine At.known _ hk ?_
  replace H := (show Zh (Vq p1 f4) p1 o c = some r from H)
  unfold Zh at H
  have s7 := Qv (SP.get a4 (i := 0) rfl)
  have e9 := Qv (SP.get a4 (i := 1) rfl)
  refine aQ ?_
  refine aC ?_
  refine iR 2 2 [(5, (iv c)), (6, (bv (decide (c < 64))))] ?_
  refine iF ?_
  refine cD 6 H (fun H => ?_) fun H => ?_
  ·refine At.skip K ?_
   refine aQ ?_
   refine Xu K (id := 1) K ?_
   refine aC ?_
   refine iR 2 2 [(9, (iv c)), (10, (bv (decide (c < 16))))] ?_
   refine iF ?_
   refine At.join (fun ρ w => ∃ (b2 : (List Int)), Z5 ρ [(0, (lv A2 p1 c3)), (2, (pt g5 0)), (3, (pt g9 0)), (4, (iv c))] ∧ SP [] w0 w [Q7 359 (Qg .u32) g5 64 (List.replicate 64 0), Q7 359 (Qg .u32) g9 64 b2] ∧ V0 (Vq p1 f4) c b2 = some r) ?_ ?_
   ·refine cD 10 H (fun H => ?_) fun H => ?_
    ·obtain ⟨q, d0, d1, f0, H⟩ := Qn H
     obtain ⟨s, d2, d3, f1, H⟩ := Qn H
     obtain ⟨a1, d4, d5, f2, H⟩ := Qn H
     obtain ⟨a5, d6, d7, f3, H⟩ := Qn H
     obtain ⟨s8, d8, d9, s9, H⟩ := Qn H
     obtain ⟨b6, hyl2055, H⟩ := Vp H
     have hnl2055 : List.length b6 = List.length o := by rw [← hyl2055, List.length_set]
     refine aG [GEq (iv c), GEq (lv A2 p1 c3), GEq (iv c), GEq (iv (IntKind.wrap .i64 (4 * c))), Vk A2 eU8.sz (IntKind.wrap .i64 (4 * c)), GEq (.int .u8 ((q).toNat : Int)), GEq (.int .u32 (IntKind.wrap .u32 ((q).toNat : Int))), GEq (.int .u32 (J8 .u32 (IntKind.wrap .u32 ((q).toNat : Int)) 24)), GEq (lv A2 p1 c3), GEq (iv c), GEq (iv (IntKind.wrap .i64 (4 * c))), GEq (iv (IntKind.wrap .i64 ((IntKind.wrap .i64 (4 * c)) + 1))), Vk A2 eU8.sz (IntKind.wrap .i64 ((IntKind.wrap .i64 (4 * c)) + 1)), GEq (.int .u8 ((s).toNat : Int)), GEq (.int .u32 (IntKind.wrap .u32 ((s).toNat : Int))), GEq (.int .u32 (J8 .u32 (IntKind.wrap .u32 ((s).toNat : Int)) 16)), GEq (.int .u32 (bOr .u32 (J8 .u32 (IntKind.wrap .u32 ((q).toNat : Int)) 24) (J8 .u32 (IntKind.wrap .u32 ((s).toNat : Int)) 16))), GEq (lv A2 p1 c3), GEq (iv c), GEq (iv (IntKind.wrap .i64 (4 * c))), GEq (iv (IntKind.wrap .i64 ((IntKind.wrap .i64 (4 * c)) + 2))), Vk A2 eU8.sz (IntKind.wrap .i64 ((IntKind.wrap .i64 (4 * c)) + 2)), GEq (.int .u8 ((a1).toNat : Int)), GEq (.int .u32 (IntKind.wrap .u32 ((a1).toNat : Int))), GEq (.int .u32 (J8 .u32 (IntKind.wrap .u32 ((a1).toNat : Int)) 8)), GEq (.int .u32 (bOr .u32 (bOr .u32 (J8 .u32 (IntKind.wrap .u32 ((q).toNat : Int)) 24) (J8 .u32 (IntKind.wrap .u32 ((s).toNat : Int)) 16)) (J8 .u32 (IntKind.wrap .u32 ((a1).toNat : Int)) 8))), GEq (lv A2 p1 c3), GEq (iv c), GEq (iv (IntKind.wrap .i64 (4 * c))), GEq (iv (IntKind.wrap .i64 ((IntKind.wrap .i64 (4 * c)) + 3))), Vk A2 eU8.sz (IntKind.wrap .i64 ((IntKind.wrap .i64 (4 * c)) + 3)), GEq (.int .u8 ((a5).toNat : Int)), GEq (.int .u32 (IntKind.wrap .u32 ((a5).toNat : Int))), GEq (.int .u32 (bOr .u32 (bOr .u32 (bOr .u32 (J8 .u32 (IntKind.wrap .u32 ((q).toNat : Int)) 24) (J8 .u32 (IntKind.wrap .u32 ((s).toNat : Int)) 16)) (J8 .u32 (IntKind.wrap .u32 ((a1).toNat : Int)) 8)) (IntKind.wrap .u32 ((a5).toNat : Int)))), Vk (some ⟨g9, 0, none⟩) (Qg .u32).sz c, Ii] [35] [sG [] [] [] w0 [Q7 359 (Qg .u32) g5 64 (List.replicate 64 0), Q7 359 (Qg .u32) g9 64 o], sG [35] [undef] [] w0 [Q7 359 (Qg .u32) g5 64 (List.replicate 64 0), Q7 359 (Qg .u32) g9 64 b6]] 36 1 ⟨trivial, SP.drew a4⟩ ?_ ?_
     iterate 36 refine And.intro ?_ ?_
     exact trivial
     ·exact oU (hC (hS 4 (iv c)) (h0))
     ·exact oU (hC (hS 0 (lv A2 p1 c3)) (h0))
     ·exact oU (hC (hS 4 (iv c)) (h0))
     ·exact oU (hC (hA 2 13) (h0))
     ·refine oL 0 ?_
      rintro P W hs f ⟨-, f5⟩
      refine kM (kc (kA f 1 12) (kc (kA f 3 14) k0)) fun h => ?_
      refine zE eU8 p1 A2 c3 51 5 (.tmp 12) (.tmp 14) (IntKind.wrap .i64 (4 * c)) 15 (RdT.sp a0 f5) d0 d1 ?_
      intro f6 f7 f8 t0 hc2066
      exact ⟨rfl, _, Qb h, ⟨f6, f7, f8, rfl⟩⟩
     ·refine oL 0 ?_
      rintro P W hs f ⟨-, f9⟩
      obtain ⟨g0, g1, g2, g3⟩ := f 4 15 K
      refine kM (kc g3 k0) fun h => ?_
      refine sC 5 15 g0 (g1 + Int.toNat (IntKind.wrap .i64 (4 * c)) * eU8.sz) (.int .u8 ((q).toNat : Int)) 16 (Qi (e := eU8) (Qj (RdT.sp a0 f9) g2 d0 d1) f0 (j := 0) rfl) ?_
      exact eK h
     ·exact oU (hC (hA 5 16) (h0))
     ·exact oU (hC (hA 6 17) (h0))
     ·exact oU (hC (hS 0 (lv A2 p1 c3)) (h0))
     ·exact oU (hC (hS 4 (iv c)) (h0))
     ·exact oU (hC (hA 9 20) (h0))
     ·exact oU (hC (hA 10 21) (h0))
     ·refine oL 0 ?_
      rintro P W hs f ⟨-, g4⟩
      refine kM (kc (kA f 8 19) (kc (kA f 11 22) k0)) fun h => ?_
      refine zE eU8 p1 A2 c3 51 5 (.tmp 19) (.tmp 22) (IntKind.wrap .i64 ((IntKind.wrap .i64 (4 * c)) + 1)) 23 (RdT.sp a0 g4) d2 d3 ?_
      intro g6 g7 g8 t1 hc2078
      exact ⟨rfl, _, Qb h, ⟨g6, g7, g8, rfl⟩⟩
     ·refine oL 0 ?_
      rintro P W hs f ⟨-, h1⟩
      obtain ⟨h2, h3, h4, h5⟩ := f 12 23 K
      refine kM (kc h5 k0) fun h => ?_
      refine sC 5 23 h2 (h3 + Int.toNat (IntKind.wrap .i64 ((IntKind.wrap .i64 (4 * c)) + 1)) * eU8.sz) (.int .u8 ((s).toNat : Int)) 24 (Qi (e := eU8) (Qj (RdT.sp a0 h1) h4 d2 d3) f1 (j := 0) rfl) ?_
      exact eK h
     ·exact oU (hC (hA 13 24) (h0))
     ·exact oU (hC (hA 14 25) (h0))
     ·exact oU (hC (hA 7 18) (hC (hA 15 26) (h0)))
     ·exact oU (hC (hS 0 (lv A2 p1 c3)) (h0))
     ·exact oU (hC (hS 4 (iv c)) (h0))
     ·exact oU (hC (hA 18 29) (h0))
     ·exact oU (hC (hA 19 30) (h0))
     ·refine oL 0 ?_
      rintro P W hs f ⟨-, h6⟩
      refine kM (kc (kA f 17 28) (kc (kA f 20 31) k0)) fun h => ?_
      refine zE eU8 p1 A2 c3 51 5 (.tmp 28) (.tmp 31) (IntKind.wrap .i64 ((IntKind.wrap .i64 (4 * c)) + 2)) 32 (RdT.sp a0 h6) d4 d5 ?_
      intro h7 h8 h9 t2 hc2090
      exact ⟨rfl, _, Qb h, ⟨h7, h8, h9, rfl⟩⟩
     ·refine oL 0 ?_
      rintro P W hs f ⟨-, i0⟩
      obtain ⟨i1, i2, i3, i4⟩ := f 21 32 K
      refine kM (kc i4 k0) fun h => ?_
      refine sC 5 32 i1 (i2 + Int.toNat (IntKind.wrap .i64 ((IntKind.wrap .i64 (4 * c)) + 2)) * eU8.sz) (.int .u8 ((a1).toNat : Int)) 33 (Qi (e := eU8) (Qj (RdT.sp a0 i0) i3 d4 d5) f2 (j := 0) rfl) ?_
      exact eK h
     ·exact oU (hC (hA 22 33) (h0))
     ·exact oU (hC (hA 23 34) (h0))
     ·exact oU (hC (hA 16 27) (hC (hA 24 35) (h0)))
     ·exact oU (hC (hS 0 (lv A2 p1 c3)) (h0))
     ·exact oU (hC (hS 4 (iv c)) (h0))
     ·exact oU (hC (hA 27 38) (h0))
     ·exact oU (hC (hA 28 39) (h0))
     ·refine oL 0 ?_
      rintro P W hs f ⟨-, i5⟩
      refine kM (kc (kA f 26 37) (kc (kA f 29 40) k0)) fun h => ?_
      refine zE eU8 p1 A2 c3 51 5 (.tmp 37) (.tmp 40) (IntKind.wrap .i64 ((IntKind.wrap .i64 (4 * c)) + 3)) 41 (RdT.sp a0 i5) d6 d7 ?_
      intro i6 i7 i8 t3 hc2102
      exact ⟨rfl, _, Qb h, ⟨i6, i7, i8, rfl⟩⟩
     ·refine oL 0 ?_
      rintro P W hs f ⟨-, i9⟩
      obtain ⟨j0, j1, j2, j3⟩ := f 30 41 K
      refine kM (kc j3 k0) fun h => ?_
      refine sC 5 41 j0 (j1 + Int.toNat (IntKind.wrap .i64 ((IntKind.wrap .i64 (4 * c)) + 3)) * eU8.sz) (.int .u8 ((a5).toNat : Int)) 42 (Qi (e := eU8) (Qj (RdT.sp a0 i9) j2 d6 d7) f3 (j := 0) rfl) ?_
      exact eK h
     ·exact oU (hC (hA 31 42) (h0))
     ·exact oU (hC (hA 25 36) (hC (hA 32 43) (h0)))
     ·refine oL 0 ?_
      rintro P W hs f ⟨-, j4⟩
      refine kM (kc (kS hs 3 (pt g9 0)) (kc (kA f 0 11) k0)) fun h => ?_
      refine Qe (e := (Qg .u32)) (l := o) (m := 64) (g := g9) (T := 359) (E := 43) (x := (.tmp 3)) (ix := (.tmp 11)) (ki := .i64) (iz := c) (i := 1) (d := (some 45)) (k := 34) K rfl K K K K j4 rfl d8 d9 ?_
      exact ⟨rfl, _, Qb h, ⟨g9, 0, rfl, rfl⟩⟩
     ·refine oH 0 1 ?_
      rintro P W hs f ⟨-, j5⟩
      obtain ⟨j6, j7, j8, j9⟩ := f 34 45 K
      refine kM (kc j9 (kc (kA f 33 44) k0)) fun h => ?_
      refine Vf (e := (Qg .u32)) (t := 43) (x := (.tmp 45)) (y := (.tmp 44)) (l := o) (iz := c) (m := 64) (g := g9) (b := j6) (off := j7) (i := 1) (v := (.int .u32 (bOr .u32 (bOr .u32 (bOr .u32 (J8 .u32 (IntKind.wrap .u32 ((q).toNat : Int)) 24) (J8 .u32 (IntKind.wrap .u32 ((s).toNat : Int)) 16)) (J8 .u32 (IntKind.wrap .u32 ((a1).toNat : Int)) 8)) (IntKind.wrap .u32 ((a5).toNat : Int))))) (x' := (bOr .u32 (bOr .u32 (bOr .u32 (J8 .u32 (IntKind.wrap .u32 ((q).toNat : Int)) 24) (J8 .u32 (IntKind.wrap .u32 ((s).toNat : Int)) 16)) (J8 .u32 (IntKind.wrap .u32 ((a1).toNat : Int)) 8)) (IntKind.wrap .u32 ((a5).toNat : Int)))) (d := none) (k := 35) K rfl j8 K K j5 rfl rfl d9 d8 rfl K ?_
      rw [hyl2055]
      intro t4 k1
      refine ⟨_, Qb h, trivial, ?_⟩
      exact (ai (ai rfl (trivial)) k1)
     rintro P t5 hs hf ⟨⟨t6, -⟩, k2⟩
     refine Vy _ (kc (kT hs 0 (lv A2 p1 c3)) (kc (kT hs 2 (pt g5 0)) (kc (kT hs 3 (pt g9 0)) (kc (kT hs 4 (iv c)) k0)))) ?_
     exact ⟨b6, ⟨K, K, K, K, trivial⟩, SP.sel k2 [0, 1] rfl rfl, H⟩
    obtain ⟨b7, e0, e1, l0, H⟩ := Qn H
    obtain ⟨p, l1, H⟩ := Va H
    obtain ⟨u, a6, a7, b8, H⟩ := Qn H
    obtain ⟨b3, b4, b5, e2, H⟩ := Qn H
    obtain ⟨a2, l2, H⟩ := Va H
    obtain ⟨a3, a8, a9, b9, H⟩ := Qn H
    obtain ⟨t7, e3, e4, t8, H⟩ := Qn H
    obtain ⟨c0, hyl2156, H⟩ := Vp H
    have hnl2156 : List.length c0 = List.length o := by rw [← hyl2156, List.length_set]
    refine aG [GEq (iv c), GEq (iv c), GEq (iv (IntKind.wrap .i64 (c - 2))), Vk (some ⟨g9, 0, none⟩) (Qg .u32).sz (IntKind.wrap .i64 (c - 2)), GEq (.int .u32 b7), GEq (.int .u32 p), GEq (iv c), GEq (iv (IntKind.wrap .i64 (c - 7))), Vk (some ⟨g9, 0, none⟩) (Qg .u32).sz (IntKind.wrap .i64 (c - 7)), GEq (.int .u32 u), GEq (.int .u32 (IntKind.wrap .u32 (p + u))), GEq (iv c), GEq (iv (IntKind.wrap .i64 (c - 15))), Vk (some ⟨g9, 0, none⟩) (Qg .u32).sz (IntKind.wrap .i64 (c - 15)), GEq (.int .u32 b3), GEq (.int .u32 a2), GEq (.int .u32 (IntKind.wrap .u32 ((IntKind.wrap .u32 (p + u)) + a2))), GEq (iv c), GEq (iv (IntKind.wrap .i64 (c - 16))), Vk (some ⟨g9, 0, none⟩) (Qg .u32).sz (IntKind.wrap .i64 (c - 16)), GEq (.int .u32 a3), GEq (.int .u32 (IntKind.wrap .u32 ((IntKind.wrap .u32 ((IntKind.wrap .u32 (p + u)) + a2)) + a3))), Vk (some ⟨g9, 0, none⟩) (Qg .u32).sz c, Ii] [5, 15, 23] [sG [] [] [] w0 [Q7 359 (Qg .u32) g5 64 (List.replicate 64 0), Q7 359 (Qg .u32) g9 64 o], sG [5] [(.int .u32 p)] [] w0 [Q7 359 (Qg .u32) g5 64 (List.replicate 64 0), Q7 359 (Qg .u32) g9 64 o], sG [5, 15] [(.int .u32 p), (.int .u32 a2)] [] w0 [Q7 359 (Qg .u32) g5 64 (List.replicate 64 0), Q7 359 (Qg .u32) g9 64 o], sG [5, 15, 23] [(.int .u32 p), (.int .u32 a2), undef] [] w0 [Q7 359 (Qg .u32) g5 64 (List.replicate 64 0), Q7 359 (Qg .u32) g9 64 c0]] 24 3 ⟨trivial, SP.drew a4⟩ ?_ ?_
    iterate 24 refine And.intro ?_ ?_
    exact trivial
    ·exact oU (hC (hS 4 (iv c)) (h0))
    ·exact oU (hC (hS 4 (iv c)) (h0))
    ·exact oU (hC (hA 1 47) (h0))
    ·refine oL 0 ?_
     rintro P W hs f ⟨-, l3⟩
     refine kM (kc (kS hs 3 (pt g9 0)) (kc (kA f 2 48) k0)) fun h => ?_
     refine Qe (e := (Qg .u32)) (l := o) (m := 64) (g := g9) (T := 359) (E := 43) (x := (.tmp 3)) (ix := (.tmp 48)) (ki := .i64) (iz := (IntKind.wrap .i64 (c - 2))) (i := 1) (d := (some 49)) (k := 3) K rfl K K K K l3 rfl e0 e1 ?_
     exact ⟨rfl, _, Qb h, ⟨g9, 0, rfl, rfl⟩⟩
    ·refine oL 0 ?_
     rintro P W hs f ⟨-, l4⟩
     obtain ⟨l5, l6, l7, l8⟩ := f 3 49 K
     refine kM (kc l8 k0) fun h => ?_
     refine sC 43 49 l5 (l6 + Int.toNat (IntKind.wrap .i64 (c - 2)) * (Qg .u32).sz) (.int .u32 b7) 50 (Qi (e := (Qg .u32)) (Qj (Qp (SP.get l4 (i := 1) rfl)) l7 e0 e1) l0 (j := 0) rfl) ?_
     exact eK h
    ·refine oH 0 1 ?_
     rintro P W hs f ⟨-, l9⟩
     refine kM (kc (kA f 4 50) k0) fun h => ?_
     refine cS l9 285 #[(.tmp 50), (.const (.int .i64 (17))), (.const (.int .i64 (19))), (.const (.int .i64 (10)))] #[43, 3, 3, 3] 51 Tryz.call285 (Xq  b7 17 19 10 W  p l1) ?_
     intro t9 m0
     refine ⟨_, Qb h, rfl, ?_⟩
     exact (ai (ai rfl (trivial)) m0)
    ·exact oU (hC (hS 4 (iv c)) (h0))
    ·exact oU (hC (hA 6 52) (h0))
    ·refine Owe.light K [0, 1, 2] K (Qc ?_ (Qc ?_ (Qc ?_ Qz)))
     ·rintro P W hs f ⟨-, m1⟩
      refine kM (kc (kS hs 3 (pt g9 0)) (kc (kA f 7 53) k0)) fun h => ?_
      refine Qe (e := (Qg .u32)) (l := o) (m := 64) (g := g9) (T := 359) (E := 43) (x := (.tmp 3)) (ix := (.tmp 53)) (ki := .i64) (iz := (IntKind.wrap .i64 (c - 7))) (i := 1) (d := (some 54)) (k := 8) K rfl K K K K m1 rfl a6 a7 ?_
      exact ⟨rfl, _, Qb h, ⟨g9, 0, rfl, rfl⟩⟩
     ·rintro P W hs f ⟨⟨u0, -⟩, m2⟩
      refine kM (kc (kS hs 3 (pt g9 0)) (kc (kA f 7 53) k0)) fun h => ?_
      refine Qe (e := (Qg .u32)) (l := o) (m := 64) (g := g9) (T := 359) (E := 43) (x := (.tmp 3)) (ix := (.tmp 53)) (ki := .i64) (iz := (IntKind.wrap .i64 (c - 7))) (i := 1) (d := (some 54)) (k := 8) K rfl K K K K m2 rfl a6 a7 ?_
      exact ⟨rfl, _, Qb h, ⟨g9, 0, rfl, rfl⟩⟩
     rintro P W hs f ⟨⟨u1, u2, -⟩, m3⟩
     refine kM (kc (kS hs 3 (pt g9 0)) (kc (kA f 7 53) k0)) fun h => ?_
     refine Qe (e := (Qg .u32)) (l := o) (m := 64) (g := g9) (T := 359) (E := 43) (x := (.tmp 3)) (ix := (.tmp 53)) (ki := .i64) (iz := (IntKind.wrap .i64 (c - 7))) (i := 1) (d := (some 54)) (k := 8) K rfl K K K K m3 rfl a6 a7 ?_
     exact ⟨rfl, _, Qb h, ⟨g9, 0, rfl, rfl⟩⟩
    ·refine Owe.light K [0, 1, 2] K (Qc ?_ (Qc ?_ (Qc ?_ Qz)))
     ·rintro P W hs f ⟨-, m4⟩
      obtain ⟨m5, m6, m7, b0⟩ := f 8 54 K
      refine kM (kc b0 k0) fun h => ?_
      refine sC 43 54 m5 (m6 + Int.toNat (IntKind.wrap .i64 (c - 7)) * (Qg .u32).sz) (.int .u32 u) 55 (Qi (e := (Qg .u32)) (Qj (Qp (SP.get m4 (i := 1) rfl)) m7 a6 a7) b8 (j := 0) rfl) ?_
      exact eK h
     ·rintro P W hs f ⟨⟨u3, -⟩, m8⟩
      obtain ⟨m9, o0, o1, b0⟩ := f 8 54 K
      refine kM (kc b0 k0) fun h => ?_
      refine sC 43 54 m9 (o0 + Int.toNat (IntKind.wrap .i64 (c - 7)) * (Qg .u32).sz) (.int .u32 u) 55 (Qi (e := (Qg .u32)) (Qj (Qp (SP.get m8 (i := 1) rfl)) o1 a6 a7) b8 (j := 0) rfl) ?_
      exact eK h
     rintro P W hs f ⟨⟨u4, u5, -⟩, o2⟩
     obtain ⟨o3, o4, o5, b0⟩ := f 8 54 K
     refine kM (kc b0 k0) fun h => ?_
     refine sC 43 54 o3 (o4 + Int.toNat (IntKind.wrap .i64 (c - 7)) * (Qg .u32).sz) (.int .u32 u) 55 (Qi (e := (Qg .u32)) (Qj (Qp (SP.get o2 (i := 1) rfl)) o5 a6 a7) b8 (j := 0) rfl) ?_
     exact eK h
    ·exact oU (hC (hA 5 51) (hC (hA 9 55) (h0)))
    ·exact oU (hC (hS 4 (iv c)) (h0))
    ·exact oU (hC (hA 11 57) (h0))
    ·refine Owe.light K [0, 1] K (Qc ?_ (Qc ?_ Qz))
     ·rintro P W hs f ⟨-, o6⟩
      refine kM (kc (kS hs 3 (pt g9 0)) (kc (kA f 12 58) k0)) fun h => ?_
      refine Qe (e := (Qg .u32)) (l := o) (m := 64) (g := g9) (T := 359) (E := 43) (x := (.tmp 3)) (ix := (.tmp 58)) (ki := .i64) (iz := (IntKind.wrap .i64 (c - 15))) (i := 1) (d := (some 59)) (k := 13) K rfl K K K K o6 rfl b4 b5 ?_
      exact ⟨rfl, _, Qb h, ⟨g9, 0, rfl, rfl⟩⟩
     rintro P W hs f ⟨⟨u6, -⟩, o7⟩
     refine kM (kc (kS hs 3 (pt g9 0)) (kc (kA f 12 58) k0)) fun h => ?_
     refine Qe (e := (Qg .u32)) (l := o) (m := 64) (g := g9) (T := 359) (E := 43) (x := (.tmp 3)) (ix := (.tmp 58)) (ki := .i64) (iz := (IntKind.wrap .i64 (c - 15))) (i := 1) (d := (some 59)) (k := 13) K rfl K K K K o7 rfl b4 b5 ?_
     exact ⟨rfl, _, Qb h, ⟨g9, 0, rfl, rfl⟩⟩
    ·refine Owe.light K [0, 1] K (Qc ?_ (Qc ?_ Qz))
     ·rintro P W hs f ⟨-, o8⟩
      obtain ⟨o9, p0, p2, c1⟩ := f 13 59 K
      refine kM (kc c1 k0) fun h => ?_
      refine sC 43 59 o9 (p0 + Int.toNat (IntKind.wrap .i64 (c - 15)) * (Qg .u32).sz) (.int .u32 b3) 60 (Qi (e := (Qg .u32)) (Qj (Qp (SP.get o8 (i := 1) rfl)) p2 b4 b5) e2 (j := 0) rfl) ?_
      exact eK h
     rintro P W hs f ⟨⟨u7, -⟩, p3⟩
     obtain ⟨p4, p5, p6, c1⟩ := f 13 59 K
     refine kM (kc c1 k0) fun h => ?_
     refine sC 43 59 p4 (p5 + Int.toNat (IntKind.wrap .i64 (c - 15)) * (Qg .u32).sz) (.int .u32 b3) 60 (Qi (e := (Qg .u32)) (Qj (Qp (SP.get p3 (i := 1) rfl)) p6 b4 b5) e2 (j := 0) rfl) ?_
     exact eK h
    ·refine oH 1 2 ?_
     rintro P W hs f ⟨⟨p7, -⟩, p8⟩
     refine kM (kc (kA f 14 60) k0) fun h => ?_
     refine cS p8 285 #[(.tmp 60), (.const (.int .i64 (7))), (.const (.int .i64 (18))), (.const (.int .i64 (3)))] #[43, 3, 3, 3] 61 Tryz.call285 (Xq  b3 7 18 3 W  a2 l2) ?_
     intro u9 p9
     refine ⟨_, Qb h, rfl, ?_⟩
     exact (ai (ai p7 (ai rfl (trivial))) p9)
    ·exact oU (hC (hA 10 56) (hC (hA 15 61) (h0)))
    ·exact oU (hC (hS 4 (iv c)) (h0))
    ·exact oU (hC (hA 17 63) (h0))
    ·refine Owe.light K [0, 1, 2] K (Qc ?_ (Qc ?_ (Qc ?_ Qz)))
     ·rintro P W hs f ⟨-, q0⟩
      refine kM (kc (kS hs 3 (pt g9 0)) (kc (kA f 18 64) k0)) fun h => ?_
      refine Qe (e := (Qg .u32)) (l := o) (m := 64) (g := g9) (T := 359) (E := 43) (x := (.tmp 3)) (ix := (.tmp 64)) (ki := .i64) (iz := (IntKind.wrap .i64 (c - 16))) (i := 1) (d := (some 65)) (k := 19) K rfl K K K K q0 rfl a8 a9 ?_
      exact ⟨rfl, _, Qb h, ⟨g9, 0, rfl, rfl⟩⟩
     ·rintro P W hs f ⟨⟨v0, -⟩, q1⟩
      refine kM (kc (kS hs 3 (pt g9 0)) (kc (kA f 18 64) k0)) fun h => ?_
      refine Qe (e := (Qg .u32)) (l := o) (m := 64) (g := g9) (T := 359) (E := 43) (x := (.tmp 3)) (ix := (.tmp 64)) (ki := .i64) (iz := (IntKind.wrap .i64 (c - 16))) (i := 1) (d := (some 65)) (k := 19) K rfl K K K K q1 rfl a8 a9 ?_
      exact ⟨rfl, _, Qb h, ⟨g9, 0, rfl, rfl⟩⟩
     rintro P W hs f ⟨⟨v1, v2, -⟩, q2⟩
     refine kM (kc (kS hs 3 (pt g9 0)) (kc (kA f 18 64) k0)) fun h => ?_
     refine Qe (e := (Qg .u32)) (l := o) (m := 64) (g := g9) (T := 359) (E := 43) (x := (.tmp 3)) (ix := (.tmp 64)) (ki := .i64) (iz := (IntKind.wrap .i64 (c - 16))) (i := 1) (d := (some 65)) (k := 19) K rfl K K K K q2 rfl a8 a9 ?_
     exact ⟨rfl, _, Qb h, ⟨g9, 0, rfl, rfl⟩⟩
    ·refine Owe.light K [0, 1, 2] K (Qc ?_ (Qc ?_ (Qc ?_ Qz)))
     ·rintro P W hs f ⟨-, q3⟩
      obtain ⟨q4, q5, q6, b1⟩ := f 19 65 K
      refine kM (kc b1 k0) fun h => ?_
      refine sC 43 65 q4 (q5 + Int.toNat (IntKind.wrap .i64 (c - 16)) * (Qg .u32).sz) (.int .u32 a3) 66 (Qi (e := (Qg .u32)) (Qj (Qp (SP.get q3 (i := 1) rfl)) q6 a8 a9) b9 (j := 0) rfl) ?_
      exact eK h
     ·rintro P W hs f ⟨⟨v3, -⟩, q7⟩
      obtain ⟨q8, q9, r0, b1⟩ := f 19 65 K
      refine kM (kc b1 k0) fun h => ?_
      refine sC 43 65 q8 (q9 + Int.toNat (IntKind.wrap .i64 (c - 16)) * (Qg .u32).sz) (.int .u32 a3) 66 (Qi (e := (Qg .u32)) (Qj (Qp (SP.get q7 (i := 1) rfl)) r0 a8 a9) b9 (j := 0) rfl) ?_
      exact eK h
     rintro P W hs f ⟨⟨v4, v5, -⟩, r1⟩
     obtain ⟨r2, r3, r4, b1⟩ := f 19 65 K
     refine kM (kc b1 k0) fun h => ?_
     refine sC 43 65 r2 (r3 + Int.toNat (IntKind.wrap .i64 (c - 16)) * (Qg .u32).sz) (.int .u32 a3) 66 (Qi (e := (Qg .u32)) (Qj (Qp (SP.get r1 (i := 1) rfl)) r4 a8 a9) b9 (j := 0) rfl) ?_
     exact eK h
    ·exact oU (hC (hA 16 62) (hC (hA 20 66) (h0)))
    ·refine oL 2 ?_
     rintro P W hs f ⟨⟨v6, v7, -⟩, r5⟩
     refine kM (kc (kS hs 3 (pt g9 0)) (kc (kA f 0 46) k0)) fun h => ?_
     refine Qe (e := (Qg .u32)) (l := o) (m := 64) (g := g9) (T := 359) (E := 43) (x := (.tmp 3)) (ix := (.tmp 46)) (ki := .i64) (iz := c) (i := 1) (d := (some 68)) (k := 22) K rfl K K K K r5 rfl e3 e4 ?_
     exact ⟨rfl, _, Qb h, ⟨g9, 0, rfl, rfl⟩⟩
    ·refine oH 2 3 ?_
     rintro P W hs f ⟨⟨r6, r7, -⟩, r8⟩
     obtain ⟨r9, s0, s1, s2⟩ := f 22 68 K
     refine kM (kc s2 (kc (kA f 21 67) k0)) fun h => ?_
     refine Vf (e := (Qg .u32)) (t := 43) (x := (.tmp 68)) (y := (.tmp 67)) (l := o) (iz := c) (m := 64) (g := g9) (b := r9) (off := s0) (i := 1) (v := (.int .u32 (IntKind.wrap .u32 ((IntKind.wrap .u32 ((IntKind.wrap .u32 (p + u)) + a2)) + a3)))) (x' := (IntKind.wrap .u32 ((IntKind.wrap .u32 ((IntKind.wrap .u32 (p + u)) + a2)) + a3))) (d := none) (k := 23) K rfl s1 K K r8 rfl rfl e4 e3 rfl K ?_
     rw [hyl2156]
     intro v8 s3
     refine ⟨_, Qb h, trivial, ?_⟩
     exact (ai (ai r6 (ai r7 (ai rfl (trivial)))) s3)
    rintro P v9 hs hf ⟨⟨w1, w2, w3, -⟩, s4⟩
    refine Vy _ (kc (kT hs 0 (lv A2 p1 c3)) (kc (kT hs 2 (pt g5 0)) (kc (kT hs 3 (pt g9 0)) (kc (kT hs 4 (iv c)) k0)))) ?_
    exact ⟨c0, ⟨K, K, K, K, trivial⟩, SP.sel s4 [0, 1] rfl rfl, H⟩
   rintro ρ w4 ⟨b2, hk, c2, H⟩
   unfold V0 at H
   first | refine At.known _ hk ?_ | rw [← Xc hk]
   have w5 := Qv (SP.get c2 (i := 0) rfl)
   have w7 := Qv (SP.get c2 (i := 1) rfl)
   refine aR ?_
   refine iR 3 3 [(7, (iv c)), (8, (iv (IntKind.wrap .i64 (c + 1)))), (4, (iv (IntKind.wrap .i64 (c + 1))))] ?_
   refine iF ?_
   exact ⟨b2, (IntKind.wrap .i64 (c + 1)), ⟨K, K, K, K, trivial⟩, SP.sel c2 [0, 1] rfl rfl, H⟩
  refine At.exit K (id := 0) K ?_
  refine aC ?_
  refine iS 1 ?_
  refine Vl (e := (Qg .u32)) (l := o) (m := 64) (t := 359) (x := (.tmp 3)) (g := g9) (i := 1) (d := (some 69)) (k := 0) K rfl K a4 rfl K K ?_
  refine iS 2 ?_
  refine Vb (e := (Qg .u32)) (l := (List.replicate 64 0)) (l' := o) (m := 64) (t := 359) (x := (.tmp 2)) (y := (.tmp 69)) (g := g5) (i := 0) (d := none) (k := 1) K rfl K K e9 a4 rfl K ?_
  intro w8 e5
  refine iF ?_
  refine At.ret K ?_
  refine ⟨(.agg (Qd (Qg .u32) o).toArray), Bb K (Y0 (e := (Qg .u32)) (l := o) (a := 2) (t := 359) K (SP.get e5 (i := 0) rfl) K K), ?_⟩
  obtain rfl := Zd H
  exact ⟨rfl, SP.sel e5 [] rfl rfl⟩
 exact ⟨(List.replicate 64 0), 0, ⟨K, K, K, K, trivial⟩, SP.sel e8 [0, 1] rfl rfl, H⟩
def Zz (h : (List Int) → Int → Option ((List Int))) (c : (List Int) → Int → Option ((List Int))) (d : (List Int)) (b : (List Int)) (a : Int) : Option ((List Int)) :=
  (cond (decide (a < 8)) ((idx b a).bind fun e => ((idx d a).bind fun f => ((idx b a).bind fun i => ((some (List.set b (Int.toNat a) (IntKind.wrap .u32 (e + f)))).bind fun g => (c g (IntKind.wrap .i64 (a + 1))))))) (some (b)))
def Za (a : (List Int) → Int → Option ((List Int))) (b : (List Int)) : Nat → (List Int) → Int → Option ((List Int))
  | 0, _, _ => none
  | f + 1, c, d => Zz a (Za a b f) b c d
def Z0 (c : (List Int) → Int → Option ((List Int))) (p1 : (List Int)) (l : ((List Int))) (m : ((List Int))) (a : (List Int)) (b : Int) : Option ((List Int)) :=
  (cond (decide (b < 64)) ((idx a 7).bind fun d => ((idx a 4).bind fun n => ((Zs n 6 11 25).bind fun e => ((idx a 4).bind fun f => ((idx a 5).bind fun g => ((idx a 4).bind fun h => ((idx a 6).bind fun i => ((idx l b).bind fun j => ((idx m b).bind fun k => ((idx a 0).bind fun o => ((Zs o 2 13 22).bind fun p => ((idx a 0).bind fun q => ((idx a 1).bind fun r => ((idx a 0).bind fun s => ((idx a 2).bind fun t => ((idx a 1).bind fun u => ((idx a 2).bind fun v => ((idx a 0).bind fun w => ((idx a 1).bind fun x => ((idx a 2).bind fun y => ((idx a 3).bind fun z => ((idx a 4).bind fun a0 => ((idx a 5).bind fun a1 => ((idx a 6).bind fun a2 => (c ([(IntKind.wrap .u32 ((IntKind.wrap .u32 ((IntKind.wrap .u32 ((IntKind.wrap .u32 ((IntKind.wrap .u32 (d + e)) + (Vw .u32 (Vr .u32 f g) (Vr .u32 (Vw .u32 (IntKind.max .u32) h) i)))) + j)) + k)) + (IntKind.wrap .u32 (p + (Vw .u32 (Vw .u32 (Vr .u32 q r) (Vr .u32 s t)) (Vr .u32 u v)))))), w, x, y, (IntKind.wrap .u32 (z + (IntKind.wrap .u32 ((IntKind.wrap .u32 ((IntKind.wrap .u32 ((IntKind.wrap .u32 (d + e)) + (Vw .u32 (Vr .u32 f g) (Vr .u32 (Vw .u32 (IntKind.max .u32) h) i)))) + j)) + k)))), a0, a1, a2] : List Int) (IntKind.wrap .i64 (b + 1))))))))))))))))))))))))))) (Za c a Ji p1 0))
def Vj (p1 : (List Int)) (a : ((List Int))) (b : ((List Int))) : Nat → (List Int) → Int → Option ((List Int))
  | 0, _, _ => none
  | f + 1, c, d => Z0  (Vj p1 a b f) p1 a b c d
def Xo (p1 : (List Int)) (p3 : (List UInt8)) : Option ((List Int)) :=
  ((Xn ).bind fun a => ((chk (Nat.beq (List.length a) 64)).bind fun _ => ((Zy p3).bind fun b => ((chk (Nat.beq (List.length b) 64)).bind fun _ => (Vj p1 a b Ji p1 0)))))
set_option maxHeartbeats 40000000 in
theorem Jl (A4 : Option Addr) (c5 : Nat) (p1 : (List Int)) (p3 : Bs) (w0 : World) (i6 : List.length p1 = 8) (o5 : RdT eU8 w0 A4 c5 p3) (r : ((List Int))) (H : Xo p1 p3 = some r) :
  Calls Tryz.prog 156 #[(.agg (Qd (Qg .u32) p1).toArray), (lv A4 p3 c5)] w0 (fun e W => e = .returned (.agg (Qd (Qg .u32) r).toArray) ∧ SP [] w0 W []) := by
 unfold Xo at H
 refine Z1 (n := 102) Tryz.func156 K K K ?_
 have o6 := SP.start [] w0
 refine aC ?_
 refine iS 1 ?_
 refine Nc (e := (Qg .u32)) (l := p1) (m := 8) (t := 270) (x := (.tmp 0)) (d := (some 2)) (k := 0) K rfl K i6 K o6 ?_
 intro g7 w8 o7
 refine iS 2 ?_
 refine Q1 (e := (Qg .u32)) (l := (List.replicate 8 0)) (m := 8) (t := 270) (z := .agg (Qd (Qg .u32) (List.replicate 8 0)).toArray) (d := (some 4)) (k := 1) K rfl K rfl rfl K o7 ?_
 intro b6 o8 o9
 refine iF ?_
 refine aC ?_
 obtain ⟨b0, p0, H⟩ := Va H
 obtain ⟨g6, H⟩ := V7 H
 replace g6 := Nat.eq_of_beq_eq_true g6
 refine iS 1 ?_
 refine cS o9 233 #[] #[] 12 Tryz.call233 (Jk   o8  b0 p0) ?_
 intro w18 p2
 refine iS 2 ?_
 refine Q1 (e := (Qg .u32)) (l := (List.replicate 64 0)) (m := 64) (t := 359) (z := .agg (Qd (Qg .u32) (List.replicate 64 0)).toArray) (d := (some 5)) (k := 1) K rfl K rfl rfl K p2 ?_
 intro a7 w23 p4
 refine iS 3 ?_
 refine Vb (e := (Qg .u32)) (l := (List.replicate 64 0)) (l' := b0) (m := 64) (t := 359) (x := (.tmp 5)) (y := (.tmp 12)) (g := a7) (i := 2) (d := none) (k := 2) K rfl K K g6 p4 rfl K ?_
 intro p5 i7
 refine iF ?_
 refine aC ?_
 refine iR 1 1 [(13, (lv A4 p3 c5))] ?_
 obtain ⟨b1, p6, H⟩ := Va H
 obtain ⟨g8, H⟩ := V7 H
 replace g8 := Nat.eq_of_beq_eq_true g8
 refine iS 2 ?_
 refine cS i7 234 #[(.tmp 13)] #[51] 14 Tryz.call234 (Y6 A4 c5 p3 p5 (RdT.sp o5 i7) b1 p6) ?_
 intro w32 p7
 refine iS 3 ?_
 refine Q1 (e := (Qg .u32)) (l := (List.replicate 64 0)) (m := 64) (t := 359) (z := .agg (Qd (Qg .u32) (List.replicate 64 0)).toArray) (d := (some 6)) (k := 2) K rfl K rfl rfl K p7 ?_
 intro a8 w37 p8
 refine iS 4 ?_
 refine Vb (e := (Qg .u32)) (l := (List.replicate 64 0)) (l' := b1) (m := 64) (t := 359) (x := (.tmp 6)) (y := (.tmp 14)) (g := a8) (i := 3) (d := none) (k := 3) K rfl K K g8 p8 rfl K ?_
 intro w40 i8
 refine iF ?_
 refine aC ?_
 refine iS 1 ?_
 refine Vl (e := (Qg .u32)) (l := p1) (m := 8) (t := 270) (x := (.tmp 2)) (g := g7) (i := 0) (d := (some 15)) (k := 0) K rfl K i8 rfl K K ?_
 refine iS 2 ?_
 refine Q1 (e := (Qg .u32)) (l := (List.replicate 8 0)) (m := 8) (t := 270) (z := .agg (Qd (Qg .u32) (List.replicate 8 0)).toArray) (d := (some 7)) (k := 1) K rfl K rfl rfl K i8 ?_
 intro f w44 p9
 refine iS 3 ?_
 refine Vb (e := (Qg .u32)) (l := (List.replicate 8 0)) (l' := p1) (m := 8) (t := 270) (x := (.tmp 7)) (y := (.tmp 15)) (g := f) (i := 4) (d := none) (k := 2) K rfl K K i6 p9 rfl K ?_
 intro w47 q0
 refine iF ?_
 refine aQ ?_
 refine aC ?_
 refine iR 1 1 [(8, (iv 0))] ?_
 refine iF ?_
 refine Xu K (id := 0) K ?_
 refine U1 K (fun f4 ρ w => ∃ (o : (List Int)) (p : Int), Z5 ρ [(2, (pt g7 0)), (4, (pt b6 0)), (5, (pt a7 0)), (6, (pt a8 0)), (7, (pt f 0)), (8, (iv p))] ∧ SP [] w0 w [Q7 270 (Qg .u32) g7 8 p1, Q7 270 (Qg .u32) b6 8 (List.replicate 8 0), Q7 359 (Qg .u32) a7 64 b0, Q7 359 (Qg .u32) a8 64 b1, Q7 270 (Qg .u32) f 8 o] ∧ Vj p1 b0 b1 f4 o p = some r) (by rintro ρ w ⟨o, p, hk, hs, H⟩; cases H) ?_ Ji ?_
 ·rintro f4 ρ aj2 ⟨o, p, hk, c0, H⟩
  refine At.known _ hk ?_
  replace H := (show Z0 (Vj p1 b0 b1 f4) p1 b0 b1 o p = some r from H)
  unfold Z0 at H
  have aj3 := Qv (SP.get c0 (i := 0) rfl)
  have aj4 := Qv (SP.get c0 (i := 1) rfl)
  have aj5 := Qv (SP.get c0 (i := 2) rfl)
  have aj6 := Qv (SP.get c0 (i := 3) rfl)
  have aj7 := Qv (SP.get c0 (i := 4) rfl)
  refine aQ ?_
  refine aC ?_
  refine iR 2 2 [(16, (iv p)), (17, (bv (decide (p < 64))))] ?_
  refine iF ?_
  refine cD 17 H (fun H => ?_) fun H => ?_
  ·refine At.skip K ?_
   refine aQ ?_
   refine Xu K (id := 1) K ?_
   refine aQ ?_
   obtain ⟨a2, d2, d3, i9, H⟩ := Qn H
   obtain ⟨g9, j0, j1, q1, H⟩ := Qn H
   obtain ⟨a3, q2, H⟩ := Va H
   obtain ⟨u, d4, d5, j2, H⟩ := Qn H
   obtain ⟨a0, d6, d7, j3, H⟩ := Qn H
   obtain ⟨s, d8, d9, j4, H⟩ := Qn H
   obtain ⟨a1, e0, e1, j5, H⟩ := Qn H
   obtain ⟨a4, e2, e3, j6, H⟩ := Qn H
   obtain ⟨a5, e4, e5, j7, H⟩ := Qn H
   refine aG [Vk (some ⟨f, 0, none⟩) (Qg .u32).sz 7, GEq (.int .u32 a2), Vk (some ⟨f, 0, none⟩) (Qg .u32).sz 4, GEq (.int .u32 g9), GEq (.int .u32 a3), GEq (.int .u32 (IntKind.wrap .u32 (a2 + a3))), Vk (some ⟨f, 0, none⟩) (Qg .u32).sz 4, GEq (.int .u32 u), Vk (some ⟨f, 0, none⟩) (Qg .u32).sz 5, GEq (.int .u32 a0), GEq (.int .u32 (Vr .u32 u a0)), Vk (some ⟨f, 0, none⟩) (Qg .u32).sz 4, GEq (.int .u32 s), GEq (.int .u32 (Vw .u32 (IntKind.max .u32) s)), Vk (some ⟨f, 0, none⟩) (Qg .u32).sz 6, GEq (.int .u32 a1), GEq (.int .u32 (Vr .u32 (Vw .u32 (IntKind.max .u32) s) a1)), GEq (.int .u32 (Vw .u32 (Vr .u32 u a0) (Vr .u32 (Vw .u32 (IntKind.max .u32) s) a1))), GEq (.int .u32 (IntKind.wrap .u32 ((IntKind.wrap .u32 (a2 + a3)) + (Vw .u32 (Vr .u32 u a0) (Vr .u32 (Vw .u32 (IntKind.max .u32) s) a1))))), GEq (iv p), Vk (some ⟨a7, 0, none⟩) (Qg .u32).sz p, GEq (.int .u32 a4), GEq (.int .u32 (IntKind.wrap .u32 ((IntKind.wrap .u32 ((IntKind.wrap .u32 (a2 + a3)) + (Vw .u32 (Vr .u32 u a0) (Vr .u32 (Vw .u32 (IntKind.max .u32) s) a1)))) + a4))), GEq (iv p), Vk (some ⟨a8, 0, none⟩) (Qg .u32).sz p, GEq (.int .u32 a5), GEq (.int .u32 (IntKind.wrap .u32 ((IntKind.wrap .u32 ((IntKind.wrap .u32 ((IntKind.wrap .u32 (a2 + a3)) + (Vw .u32 (Vr .u32 u a0) (Vr .u32 (Vw .u32 (IntKind.max .u32) s) a1)))) + a4)) + a5))), GEq (.int .u32 (IntKind.wrap .u32 ((IntKind.wrap .u32 ((IntKind.wrap .u32 ((IntKind.wrap .u32 (a2 + a3)) + (Vw .u32 (Vr .u32 u a0) (Vr .u32 (Vw .u32 (IntKind.max .u32) s) a1)))) + a4)) + a5)))] [4] (tG [] w0 [Q7 270 (Qg .u32) g7 8 p1, Q7 270 (Qg .u32) b6 8 (List.replicate 8 0), Q7 359 (Qg .u32) a7 64 b0, Q7 359 (Qg .u32) a8 64 b1, Q7 270 (Qg .u32) f 8 o] [([], []), ([4], [(.int .u32 a3)])]) 28 1 ⟨trivial, SP.drew c0⟩ ?_ ?_
   iterate 28 refine And.intro ?_ ?_
   exact trivial
   ·refine Owe.light K [0, 1] K (Qc ?_ (Qc ?_ Qz))
    ·rintro P W hs h ⟨-, q3⟩
     refine kM (kc (kS hs 7 (pt f 0)) k0) fun c => ?_
     refine Qe (e := (Qg .u32)) (l := o) (m := 8) (g := f) (T := 270) (E := 43) (x := (.tmp 7)) (ix := (.const (.int .i64 (7)))) (ki := .i64) (iz := 7) (i := 4) (d := (some 20)) (k := 0) K rfl K K K K q3 rfl d2 d3 ?_
     exact ⟨rfl, _, Qb c, ⟨f, 0, rfl, rfl⟩⟩
    rintro P W hs h ⟨⟨aj8, -⟩, q4⟩
    refine kM (kc (kS hs 7 (pt f 0)) k0) fun c => ?_
    refine Qe (e := (Qg .u32)) (l := o) (m := 8) (g := f) (T := 270) (E := 43) (x := (.tmp 7)) (ix := (.const (.int .i64 (7)))) (ki := .i64) (iz := 7) (i := 4) (d := (some 20)) (k := 0) K rfl K K K K q4 rfl d2 d3 ?_
    exact ⟨rfl, _, Qb c, ⟨f, 0, rfl, rfl⟩⟩
   ·refine Owe.light K [0, 1] K (Qc ?_ (Qc ?_ Qz))
    ·rintro P W hs h ⟨-, q5⟩
     obtain ⟨q6, q7, q8, h1⟩ := h 0 20 K
     refine kM (kc h1 k0) fun c => ?_
     refine sC 43 20 q6 (q7 + Int.toNat 7 * (Qg .u32).sz) (.int .u32 a2) 21 (Qi (e := (Qg .u32)) (Qj (Qp (SP.get q5 (i := 4) rfl)) q8 d2 d3) i9 (j := 0) rfl) ?_
     exact eK c
    rintro P W hs h ⟨⟨aj9, -⟩, q9⟩
    obtain ⟨r0, r1, r2, h1⟩ := h 0 20 K
    refine kM (kc h1 k0) fun c => ?_
    refine sC 43 20 r0 (r1 + Int.toNat 7 * (Qg .u32).sz) (.int .u32 a2) 21 (Qi (e := (Qg .u32)) (Qj (Qp (SP.get q9 (i := 4) rfl)) r2 d2 d3) i9 (j := 0) rfl) ?_
    exact eK c
   ·refine oL 0 ?_
    rintro P W hs h ⟨-, r3⟩
    refine kM (kc (kS hs 7 (pt f 0)) k0) fun c => ?_
    refine Qe (e := (Qg .u32)) (l := o) (m := 8) (g := f) (T := 270) (E := 43) (x := (.tmp 7)) (ix := (.const (.int .i64 (4)))) (ki := .i64) (iz := 4) (i := 4) (d := (some 22)) (k := 2) K rfl K K K K r3 rfl j0 j1 ?_
    exact ⟨rfl, _, Qb c, ⟨f, 0, rfl, rfl⟩⟩
   ·refine oL 0 ?_
    rintro P W hs h ⟨-, r4⟩
    obtain ⟨r5, r6, r7, r8⟩ := h 2 22 K
    refine kM (kc r8 k0) fun c => ?_
    refine sC 43 22 r5 (r6 + Int.toNat 4 * (Qg .u32).sz) (.int .u32 g9) 23 (Qi (e := (Qg .u32)) (Qj (Qp (SP.get r4 (i := 4) rfl)) r7 j0 j1) q1 (j := 0) rfl) ?_
    exact eK c
   ·refine oH 0 1 ?_
    rintro P W hs h ⟨-, r9⟩
    refine kM (kc (kA h 3 23) k0) fun c => ?_
    refine cS r9 235 #[(.tmp 23), (.const (.int .i64 (6))), (.const (.int .i64 (11))), (.const (.int .i64 (25)))] #[43, 3, 3, 3] 24 Tryz.call235 (Xr  g9 6 11 25 W  a3 q2) ?_
    intro ak0 s0
    refine ⟨_, Qb c, rfl, ?_⟩
    exact (ai (ai rfl (trivial)) s0)
   ·exact oU (hC (hA 1 21) (hC (hA 4 24) (h0)))
   ·refine Owe.light K [0, 1] K (Qc ?_ (Qc ?_ Qz))
    ·rintro P W hs h ⟨-, s1⟩
     refine kM (kc (kS hs 7 (pt f 0)) k0) fun c => ?_
     refine Qe (e := (Qg .u32)) (l := o) (m := 8) (g := f) (T := 270) (E := 43) (x := (.tmp 7)) (ix := (.const (.int .i64 (4)))) (ki := .i64) (iz := 4) (i := 4) (d := (some 26)) (k := 6) K rfl K K K K s1 rfl d4 d5 ?_
     exact ⟨rfl, _, Qb c, ⟨f, 0, rfl, rfl⟩⟩
    rintro P W hs h ⟨⟨ak1, -⟩, s2⟩
    refine kM (kc (kS hs 7 (pt f 0)) k0) fun c => ?_
    refine Qe (e := (Qg .u32)) (l := o) (m := 8) (g := f) (T := 270) (E := 43) (x := (.tmp 7)) (ix := (.const (.int .i64 (4)))) (ki := .i64) (iz := 4) (i := 4) (d := (some 26)) (k := 6) K rfl K K K K s2 rfl d4 d5 ?_
    exact ⟨rfl, _, Qb c, ⟨f, 0, rfl, rfl⟩⟩
   ·refine Owe.light K [0, 1] K (Qc ?_ (Qc ?_ Qz))
    ·rintro P W hs h ⟨-, s3⟩
     obtain ⟨s4, s5, s6, h2⟩ := h 6 26 K
     refine kM (kc h2 k0) fun c => ?_
     refine sC 43 26 s4 (s5 + Int.toNat 4 * (Qg .u32).sz) (.int .u32 u) 27 (Qi (e := (Qg .u32)) (Qj (Qp (SP.get s3 (i := 4) rfl)) s6 d4 d5) j2 (j := 0) rfl) ?_
     exact eK c
    rintro P W hs h ⟨⟨ak2, -⟩, s7⟩
    obtain ⟨s8, s9, t0, h2⟩ := h 6 26 K
    refine kM (kc h2 k0) fun c => ?_
    refine sC 43 26 s8 (s9 + Int.toNat 4 * (Qg .u32).sz) (.int .u32 u) 27 (Qi (e := (Qg .u32)) (Qj (Qp (SP.get s7 (i := 4) rfl)) t0 d4 d5) j2 (j := 0) rfl) ?_
    exact eK c
   ·refine Owe.light K [0, 1] K (Qc ?_ (Qc ?_ Qz))
    ·rintro P W hs h ⟨-, t1⟩
     refine kM (kc (kS hs 7 (pt f 0)) k0) fun c => ?_
     refine Qe (e := (Qg .u32)) (l := o) (m := 8) (g := f) (T := 270) (E := 43) (x := (.tmp 7)) (ix := (.const (.int .i64 (5)))) (ki := .i64) (iz := 5) (i := 4) (d := (some 28)) (k := 8) K rfl K K K K t1 rfl d6 d7 ?_
     exact ⟨rfl, _, Qb c, ⟨f, 0, rfl, rfl⟩⟩
    rintro P W hs h ⟨⟨ak3, -⟩, t2⟩
    refine kM (kc (kS hs 7 (pt f 0)) k0) fun c => ?_
    refine Qe (e := (Qg .u32)) (l := o) (m := 8) (g := f) (T := 270) (E := 43) (x := (.tmp 7)) (ix := (.const (.int .i64 (5)))) (ki := .i64) (iz := 5) (i := 4) (d := (some 28)) (k := 8) K rfl K K K K t2 rfl d6 d7 ?_
    exact ⟨rfl, _, Qb c, ⟨f, 0, rfl, rfl⟩⟩
   ·refine Owe.light K [0, 1] K (Qc ?_ (Qc ?_ Qz))
    ·rintro P W hs h ⟨-, t3⟩
     obtain ⟨t4, t5, t6, h3⟩ := h 8 28 K
     refine kM (kc h3 k0) fun c => ?_
     refine sC 43 28 t4 (t5 + Int.toNat 5 * (Qg .u32).sz) (.int .u32 a0) 29 (Qi (e := (Qg .u32)) (Qj (Qp (SP.get t3 (i := 4) rfl)) t6 d6 d7) j3 (j := 0) rfl) ?_
     exact eK c
    rintro P W hs h ⟨⟨ak4, -⟩, t7⟩
    obtain ⟨t8, t9, u0, h3⟩ := h 8 28 K
    refine kM (kc h3 k0) fun c => ?_
    refine sC 43 28 t8 (t9 + Int.toNat 5 * (Qg .u32).sz) (.int .u32 a0) 29 (Qi (e := (Qg .u32)) (Qj (Qp (SP.get t7 (i := 4) rfl)) u0 d6 d7) j3 (j := 0) rfl) ?_
    exact eK c
   ·exact oU (hC (hA 7 27) (hC (hA 9 29) (h0)))
   ·refine Owe.light K [0, 1] K (Qc ?_ (Qc ?_ Qz))
    ·rintro P W hs h ⟨-, u1⟩
     refine kM (kc (kS hs 7 (pt f 0)) k0) fun c => ?_
     refine Qe (e := (Qg .u32)) (l := o) (m := 8) (g := f) (T := 270) (E := 43) (x := (.tmp 7)) (ix := (.const (.int .i64 (4)))) (ki := .i64) (iz := 4) (i := 4) (d := (some 31)) (k := 11) K rfl K K K K u1 rfl d8 d9 ?_
     exact ⟨rfl, _, Qb c, ⟨f, 0, rfl, rfl⟩⟩
    rintro P W hs h ⟨⟨ak5, -⟩, u2⟩
    refine kM (kc (kS hs 7 (pt f 0)) k0) fun c => ?_
    refine Qe (e := (Qg .u32)) (l := o) (m := 8) (g := f) (T := 270) (E := 43) (x := (.tmp 7)) (ix := (.const (.int .i64 (4)))) (ki := .i64) (iz := 4) (i := 4) (d := (some 31)) (k := 11) K rfl K K K K u2 rfl d8 d9 ?_
    exact ⟨rfl, _, Qb c, ⟨f, 0, rfl, rfl⟩⟩
   ·refine Owe.light K [0, 1] K (Qc ?_ (Qc ?_ Qz))
    ·rintro P W hs h ⟨-, u3⟩
     obtain ⟨u4, u5, u6, h4⟩ := h 11 31 K
     refine kM (kc h4 k0) fun c => ?_
     refine sC 43 31 u4 (u5 + Int.toNat 4 * (Qg .u32).sz) (.int .u32 s) 32 (Qi (e := (Qg .u32)) (Qj (Qp (SP.get u3 (i := 4) rfl)) u6 d8 d9) j4 (j := 0) rfl) ?_
     exact eK c
    rintro P W hs h ⟨⟨ak6, -⟩, u7⟩
    obtain ⟨u8, u9, v0, h4⟩ := h 11 31 K
    refine kM (kc h4 k0) fun c => ?_
    refine sC 43 31 u8 (u9 + Int.toNat 4 * (Qg .u32).sz) (.int .u32 s) 32 (Qi (e := (Qg .u32)) (Qj (Qp (SP.get u7 (i := 4) rfl)) v0 d8 d9) j4 (j := 0) rfl) ?_
    exact eK c
   ·exact oU (hC (hA 12 32) (h0))
   ·refine Owe.light K [0, 1] K (Qc ?_ (Qc ?_ Qz))
    ·rintro P W hs h ⟨-, v1⟩
     refine kM (kc (kS hs 7 (pt f 0)) k0) fun c => ?_
     refine Qe (e := (Qg .u32)) (l := o) (m := 8) (g := f) (T := 270) (E := 43) (x := (.tmp 7)) (ix := (.const (.int .i64 (6)))) (ki := .i64) (iz := 6) (i := 4) (d := (some 34)) (k := 14) K rfl K K K K v1 rfl e0 e1 ?_
     exact ⟨rfl, _, Qb c, ⟨f, 0, rfl, rfl⟩⟩
    rintro P W hs h ⟨⟨ak7, -⟩, v2⟩
    refine kM (kc (kS hs 7 (pt f 0)) k0) fun c => ?_
    refine Qe (e := (Qg .u32)) (l := o) (m := 8) (g := f) (T := 270) (E := 43) (x := (.tmp 7)) (ix := (.const (.int .i64 (6)))) (ki := .i64) (iz := 6) (i := 4) (d := (some 34)) (k := 14) K rfl K K K K v2 rfl e0 e1 ?_
    exact ⟨rfl, _, Qb c, ⟨f, 0, rfl, rfl⟩⟩
   ·refine Owe.light K [0, 1] K (Qc ?_ (Qc ?_ Qz))
    ·rintro P W hs h ⟨-, v3⟩
     obtain ⟨v4, v5, v6, h5⟩ := h 14 34 K
     refine kM (kc h5 k0) fun c => ?_
     refine sC 43 34 v4 (v5 + Int.toNat 6 * (Qg .u32).sz) (.int .u32 a1) 35 (Qi (e := (Qg .u32)) (Qj (Qp (SP.get v3 (i := 4) rfl)) v6 e0 e1) j5 (j := 0) rfl) ?_
     exact eK c
    rintro P W hs h ⟨⟨ak8, -⟩, v7⟩
    obtain ⟨v8, v9, w1, h5⟩ := h 14 34 K
    refine kM (kc h5 k0) fun c => ?_
    refine sC 43 34 v8 (v9 + Int.toNat 6 * (Qg .u32).sz) (.int .u32 a1) 35 (Qi (e := (Qg .u32)) (Qj (Qp (SP.get v7 (i := 4) rfl)) w1 e0 e1) j5 (j := 0) rfl) ?_
    exact eK c
   ·exact oU (hC (hA 13 33) (hC (hA 15 35) (h0)))
   ·exact oU (hC (hA 10 30) (hC (hA 16 36) (h0)))
   ·exact oU (hC (hA 5 25) (hC (hA 17 37) (h0)))
   ·exact oU (hC (hS 8 (iv p)) (h0))
   ·refine Owe.light K [0, 1] K (Qc ?_ (Qc ?_ Qz))
    ·rintro P W hs h ⟨-, w2⟩
     refine kM (kc (kS hs 5 (pt a7 0)) (kc (kA h 19 39) k0)) fun c => ?_
     refine Qe (e := (Qg .u32)) (l := b0) (m := 64) (g := a7) (T := 359) (E := 43) (x := (.tmp 5)) (ix := (.tmp 39)) (ki := .i64) (iz := p) (i := 2) (d := (some 40)) (k := 20) K rfl K K K K w2 rfl e2 e3 ?_
     exact ⟨rfl, _, Qb c, ⟨a7, 0, rfl, rfl⟩⟩
    rintro P W hs h ⟨⟨ak9, -⟩, w3⟩
    refine kM (kc (kS hs 5 (pt a7 0)) (kc (kA h 19 39) k0)) fun c => ?_
    refine Qe (e := (Qg .u32)) (l := b0) (m := 64) (g := a7) (T := 359) (E := 43) (x := (.tmp 5)) (ix := (.tmp 39)) (ki := .i64) (iz := p) (i := 2) (d := (some 40)) (k := 20) K rfl K K K K w3 rfl e2 e3 ?_
    exact ⟨rfl, _, Qb c, ⟨a7, 0, rfl, rfl⟩⟩
   ·refine Owe.light K [0, 1] K (Qc ?_ (Qc ?_ Qz))
    ·rintro P W hs h ⟨-, w4⟩
     obtain ⟨w5, w6, w7, h6⟩ := h 20 40 K
     refine kM (kc h6 k0) fun c => ?_
     refine sC 43 40 w5 (w6 + Int.toNat p * (Qg .u32).sz) (.int .u32 a4) 41 (Qi (e := (Qg .u32)) (Qj (Qp (SP.get w4 (i := 2) rfl)) w7 e2 e3) j6 (j := 0) rfl) ?_
     exact eK c
    rintro P W hs h ⟨⟨al0, -⟩, w9⟩
    obtain ⟨x0, x1, x2, h6⟩ := h 20 40 K
    refine kM (kc h6 k0) fun c => ?_
    refine sC 43 40 x0 (x1 + Int.toNat p * (Qg .u32).sz) (.int .u32 a4) 41 (Qi (e := (Qg .u32)) (Qj (Qp (SP.get w9 (i := 2) rfl)) x2 e2 e3) j6 (j := 0) rfl) ?_
    exact eK c
   ·exact oU (hC (hA 18 38) (hC (hA 21 41) (h0)))
   ·exact oU (hC (hS 8 (iv p)) (h0))
   ·refine Owe.light K [0, 1] K (Qc ?_ (Qc ?_ Qz))
    ·rintro P W hs h ⟨-, x3⟩
     refine kM (kc (kS hs 6 (pt a8 0)) (kc (kA h 23 43) k0)) fun c => ?_
     refine Qe (e := (Qg .u32)) (l := b1) (m := 64) (g := a8) (T := 359) (E := 43) (x := (.tmp 6)) (ix := (.tmp 43)) (ki := .i64) (iz := p) (i := 3) (d := (some 44)) (k := 24) K rfl K K K K x3 rfl e4 e5 ?_
     exact ⟨rfl, _, Qb c, ⟨a8, 0, rfl, rfl⟩⟩
    rintro P W hs h ⟨⟨al1, -⟩, x4⟩
    refine kM (kc (kS hs 6 (pt a8 0)) (kc (kA h 23 43) k0)) fun c => ?_
    refine Qe (e := (Qg .u32)) (l := b1) (m := 64) (g := a8) (T := 359) (E := 43) (x := (.tmp 6)) (ix := (.tmp 43)) (ki := .i64) (iz := p) (i := 3) (d := (some 44)) (k := 24) K rfl K K K K x4 rfl e4 e5 ?_
    exact ⟨rfl, _, Qb c, ⟨a8, 0, rfl, rfl⟩⟩
   ·refine Owe.light K [0, 1] K (Qc ?_ (Qc ?_ Qz))
    ·rintro P W hs h ⟨-, x5⟩
     obtain ⟨x6, x7, x8, h7⟩ := h 24 44 K
     refine kM (kc h7 k0) fun c => ?_
     refine sC 43 44 x6 (x7 + Int.toNat p * (Qg .u32).sz) (.int .u32 a5) 45 (Qi (e := (Qg .u32)) (Qj (Qp (SP.get x5 (i := 3) rfl)) x8 e4 e5) j7 (j := 0) rfl) ?_
     exact eK c
    rintro P W hs h ⟨⟨al2, -⟩, x9⟩
    obtain ⟨y0, y1, y2, h7⟩ := h 24 44 K
    refine kM (kc h7 k0) fun c => ?_
    refine sC 43 44 y0 (y1 + Int.toNat p * (Qg .u32).sz) (.int .u32 a5) 45 (Qi (e := (Qg .u32)) (Qj (Qp (SP.get x9 (i := 3) rfl)) y2 e4 e5) j7 (j := 0) rfl) ?_
    exact eK c
   ·exact oU (hC (hA 22 42) (hC (hA 25 45) (h0)))
   ·exact oU (hC (hA 26 46) (h0))
   rintro P al3 hs hf ⟨⟨al4, -⟩, y3⟩
   refine Vy _ (kc (kT hs 2 (pt g7 0)) (kc (kT hs 4 (pt b6 0)) (kc (kT hs 5 (pt a7 0)) (kc (kT hs 6 (pt a8 0)) (kc (kT hs 7 (pt f 0)) (kc (kT hs 8 (iv p)) (kc (kF hf 27 9) k0))))))) ?_
   refine aQ ?_
   obtain ⟨h8, j8, j9, y4, H⟩ := Qn H
   obtain ⟨b9, y5, H⟩ := Va H
   obtain ⟨b2, e6, e7, k1, H⟩ := Qn H
   obtain ⟨b3, e8, e9, k2, H⟩ := Qn H
   obtain ⟨b4, f0, f1, l0, H⟩ := Qn H
   obtain ⟨b5, f2, f3, l1, H⟩ := Qn H
   obtain ⟨b7, f6, f7, l2, H⟩ := Qn H
   obtain ⟨b8, f8, f9, l3, H⟩ := Qn H
   refine aG [Vk (some ⟨f, 0, none⟩) (Qg .u32).sz 0, GEq (.int .u32 h8), GEq (.int .u32 b9), Vk (some ⟨f, 0, none⟩) (Qg .u32).sz 0, GEq (.int .u32 b2), Vk (some ⟨f, 0, none⟩) (Qg .u32).sz 1, GEq (.int .u32 b3), GEq (.int .u32 (Vr .u32 b2 b3)), Vk (some ⟨f, 0, none⟩) (Qg .u32).sz 0, GEq (.int .u32 b4), Vk (some ⟨f, 0, none⟩) (Qg .u32).sz 2, GEq (.int .u32 b5), GEq (.int .u32 (Vr .u32 b4 b5)), GEq (.int .u32 (Vw .u32 (Vr .u32 b2 b3) (Vr .u32 b4 b5))), Vk (some ⟨f, 0, none⟩) (Qg .u32).sz 1, GEq (.int .u32 b7), Vk (some ⟨f, 0, none⟩) (Qg .u32).sz 2, GEq (.int .u32 b8), GEq (.int .u32 (Vr .u32 b7 b8)), GEq (.int .u32 (Vw .u32 (Vw .u32 (Vr .u32 b2 b3) (Vr .u32 b4 b5)) (Vr .u32 b7 b8))), GEq (.int .u32 (IntKind.wrap .u32 (b9 + (Vw .u32 (Vw .u32 (Vr .u32 b2 b3) (Vr .u32 b4 b5)) (Vr .u32 b7 b8))))), GEq (.int .u32 (IntKind.wrap .u32 (b9 + (Vw .u32 (Vw .u32 (Vr .u32 b2 b3) (Vr .u32 b4 b5)) (Vr .u32 b7 b8)))))] [2] (tG [] w0 [Q7 270 (Qg .u32) g7 8 p1, Q7 270 (Qg .u32) b6 8 (List.replicate 8 0), Q7 359 (Qg .u32) a7 64 b0, Q7 359 (Qg .u32) a8 64 b1, Q7 270 (Qg .u32) f 8 o] [([], []), ([2], [(.int .u32 b9)])]) 22 1 ⟨trivial, SP.drew y3⟩ ?_ ?_
   iterate 22 refine And.intro ?_ ?_
   exact trivial
   ·refine oL 0 ?_
    rintro P W hs h ⟨-, y6⟩
    refine kM (kc (kS hs 7 (pt f 0)) k0) fun c => ?_
    refine Qe (e := (Qg .u32)) (l := o) (m := 8) (g := f) (T := 270) (E := 43) (x := (.tmp 7)) (ix := (.const (.int .i64 (0)))) (ki := .i64) (iz := 0) (i := 4) (d := (some 47)) (k := 0) K rfl K K K K y6 rfl j8 j9 ?_
    exact ⟨rfl, _, Qb c, ⟨f, 0, rfl, rfl⟩⟩
   ·refine oL 0 ?_
    rintro P W hs h ⟨-, y7⟩
    obtain ⟨y8, y9, z0, z1⟩ := h 0 47 K
    refine kM (kc z1 k0) fun c => ?_
    refine sC 43 47 y8 (y9 + Int.toNat 0 * (Qg .u32).sz) (.int .u32 h8) 48 (Qi (e := (Qg .u32)) (Qj (Qp (SP.get y7 (i := 4) rfl)) z0 j8 j9) y4 (j := 0) rfl) ?_
    exact eK c
   ·refine oH 0 1 ?_
    rintro P W hs h ⟨-, z2⟩
    refine kM (kc (kA h 1 48) k0) fun c => ?_
    refine cS z2 235 #[(.tmp 48), (.const (.int .i64 (2))), (.const (.int .i64 (13))), (.const (.int .i64 (22)))] #[43, 3, 3, 3] 49 Tryz.call235 (Xr  h8 2 13 22 W  b9 y5) ?_
    intro al5 z3
    refine ⟨_, Qb c, rfl, ?_⟩
    exact (ai (ai rfl (trivial)) z3)
   ·refine Owe.light K [0, 1] K (Qc ?_ (Qc ?_ Qz))
    ·rintro P W hs h ⟨-, z4⟩
     refine kM (kc (kS hs 7 (pt f 0)) k0) fun c => ?_
     refine Qe (e := (Qg .u32)) (l := o) (m := 8) (g := f) (T := 270) (E := 43) (x := (.tmp 7)) (ix := (.const (.int .i64 (0)))) (ki := .i64) (iz := 0) (i := 4) (d := (some 50)) (k := 3) K rfl K K K K z4 rfl e6 e7 ?_
     exact ⟨rfl, _, Qb c, ⟨f, 0, rfl, rfl⟩⟩
    rintro P W hs h ⟨⟨al6, -⟩, z5⟩
    refine kM (kc (kS hs 7 (pt f 0)) k0) fun c => ?_
    refine Qe (e := (Qg .u32)) (l := o) (m := 8) (g := f) (T := 270) (E := 43) (x := (.tmp 7)) (ix := (.const (.int .i64 (0)))) (ki := .i64) (iz := 0) (i := 4) (d := (some 50)) (k := 3) K rfl K K K K z5 rfl e6 e7 ?_
    exact ⟨rfl, _, Qb c, ⟨f, 0, rfl, rfl⟩⟩
   ·refine Owe.light K [0, 1] K (Qc ?_ (Qc ?_ Qz))
    ·rintro P W hs h ⟨-, z6⟩
     obtain ⟨z7, z8, z9, h9⟩ := h 3 50 K
     refine kM (kc h9 k0) fun c => ?_
     refine sC 43 50 z7 (z8 + Int.toNat 0 * (Qg .u32).sz) (.int .u32 b2) 51 (Qi (e := (Qg .u32)) (Qj (Qp (SP.get z6 (i := 4) rfl)) z9 e6 e7) k1 (j := 0) rfl) ?_
     exact eK c
    rintro P W hs h ⟨⟨al7, -⟩, aa0⟩
    obtain ⟨aa1, aa2, aa3, h9⟩ := h 3 50 K
    refine kM (kc h9 k0) fun c => ?_
    refine sC 43 50 aa1 (aa2 + Int.toNat 0 * (Qg .u32).sz) (.int .u32 b2) 51 (Qi (e := (Qg .u32)) (Qj (Qp (SP.get aa0 (i := 4) rfl)) aa3 e6 e7) k1 (j := 0) rfl) ?_
    exact eK c
   ·refine Owe.light K [0, 1] K (Qc ?_ (Qc ?_ Qz))
    ·rintro P W hs h ⟨-, aa4⟩
     refine kM (kc (kS hs 7 (pt f 0)) k0) fun c => ?_
     refine Qe (e := (Qg .u32)) (l := o) (m := 8) (g := f) (T := 270) (E := 43) (x := (.tmp 7)) (ix := (.const (.int .i64 (1)))) (ki := .i64) (iz := 1) (i := 4) (d := (some 52)) (k := 5) K rfl K K K K aa4 rfl e8 e9 ?_
     exact ⟨rfl, _, Qb c, ⟨f, 0, rfl, rfl⟩⟩
    rintro P W hs h ⟨⟨al8, -⟩, aa5⟩
    refine kM (kc (kS hs 7 (pt f 0)) k0) fun c => ?_
    refine Qe (e := (Qg .u32)) (l := o) (m := 8) (g := f) (T := 270) (E := 43) (x := (.tmp 7)) (ix := (.const (.int .i64 (1)))) (ki := .i64) (iz := 1) (i := 4) (d := (some 52)) (k := 5) K rfl K K K K aa5 rfl e8 e9 ?_
    exact ⟨rfl, _, Qb c, ⟨f, 0, rfl, rfl⟩⟩
   ·refine Owe.light K [0, 1] K (Qc ?_ (Qc ?_ Qz))
    ·rintro P W hs h ⟨-, aa6⟩
     obtain ⟨aa7, aa8, aa9, i0⟩ := h 5 52 K
     refine kM (kc i0 k0) fun c => ?_
     refine sC 43 52 aa7 (aa8 + Int.toNat 1 * (Qg .u32).sz) (.int .u32 b3) 53 (Qi (e := (Qg .u32)) (Qj (Qp (SP.get aa6 (i := 4) rfl)) aa9 e8 e9) k2 (j := 0) rfl) ?_
     exact eK c
    rintro P W hs h ⟨⟨al9, -⟩, ab0⟩
    obtain ⟨ab1, ab2, ab3, i0⟩ := h 5 52 K
    refine kM (kc i0 k0) fun c => ?_
    refine sC 43 52 ab1 (ab2 + Int.toNat 1 * (Qg .u32).sz) (.int .u32 b3) 53 (Qi (e := (Qg .u32)) (Qj (Qp (SP.get ab0 (i := 4) rfl)) ab3 e8 e9) k2 (j := 0) rfl) ?_
    exact eK c
   ·exact oU (hC (hA 4 51) (hC (hA 6 53) (h0)))
   ·refine Owe.light K [0, 1] K (Qc ?_ (Qc ?_ Qz))
    ·rintro P W hs h ⟨-, ab4⟩
     refine kM (kc (kS hs 7 (pt f 0)) k0) fun c => ?_
     refine Qe (e := (Qg .u32)) (l := o) (m := 8) (g := f) (T := 270) (E := 43) (x := (.tmp 7)) (ix := (.const (.int .i64 (0)))) (ki := .i64) (iz := 0) (i := 4) (d := (some 55)) (k := 8) K rfl K K K K ab4 rfl f0 f1 ?_
     exact ⟨rfl, _, Qb c, ⟨f, 0, rfl, rfl⟩⟩
    rintro P W hs h ⟨⟨am0, -⟩, ab5⟩
    refine kM (kc (kS hs 7 (pt f 0)) k0) fun c => ?_
    refine Qe (e := (Qg .u32)) (l := o) (m := 8) (g := f) (T := 270) (E := 43) (x := (.tmp 7)) (ix := (.const (.int .i64 (0)))) (ki := .i64) (iz := 0) (i := 4) (d := (some 55)) (k := 8) K rfl K K K K ab5 rfl f0 f1 ?_
    exact ⟨rfl, _, Qb c, ⟨f, 0, rfl, rfl⟩⟩
   ·refine Owe.light K [0, 1] K (Qc ?_ (Qc ?_ Qz))
    ·rintro P W hs h ⟨-, ab6⟩
     obtain ⟨ab7, ab8, ab9, i1⟩ := h 8 55 K
     refine kM (kc i1 k0) fun c => ?_
     refine sC 43 55 ab7 (ab8 + Int.toNat 0 * (Qg .u32).sz) (.int .u32 b4) 56 (Qi (e := (Qg .u32)) (Qj (Qp (SP.get ab6 (i := 4) rfl)) ab9 f0 f1) l0 (j := 0) rfl) ?_
     exact eK c
    rintro P W hs h ⟨⟨am1, -⟩, ac0⟩
    obtain ⟨ac1, ac2, ac3, i1⟩ := h 8 55 K
    refine kM (kc i1 k0) fun c => ?_
    refine sC 43 55 ac1 (ac2 + Int.toNat 0 * (Qg .u32).sz) (.int .u32 b4) 56 (Qi (e := (Qg .u32)) (Qj (Qp (SP.get ac0 (i := 4) rfl)) ac3 f0 f1) l0 (j := 0) rfl) ?_
    exact eK c
   ·refine Owe.light K [0, 1] K (Qc ?_ (Qc ?_ Qz))
    ·rintro P W hs h ⟨-, ac4⟩
     refine kM (kc (kS hs 7 (pt f 0)) k0) fun c => ?_
     refine Qe (e := (Qg .u32)) (l := o) (m := 8) (g := f) (T := 270) (E := 43) (x := (.tmp 7)) (ix := (.const (.int .i64 (2)))) (ki := .i64) (iz := 2) (i := 4) (d := (some 57)) (k := 10) K rfl K K K K ac4 rfl f2 f3 ?_
     exact ⟨rfl, _, Qb c, ⟨f, 0, rfl, rfl⟩⟩
    rintro P W hs h ⟨⟨am2, -⟩, ac5⟩
    refine kM (kc (kS hs 7 (pt f 0)) k0) fun c => ?_
    refine Qe (e := (Qg .u32)) (l := o) (m := 8) (g := f) (T := 270) (E := 43) (x := (.tmp 7)) (ix := (.const (.int .i64 (2)))) (ki := .i64) (iz := 2) (i := 4) (d := (some 57)) (k := 10) K rfl K K K K ac5 rfl f2 f3 ?_
    exact ⟨rfl, _, Qb c, ⟨f, 0, rfl, rfl⟩⟩
   ·refine Owe.light K [0, 1] K (Qc ?_ (Qc ?_ Qz))
    ·rintro P W hs h ⟨-, ac6⟩
     obtain ⟨ac7, ac8, ac9, i2⟩ := h 10 57 K
     refine kM (kc i2 k0) fun c => ?_
     refine sC 43 57 ac7 (ac8 + Int.toNat 2 * (Qg .u32).sz) (.int .u32 b5) 58 (Qi (e := (Qg .u32)) (Qj (Qp (SP.get ac6 (i := 4) rfl)) ac9 f2 f3) l1 (j := 0) rfl) ?_
     exact eK c
    rintro P W hs h ⟨⟨am3, -⟩, ad0⟩
    obtain ⟨ad1, ad2, ad3, i2⟩ := h 10 57 K
    refine kM (kc i2 k0) fun c => ?_
    refine sC 43 57 ad1 (ad2 + Int.toNat 2 * (Qg .u32).sz) (.int .u32 b5) 58 (Qi (e := (Qg .u32)) (Qj (Qp (SP.get ad0 (i := 4) rfl)) ad3 f2 f3) l1 (j := 0) rfl) ?_
    exact eK c
   ·exact oU (hC (hA 9 56) (hC (hA 11 58) (h0)))
   ·exact oU (hC (hA 7 54) (hC (hA 12 59) (h0)))
   ·refine Owe.light K [0, 1] K (Qc ?_ (Qc ?_ Qz))
    ·rintro P W hs h ⟨-, ad4⟩
     refine kM (kc (kS hs 7 (pt f 0)) k0) fun c => ?_
     refine Qe (e := (Qg .u32)) (l := o) (m := 8) (g := f) (T := 270) (E := 43) (x := (.tmp 7)) (ix := (.const (.int .i64 (1)))) (ki := .i64) (iz := 1) (i := 4) (d := (some 61)) (k := 14) K rfl K K K K ad4 rfl f6 f7 ?_
     exact ⟨rfl, _, Qb c, ⟨f, 0, rfl, rfl⟩⟩
    rintro P W hs h ⟨⟨am4, -⟩, ad5⟩
    refine kM (kc (kS hs 7 (pt f 0)) k0) fun c => ?_
    refine Qe (e := (Qg .u32)) (l := o) (m := 8) (g := f) (T := 270) (E := 43) (x := (.tmp 7)) (ix := (.const (.int .i64 (1)))) (ki := .i64) (iz := 1) (i := 4) (d := (some 61)) (k := 14) K rfl K K K K ad5 rfl f6 f7 ?_
    exact ⟨rfl, _, Qb c, ⟨f, 0, rfl, rfl⟩⟩
   ·refine Owe.light K [0, 1] K (Qc ?_ (Qc ?_ Qz))
    ·rintro P W hs h ⟨-, ad6⟩
     obtain ⟨ad7, ad8, ad9, i3⟩ := h 14 61 K
     refine kM (kc i3 k0) fun c => ?_
     refine sC 43 61 ad7 (ad8 + Int.toNat 1 * (Qg .u32).sz) (.int .u32 b7) 62 (Qi (e := (Qg .u32)) (Qj (Qp (SP.get ad6 (i := 4) rfl)) ad9 f6 f7) l2 (j := 0) rfl) ?_
     exact eK c
    rintro P W hs h ⟨⟨am5, -⟩, ae0⟩
    obtain ⟨ae1, ae2, ae3, i3⟩ := h 14 61 K
    refine kM (kc i3 k0) fun c => ?_
    refine sC 43 61 ae1 (ae2 + Int.toNat 1 * (Qg .u32).sz) (.int .u32 b7) 62 (Qi (e := (Qg .u32)) (Qj (Qp (SP.get ae0 (i := 4) rfl)) ae3 f6 f7) l2 (j := 0) rfl) ?_
    exact eK c
   ·refine Owe.light K [0, 1] K (Qc ?_ (Qc ?_ Qz))
    ·rintro P W hs h ⟨-, ae4⟩
     refine kM (kc (kS hs 7 (pt f 0)) k0) fun c => ?_
     refine Qe (e := (Qg .u32)) (l := o) (m := 8) (g := f) (T := 270) (E := 43) (x := (.tmp 7)) (ix := (.const (.int .i64 (2)))) (ki := .i64) (iz := 2) (i := 4) (d := (some 63)) (k := 16) K rfl K K K K ae4 rfl f8 f9 ?_
     exact ⟨rfl, _, Qb c, ⟨f, 0, rfl, rfl⟩⟩
    rintro P W hs h ⟨⟨am6, -⟩, ae5⟩
    refine kM (kc (kS hs 7 (pt f 0)) k0) fun c => ?_
    refine Qe (e := (Qg .u32)) (l := o) (m := 8) (g := f) (T := 270) (E := 43) (x := (.tmp 7)) (ix := (.const (.int .i64 (2)))) (ki := .i64) (iz := 2) (i := 4) (d := (some 63)) (k := 16) K rfl K K K K ae5 rfl f8 f9 ?_
    exact ⟨rfl, _, Qb c, ⟨f, 0, rfl, rfl⟩⟩
   ·refine Owe.light K [0, 1] K (Qc ?_ (Qc ?_ Qz))
    ·rintro P W hs h ⟨-, ae6⟩
     obtain ⟨ae7, ae8, ae9, i4⟩ := h 16 63 K
     refine kM (kc i4 k0) fun c => ?_
     refine sC 43 63 ae7 (ae8 + Int.toNat 2 * (Qg .u32).sz) (.int .u32 b8) 64 (Qi (e := (Qg .u32)) (Qj (Qp (SP.get ae6 (i := 4) rfl)) ae9 f8 f9) l3 (j := 0) rfl) ?_
     exact eK c
    rintro P W hs h ⟨⟨am7, -⟩, af0⟩
    obtain ⟨af1, af2, af3, i4⟩ := h 16 63 K
    refine kM (kc i4 k0) fun c => ?_
    refine sC 43 63 af1 (af2 + Int.toNat 2 * (Qg .u32).sz) (.int .u32 b8) 64 (Qi (e := (Qg .u32)) (Qj (Qp (SP.get af0 (i := 4) rfl)) af3 f8 f9) l3 (j := 0) rfl) ?_
    exact eK c
   ·exact oU (hC (hA 15 62) (hC (hA 17 64) (h0)))
   ·exact oU (hC (hA 13 60) (hC (hA 18 65) (h0)))
   ·exact oU (hC (hA 2 49) (hC (hA 19 66) (h0)))
   ·exact oU (hC (hA 20 67) (h0))
   rintro P am8 hs hf ⟨⟨am9, -⟩, a6⟩
   refine Vy _ (kc (kT hs 2 (pt g7 0)) (kc (kT hs 4 (pt b6 0)) (kc (kT hs 5 (pt a7 0)) (kc (kT hs 6 (pt a8 0)) (kc (kT hs 7 (pt f 0)) (kc (kT hs 8 (iv p)) (kc (kT hs 9 (.int .u32 (IntKind.wrap .u32 ((IntKind.wrap .u32 ((IntKind.wrap .u32 ((IntKind.wrap .u32 (a2 + a3)) + (Vw .u32 (Vr .u32 u a0) (Vr .u32 (Vw .u32 (IntKind.max .u32) s) a1)))) + a4)) + a5)))) (kc (kF hf 21 10) k0)))))))) ?_
   refine aR ?_
   refine iR 3 3 [(68, (.int .u32 (IntKind.wrap .u32 ((IntKind.wrap .u32 ((IntKind.wrap .u32 ((IntKind.wrap .u32 (a2 + a3)) + (Vw .u32 (Vr .u32 u a0) (Vr .u32 (Vw .u32 (IntKind.max .u32) s) a1)))) + a4)) + a5)))), (69, (.int .u32 (IntKind.wrap .u32 (b9 + (Vw .u32 (Vw .u32 (Vr .u32 b2 b3) (Vr .u32 b4 b5)) (Vr .u32 b7 b8)))))), (70, (.int .u32 (IntKind.wrap .u32 ((IntKind.wrap .u32 ((IntKind.wrap .u32 ((IntKind.wrap .u32 ((IntKind.wrap .u32 (a2 + a3)) + (Vw .u32 (Vr .u32 u a0) (Vr .u32 (Vw .u32 (IntKind.max .u32) s) a1)))) + a4)) + a5)) + (IntKind.wrap .u32 (b9 + (Vw .u32 (Vw .u32 (Vr .u32 b2 b3) (Vr .u32 b4 b5)) (Vr .u32 b7 b8))))))))] ?_
   obtain ⟨g0, l4, l5, af4, H⟩ := Qn H
   refine iS 4 ?_
   refine Qe (e := (Qg .u32)) (l := o) (m := 8) (g := f) (T := 270) (E := 43) (x := (.tmp 7)) (ix := (.const (.int .i64 (0)))) (ki := .i64) (iz := 0) (i := 4) (d := (some 71)) (k := 3) K rfl K K K K a6 rfl l4 l5 ?_
   refine jX 5 43 71 f (0 + Int.toNat 0 * (Qg .u32).sz) (.int .u32 g0) 72 (Qi (e := (Qg .u32)) (Qj (Qp (SP.get a6 (i := 4) rfl)) rfl l4 l5) af4 (j := 0) rfl) ?_
   obtain ⟨g1, l6, l7, af5, H⟩ := Qn H
   refine iS 6 ?_
   refine Qe (e := (Qg .u32)) (l := o) (m := 8) (g := f) (T := 270) (E := 43) (x := (.tmp 7)) (ix := (.const (.int .i64 (1)))) (ki := .i64) (iz := 1) (i := 4) (d := (some 73)) (k := 5) K rfl K K K K a6 rfl l6 l7 ?_
   refine jX 7 43 73 f (0 + Int.toNat 1 * (Qg .u32).sz) (.int .u32 g1) 74 (Qi (e := (Qg .u32)) (Qj (Qp (SP.get a6 (i := 4) rfl)) rfl l6 l7) af5 (j := 0) rfl) ?_
   obtain ⟨g2, l8, l9, af6, H⟩ := Qn H
   refine iS 8 ?_
   refine Qe (e := (Qg .u32)) (l := o) (m := 8) (g := f) (T := 270) (E := 43) (x := (.tmp 7)) (ix := (.const (.int .i64 (2)))) (ki := .i64) (iz := 2) (i := 4) (d := (some 75)) (k := 7) K rfl K K K K a6 rfl l8 l9 ?_
   refine jX 9 43 75 f (0 + Int.toNat 2 * (Qg .u32).sz) (.int .u32 g2) 76 (Qi (e := (Qg .u32)) (Qj (Qp (SP.get a6 (i := 4) rfl)) rfl l8 l9) af6 (j := 0) rfl) ?_
   obtain ⟨c2, m0, m1, af7, H⟩ := Qn H
   refine iS 10 ?_
   refine Qe (e := (Qg .u32)) (l := o) (m := 8) (g := f) (T := 270) (E := 43) (x := (.tmp 7)) (ix := (.const (.int .i64 (3)))) (ki := .i64) (iz := 3) (i := 4) (d := (some 77)) (k := 9) K rfl K K K K a6 rfl m0 m1 ?_
   refine jX 11 43 77 f (0 + Int.toNat 3 * (Qg .u32).sz) (.int .u32 c2) 78 (Qi (e := (Qg .u32)) (Qj (Qp (SP.get a6 (i := 4) rfl)) rfl m0 m1) af7 (j := 0) rfl) ?_
   refine iR 2 13 [(79, (.int .u32 (IntKind.wrap .u32 ((IntKind.wrap .u32 ((IntKind.wrap .u32 ((IntKind.wrap .u32 (a2 + a3)) + (Vw .u32 (Vr .u32 u a0) (Vr .u32 (Vw .u32 (IntKind.max .u32) s) a1)))) + a4)) + a5)))), (80, (.int .u32 (IntKind.wrap .u32 (c2 + (IntKind.wrap .u32 ((IntKind.wrap .u32 ((IntKind.wrap .u32 ((IntKind.wrap .u32 (a2 + a3)) + (Vw .u32 (Vr .u32 u a0) (Vr .u32 (Vw .u32 (IntKind.max .u32) s) a1)))) + a4)) + a5))))))] ?_
   obtain ⟨g3, m2, m3, af8, H⟩ := Qn H
   refine iS 14 ?_
   refine Qe (e := (Qg .u32)) (l := o) (m := 8) (g := f) (T := 270) (E := 43) (x := (.tmp 7)) (ix := (.const (.int .i64 (4)))) (ki := .i64) (iz := 4) (i := 4) (d := (some 81)) (k := 13) K rfl K K K K a6 rfl m2 m3 ?_
   refine jX 15 43 81 f (0 + Int.toNat 4 * (Qg .u32).sz) (.int .u32 g3) 82 (Qi (e := (Qg .u32)) (Qj (Qp (SP.get a6 (i := 4) rfl)) rfl m2 m3) af8 (j := 0) rfl) ?_
   obtain ⟨g4, m4, m5, af9, H⟩ := Qn H
   refine iS 16 ?_
   refine Qe (e := (Qg .u32)) (l := o) (m := 8) (g := f) (T := 270) (E := 43) (x := (.tmp 7)) (ix := (.const (.int .i64 (5)))) (ki := .i64) (iz := 5) (i := 4) (d := (some 83)) (k := 15) K rfl K K K K a6 rfl m4 m5 ?_
   refine jX 17 43 83 f (0 + Int.toNat 5 * (Qg .u32).sz) (.int .u32 g4) 84 (Qi (e := (Qg .u32)) (Qj (Qp (SP.get a6 (i := 4) rfl)) rfl m4 m5) af9 (j := 0) rfl) ?_
   obtain ⟨g5, m6, m7, ag0, H⟩ := Qn H
   refine iS 18 ?_
   refine Qe (e := (Qg .u32)) (l := o) (m := 8) (g := f) (T := 270) (E := 43) (x := (.tmp 7)) (ix := (.const (.int .i64 (6)))) (ki := .i64) (iz := 6) (i := 4) (d := (some 85)) (k := 17) K rfl K K K K a6 rfl m6 m7 ?_
   refine jX 19 43 85 f (0 + Int.toNat 6 * (Qg .u32).sz) (.int .u32 g5) 86 (Qi (e := (Qg .u32)) (Qj (Qp (SP.get a6 (i := 4) rfl)) rfl m6 m7) ag0 (j := 0) rfl) ?_
   refine iR 1 20 [(87, (.agg (Qd (Qg .u32) ([(IntKind.wrap .u32 ((IntKind.wrap .u32 ((IntKind.wrap .u32 ((IntKind.wrap .u32 ((IntKind.wrap .u32 (a2 + a3)) + (Vw .u32 (Vr .u32 u a0) (Vr .u32 (Vw .u32 (IntKind.max .u32) s) a1)))) + a4)) + a5)) + (IntKind.wrap .u32 (b9 + (Vw .u32 (Vw .u32 (Vr .u32 b2 b3) (Vr .u32 b4 b5)) (Vr .u32 b7 b8)))))), g0, g1, g2, (IntKind.wrap .u32 (c2 + (IntKind.wrap .u32 ((IntKind.wrap .u32 ((IntKind.wrap .u32 ((IntKind.wrap .u32 (a2 + a3)) + (Vw .u32 (Vr .u32 u a0) (Vr .u32 (Vw .u32 (IntKind.max .u32) s) a1)))) + a4)) + a5)))), g3, g4, g5] : List Int)).toArray))] ?_
   refine iS 21 ?_
   refine Vb (e := (Qg .u32)) (l := o) (l' := ([(IntKind.wrap .u32 ((IntKind.wrap .u32 ((IntKind.wrap .u32 ((IntKind.wrap .u32 ((IntKind.wrap .u32 (a2 + a3)) + (Vw .u32 (Vr .u32 u a0) (Vr .u32 (Vw .u32 (IntKind.max .u32) s) a1)))) + a4)) + a5)) + (IntKind.wrap .u32 (b9 + (Vw .u32 (Vw .u32 (Vr .u32 b2 b3) (Vr .u32 b4 b5)) (Vr .u32 b7 b8)))))), g0, g1, g2, (IntKind.wrap .u32 (c2 + (IntKind.wrap .u32 ((IntKind.wrap .u32 ((IntKind.wrap .u32 ((IntKind.wrap .u32 (a2 + a3)) + (Vw .u32 (Vr .u32 u a0) (Vr .u32 (Vw .u32 (IntKind.max .u32) s) a1)))) + a4)) + a5)))), g3, g4, g5] : List Int)) (m := 8) (t := 270) (x := (.tmp 7)) (y := (.tmp 87)) (g := f) (i := 4) (d := none) (k := 20) K rfl K K rfl a6 rfl K ?_
   intro an0 ag1
   refine iF ?_
   refine aR ?_
   refine iR 3 3 [(18, (iv p)), (19, (iv (IntKind.wrap .i64 (p + 1)))), (8, (iv (IntKind.wrap .i64 (p + 1))))] ?_
   refine iF ?_
   exact ⟨([(IntKind.wrap .u32 ((IntKind.wrap .u32 ((IntKind.wrap .u32 ((IntKind.wrap .u32 ((IntKind.wrap .u32 (a2 + a3)) + (Vw .u32 (Vr .u32 u a0) (Vr .u32 (Vw .u32 (IntKind.max .u32) s) a1)))) + a4)) + a5)) + (IntKind.wrap .u32 (b9 + (Vw .u32 (Vw .u32 (Vr .u32 b2 b3) (Vr .u32 b4 b5)) (Vr .u32 b7 b8)))))), g0, g1, g2, (IntKind.wrap .u32 (c2 + (IntKind.wrap .u32 ((IntKind.wrap .u32 ((IntKind.wrap .u32 ((IntKind.wrap .u32 (a2 + a3)) + (Vw .u32 (Vr .u32 u a0) (Vr .u32 (Vw .u32 (IntKind.max .u32) s) a1)))) + a4)) + a5)))), g3, g4, g5] : List Int), (IntKind.wrap .i64 (p + 1)), ⟨K, K, K, K, K, K, trivial⟩, SP.sel ag1 [0, 1, 2, 3, 4] rfl rfl, H⟩
  refine At.exit K (id := 0) K ?_
  refine aQ ?_
  refine aC ?_
  refine iR 1 1 [(11, (iv 0))] ?_
  refine iF ?_
  refine Xu K (id := 2) K ?_
  refine U1 K (fun f5 ρ w => ∃ (a9 : (List Int)) (q : Int), Z5 ρ [(2, (pt g7 0)), (4, (pt b6 0)), (7, (pt f 0)), (11, (iv q))] ∧ SP [] w0 w [Q7 270 (Qg .u32) g7 8 a9, Q7 270 (Qg .u32) b6 8 (List.replicate 8 0), Q7 270 (Qg .u32) f 8 o] ∧ Za (Vj p1 b0 b1 f4) o f5 a9 q = some r) (by rintro ρ w ⟨a9, q, hk, hs, H⟩; cases H) ?_ Ji ?_
  ·rintro f5 ρ an1 ⟨a9, q, hk, c1, H⟩
   refine At.known _ hk ?_
   replace H := (show Zz (Vj p1 b0 b1 f4) (Za (Vj p1 b0 b1 f4) o f5) o a9 q = some r from H)
   unfold Zz at H
   have ag2 := Qv (SP.get c1 (i := 0) rfl)
   have an2 := Qv (SP.get c1 (i := 1) rfl)
   have an3 := Qv (SP.get c1 (i := 2) rfl)
   refine aQ ?_
   refine aC ?_
   refine iR 2 2 [(88, (iv q)), (89, (bv (decide (q < 8))))] ?_
   refine iF ?_
   refine cD 89 H (fun H => ?_) fun H => ?_
   ·refine At.skip K ?_
    refine aQ ?_
    refine Xu K (id := 3) K ?_
    obtain ⟨d0, m8, m9, ag3, H⟩ := Qn H
    obtain ⟨d1, o0, o1, ag4, H⟩ := Qn H
    obtain ⟨an4, o2, o3, an5, H⟩ := Qn H
    obtain ⟨i5, hyl2347, H⟩ := Vp H
    have hnl2347 : List.length i5 = List.length a9 := by rw [← hyl2347, List.length_set]
    refine aG [GEq (iv q), GEq (iv q), Vk (some ⟨g7, 0, none⟩) (Qg .u32).sz q, GEq (.int .u32 d0), GEq (iv q), Vk (some ⟨f, 0, none⟩) (Qg .u32).sz q, GEq (.int .u32 d1), GEq (.int .u32 (IntKind.wrap .u32 (d0 + d1))), Vk (some ⟨g7, 0, none⟩) (Qg .u32).sz q, Ii] [9] [sG [] [] [] w0 [Q7 270 (Qg .u32) g7 8 a9, Q7 270 (Qg .u32) b6 8 (List.replicate 8 0), Q7 270 (Qg .u32) f 8 o], sG [9] [undef] [] w0 [Q7 270 (Qg .u32) g7 8 i5, Q7 270 (Qg .u32) b6 8 (List.replicate 8 0), Q7 270 (Qg .u32) f 8 o]] 10 1 ⟨trivial, SP.drew c1⟩ ?_ ?_
    iterate 10 refine And.intro ?_ ?_
    exact trivial
    ·exact oU (hC (hS 11 (iv q)) (h0))
    ·exact oU (hC (hS 11 (iv q)) (h0))
    ·refine oL 0 ?_
     rintro P W hs h ⟨-, ag5⟩
     refine kM (kc (kS hs 2 (pt g7 0)) (kc (kA h 1 93) k0)) fun c => ?_
     refine Qe (e := (Qg .u32)) (l := a9) (m := 8) (g := g7) (T := 270) (E := 43) (x := (.tmp 2)) (ix := (.tmp 93)) (ki := .i64) (iz := q) (i := 0) (d := (some 94)) (k := 2) K rfl K K K K ag5 rfl m8 m9 ?_
     exact ⟨rfl, _, Qb c, ⟨g7, 0, rfl, rfl⟩⟩
    ·refine oL 0 ?_
     rintro P W hs h ⟨-, ag6⟩
     obtain ⟨ag7, ag8, ag9, e94⟩ := h 2 94 K
     refine kM (kc e94 k0) fun c => ?_
     refine sC 43 94 ag7 (ag8 + Int.toNat q * (Qg .u32).sz) (.int .u32 d0) 95 (Qi (e := (Qg .u32)) (Qj (Qp (SP.get ag6 (i := 0) rfl)) ag9 m8 m9) ag3 (j := 0) rfl) ?_
     exact eK c
    ·exact oU (hC (hS 11 (iv q)) (h0))
    ·refine oL 0 ?_
     rintro P W hs h ⟨-, ah1⟩
     refine kM (kc (kS hs 7 (pt f 0)) (kc (kA h 4 96) k0)) fun c => ?_
     refine Qe (e := (Qg .u32)) (l := o) (m := 8) (g := f) (T := 270) (E := 43) (x := (.tmp 7)) (ix := (.tmp 96)) (ki := .i64) (iz := q) (i := 2) (d := (some 97)) (k := 5) K rfl K K K K ah1 rfl o0 o1 ?_
     exact ⟨rfl, _, Qb c, ⟨f, 0, rfl, rfl⟩⟩
    ·refine oL 0 ?_
     rintro P W hs h ⟨-, ah2⟩
     obtain ⟨ah3, ah4, ah5, e97⟩ := h 5 97 K
     refine kM (kc e97 k0) fun c => ?_
     refine sC 43 97 ah3 (ah4 + Int.toNat q * (Qg .u32).sz) (.int .u32 d1) 98 (Qi (e := (Qg .u32)) (Qj (Qp (SP.get ah2 (i := 2) rfl)) ah5 o0 o1) ag4 (j := 0) rfl) ?_
     exact eK c
    ·exact oU (hC (hA 3 95) (hC (hA 6 98) (h0)))
    ·refine oL 0 ?_
     rintro P W hs h ⟨-, ah7⟩
     refine kM (kc (kS hs 2 (pt g7 0)) (kc (kA h 0 92) k0)) fun c => ?_
     refine Qe (e := (Qg .u32)) (l := a9) (m := 8) (g := g7) (T := 270) (E := 43) (x := (.tmp 2)) (ix := (.tmp 92)) (ki := .i64) (iz := q) (i := 0) (d := (some 100)) (k := 8) K rfl K K K K ah7 rfl o2 o3 ?_
     exact ⟨rfl, _, Qb c, ⟨g7, 0, rfl, rfl⟩⟩
    ·refine oH 0 1 ?_
     rintro P W hs h ⟨-, ah8⟩
     obtain ⟨ah9, ai0, ai1, ai2⟩ := h 8 100 K
     refine kM (kc ai2 (kc (kA h 7 99) k0)) fun c => ?_
     refine Vf (e := (Qg .u32)) (t := 43) (x := (.tmp 100)) (y := (.tmp 99)) (l := a9) (iz := q) (m := 8) (g := g7) (b := ah9) (off := ai0) (i := 0) (v := (.int .u32 (IntKind.wrap .u32 (d0 + d1)))) (x' := (IntKind.wrap .u32 (d0 + d1))) (d := none) (k := 9) K rfl ai1 K K ah8 rfl rfl o3 o2 rfl K ?_
     rw [hyl2347]
     intro an6 ai3
     refine ⟨_, Qb c, trivial, ?_⟩
     exact (ai (ai rfl (trivial)) ai3)
    rintro P an7 hs hf ⟨⟨an8, -⟩, ai4⟩
    refine Vy _ (kc (kT hs 2 (pt g7 0)) (kc (kT hs 4 (pt b6 0)) (kc (kT hs 7 (pt f 0)) (kc (kT hs 11 (iv q)) k0)))) ?_
    refine aR ?_
    refine iR 3 3 [(90, (iv q)), (91, (iv (IntKind.wrap .i64 (q + 1)))), (11, (iv (IntKind.wrap .i64 (q + 1))))] ?_
    refine iF ?_
    exact ⟨i5, (IntKind.wrap .i64 (q + 1)), ⟨K, K, K, K, trivial⟩, SP.sel ai4 [0, 1, 2] rfl rfl, H⟩
   refine At.exit K (id := 2) K ?_
   refine aC ?_
   refine iS 1 ?_
   refine Vl (e := (Qg .u32)) (l := a9) (m := 8) (t := 270) (x := (.tmp 2)) (g := g7) (i := 0) (d := (some 101)) (k := 0) K rfl K c1 rfl K K ?_
   refine iS 2 ?_
   refine Vb (e := (Qg .u32)) (l := (List.replicate 8 0)) (l' := a9) (m := 8) (t := 270) (x := (.tmp 4)) (y := (.tmp 101)) (g := b6) (i := 1) (d := none) (k := 1) K rfl K K ag2 c1 rfl K ?_
   intro an9 o4
   refine iF ?_
   refine At.ret K ?_
   refine ⟨(.agg (Qd (Qg .u32) a9).toArray), Bb K (Y0 (e := (Qg .u32)) (l := a9) (a := 4) (t := 270) K (SP.get o4 (i := 1) rfl) K K), ?_⟩
   obtain rfl := Zd H
   exact ⟨rfl, SP.sel o4 [] rfl rfl⟩
  exact ⟨p1, 0, ⟨K, K, K, K, trivial⟩, SP.sel c0 [0, 1, 4] rfl rfl, H⟩
 exact ⟨p1, 0, ⟨K, K, K, K, K, K, trivial⟩, SP.sel q0 [0, 1, 2, 3, 4] rfl rfl, H⟩
def Z6 (g : (List UInt8) → Option ((List UInt8))) (h : (List UInt8) → Int → Option ((List UInt8))) (i : (List Int) → Int → Option ((List UInt8))) (c : (List UInt8) → Int → Option ((List UInt8))) (d : (List Int)) (b : (List UInt8)) (a : Int) : Option ((List UInt8)) :=
  (cond (decide (a < 32)) ((idx d (IntKind.wrap .i64 (Int.tdiv a 4))).bind fun e => ((chk (decide (0 ≤ (IntKind.wrap .i64 (24 - (IntKind.wrap .i64 (8 * (Int.tmod a 4)))))))).bind fun _ => ((idx b a).bind fun j => ((some (List.set b (Int.toNat a) (D5 (IntKind.wrap .u8 (Yr .u32 e (IntKind.wrap .i64 (24 - (IntKind.wrap .i64 (8 * (Int.tmod a 4)))))))))).bind fun f => (c f (IntKind.wrap .i64 (a + 1))))))) (some (b)))
def Zf (a : (List UInt8) → Option ((List UInt8))) (b : (List UInt8) → Int → Option ((List UInt8))) (c : (List Int) → Int → Option ((List UInt8))) (d : (List Int)) : Nat → (List UInt8) → Int → Option ((List UInt8))
  | 0, _, _ => none
  | f + 1, e, g => Z6 a b c (Zf a b c d f) d e g
def Z7 (f : (List UInt8) → Option ((List UInt8))) (g : (List UInt8) → Int → Option ((List UInt8))) (b : (List Int) → Int → Option ((List UInt8))) (c : (List UInt8)) (d : (List Int)) (a : Int) : Option ((List UInt8)) :=
  (cond (decide (a < ((List.length c : Nat) : Int))) ((sub c a (IntKind.wrap .i64 (a + 64))).bind fun h => ((Xo d h).bind fun e => ((chk (Nat.beq (List.length e) 8)).bind fun _ => (b e (IntKind.wrap .i64 (a + 64)))))) (Zf f g b d Ji (List.replicate 32 (0 : UInt8)) 0))
def Vm (a : (List UInt8) → Option ((List UInt8))) (b : (List UInt8) → Int → Option ((List UInt8))) (c : (List UInt8)) : Nat → (List Int) → Int → Option ((List UInt8))
  | 0, _, _ => none
  | f + 1, d, e => Z7 a b (Vm a b c f) c d e
def Z8 (d : (List UInt8) → Option ((List UInt8))) (b : (List UInt8) → Int → Option ((List UInt8))) (p1 : (List UInt8)) (c : (List UInt8)) (a : Int) : Option ((List UInt8)) :=
  (cond (decide (a ≥ 0)) ((chk (decide (0 ≤ (IntKind.wrap .i64 (8 * a))))).bind fun _ => ((app c ([(D5 (IntKind.wrap .u8 (Yr .i64 (IntKind.wrap .i64 (8 * ((List.length p1 : Nat) : Int))) (IntKind.wrap .i64 (8 * a)))))] : List UInt8)).bind fun e => (b e (IntKind.wrap .i64 (a - 1))))) (Vm d b c Ji ([1779033703, 3144134277, 1013904242, 2773480762, 1359893119, 2600822924, 528734635, 1541459225] : List Int) 0))
def Qy (a : (List UInt8) → Option ((List UInt8))) (p1 : (List UInt8)) : Nat → (List UInt8) → Int → Option ((List UInt8))
  | 0, _, _ => none
  | f + 1, b, c => Z8 a (Qy a p1 f) p1 b c
def Z9 (b : (List UInt8) → Option ((List UInt8))) (p1 : (List UInt8)) (a : (List UInt8)) : Option ((List UInt8)) :=
  (cond ((Int.tmod ((List.length a : Nat) : Int) 64) != 56) ((app a ([(0 : UInt8)] : List UInt8)).bind fun c => (b c)) (Qy b p1 Ji a 7))
def Qk (p1 : (List UInt8)) : Nat → (List UInt8) → Option ((List UInt8))
  | 0, _ => none
  | f + 1, a => Z9  (Qk p1 f) p1 a
def Vh (p1 : (List UInt8)) : Option ((List UInt8)) :=
  ((app ([] : List UInt8) p1).bind fun a => ((app a ([(128 : UInt8)] : List UInt8)).bind fun b => (Qk p1 Ji b)))
set_option maxHeartbeats 40000000 in
theorem Uc (A2 : Option Addr) (c3 : Nat) (p1 : Bs) (w0 : World) (f3 : RdT eU8 w0 A2 c3 p1) (r : (Bs)) (H : Vh p1 = some r) :
  Calls Tryz.prog 87 #[(lv A2 p1 c3)] w0 (fun e W => e = .returned (.agg (Qd eU8 r).toArray) ∧ SP [] w0 W []) := by
 unfold Vh at H
 refine Z1 (n := 68) Tryz.func87 K K K ?_
 have f4 := SP.start [] w0
 refine aC ?_
 refine iS 1 ?_
 refine Q1 (e := eU8) (l := (List.replicate 32 (0 : UInt8))) (m := 32) (t := 103) (z := .agg (Qd eU8 (List.replicate 32 (0 : UInt8))).toArray) (d := (some 2)) (k := 0) K rfl K rfl rfl K f4 ?_
 intro g5 w6 f5
 refine iF ?_
 refine aC ?_
 refine iS 1 ?_
 refine zN eU8 51 5 0 #[] #[] ([] : Bs) 10 f5 ?_
 intro g9 i1 c2
 refine iR 1 2 [(11, (lv A2 p1 c3))] ?_
 obtain ⟨hl13, H⟩ := Gu H
 obtain ⟨d0, hyl14⟩ : ∃ y, ([] : Bs) ++ p1 = y := ⟨_, rfl⟩
 try rw [hyl14] at H
 refine iS 3 ?_
 refine Qr.append (e := eU8) (l := ([] : Bs)) (m := p1) (A := (some ⟨g9, 0, none⟩)) (c := (List.length ([] : Bs))) (T := 51) (TX := 51) (E := 5) (b := 1) (s := (.tmp 10)) (x := (.tmp 11)) (i := 1) (vx := (lv A2 p1 c3)) (d := (some 12)) (k := 2) K rfl K K K K rfl c2 rfl (D4 (E := 5) K (RdT.sp f3 c2)) hl13 ?_
 rw [hyl14]
 intro f6 c16 i2 f7
 refine iS 4 ?_
 refine Yy (e := eU8) (T := 51) (E := 5) (len := 1) (parts := #[(0, (.const (.int .u8 (128))))]) (cs := #[(.int .u8 128)]) ([(128 : UInt8)] : Bs) (d := (some 13)) (k := 3) K rfl (fun _ => K) f7 (U2 (Or.inl rfl) rfl) rfl rfl rfl ?_
 intro f8 i3 d1
 obtain ⟨hl24, H⟩ := Gu H
 obtain ⟨d2, hyl25⟩ : ∃ y, d0 ++ ([(128 : UInt8)] : Bs) = y := ⟨_, rfl⟩
 try rw [hyl25] at H
 refine iS 5 ?_
 refine Qr.append (e := eU8) (l := d0) (m := ([(128 : UInt8)] : Bs)) (A := f6) (c := c16) (T := 51) (TX := 51) (E := 5) (b := 1) (s := (.tmp 12)) (x := (.tmp 13)) (i := 1) (vx := (lv (some ⟨f8, 0, none⟩) ([(128 : UInt8)] : Bs) (List.length ([(128 : UInt8)] : Bs)))) (d := (some 14)) (k := 4) K rfl K K K K rfl d1 rfl (D4 (E := 5) K (Nv (SP.get d1 (i := 2) rfl))) hl24 ?_
 rw [hyl25]
 intro d3 c27 i4 f9
 refine iR 1 6 [(3, (lv d3 d2 c27))] ?_
 refine iF ?_
 refine aQ ?_
 refine Xu K (id := 0) K ?_
 refine U1 K (fun q ρ w => ∃ (a4 : Bs) (a8 : Option Addr) (a9 : Nat), Z5 ρ [(0, (lv A2 p1 c3)), (2, (pt g5 0)), (3, (lv a8 a4 a9))] ∧ SP [] w0 w [Q7 103 eU8 g5 32 (List.replicate 32 (0 : UInt8)), B5 5 eU8 a8 a9 a4] ∧ Qk p1 q a4 = some r) (by rintro ρ w ⟨a4, a8, a9, hk, hs, H⟩; cases H) ?_ Ji ?_
 ·rintro q ρ i5 ⟨a4, a8, a9, hk, b7, H⟩
  refine At.known _ hk ?_
  replace H := (show Z9 (Qk p1 q) p1 a4 = some r from H)
  unfold Z9 at H
  have i6 := Qv (SP.get b7 (i := 0) rfl)
  refine aQ ?_
  refine aC ?_
  refine iR 4 4 [(15, (lv a8 a4 a9)), (16, (iv (ln a4))), (17, (iv (Int.tmod (ln a4) 64))), (18, (bv ((Int.tmod (ln a4) 64) != 56)))] ?_
  refine iF ?_
  refine cD 18 H (fun H => ?_) fun H => ?_
  ·refine At.skip K ?_
   refine Xu K (id := 1) K ?_
   refine aR ?_
   refine iR 1 1 [(19, (lv a8 a4 a9))] ?_
   refine iS 2 ?_
   refine Yy (e := eU8) (T := 51) (E := 5) (len := 1) (parts := #[(0, (.const (.int .u8 (0))))]) (cs := #[(.int .u8 0)]) ([(0 : UInt8)] : Bs) (d := (some 20)) (k := 1) K rfl (fun _ => K) b7 (U2 (Or.inl rfl) rfl) rfl rfl rfl ?_
   intro g0 i7 d4
   obtain ⟨hl7185, H⟩ := Gu H
   obtain ⟨d5, hyl7186⟩ : ∃ y, a4 ++ ([(0 : UInt8)] : Bs) = y := ⟨_, rfl⟩
   try rw [hyl7186] at H
   refine iS 3 ?_
   refine Qr.append (e := eU8) (l := a4) (m := ([(0 : UInt8)] : Bs)) (A := a8) (c := a9) (T := 51) (TX := 51) (E := 5) (b := 1) (s := (.tmp 19)) (x := (.tmp 20)) (i := 1) (vx := (lv (some ⟨g0, 0, none⟩) ([(0 : UInt8)] : Bs) (List.length ([(0 : UInt8)] : Bs)))) (d := (some 21)) (k := 2) K rfl K K K K rfl d4 rfl (D4 (E := 5) K (Nv (SP.get d4 (i := 2) rfl))) hl7185 ?_
   rw [hyl7186]
   intro d6 d7 i8 g1
   refine iR 1 4 [(3, (lv d6 d5 d7))] ?_
   refine iF ?_
   exact ⟨d5, d6, d7, ⟨K, K, K, trivial⟩, SP.sel g1 [0, 1] rfl rfl, H⟩
  refine At.exit K (id := 0) K ?_
  refine aC ?_
  refine iR 4 4 [(22, (lv A2 p1 c3)), (23, (iv (ln p1))), (24, (iv (IntKind.wrap .i64 (8 * (ln p1))))), (4, (iv (IntKind.wrap .i64 (8 * (ln p1)))))] ?_
  refine iF ?_
  refine aQ ?_
  refine aC ?_
  refine iR 1 1 [(5, (iv 7))] ?_
  refine iF ?_
  refine Xu K (id := 2) K ?_
  refine U1 K (fun a5 ρ w => ∃ (f : Bs) (u : Int) (a1 : Option Addr) (a0 : Nat), Z5 ρ [(2, (pt g5 0)), (3, (lv a1 f a0)), (4, (iv (IntKind.wrap .i64 (8 * (ln p1))))), (5, (iv u))] ∧ SP [] w0 w [Q7 103 eU8 g5 32 (List.replicate 32 (0 : UInt8)), B5 5 eU8 a1 a0 f] ∧ Qy (Qk p1 q) p1 a5 f u = some r) (by rintro ρ w ⟨f, u, a1, a0, hk, hs, H⟩; cases H) ?_ Ji ?_
  ·rintro a5 ρ i9 ⟨f, u, a1, a0, hk, b8, H⟩
   refine At.known _ hk ?_
   replace H := (show Z8 (Qk p1 q) (Qy (Qk p1 q) p1 a5) p1 f u = some r from H)
   unfold Z8 at H
   have j0 := Qv (SP.get b8 (i := 0) rfl)
   refine aQ ?_
   refine aC ?_
   refine iR 2 2 [(25, (iv u)), (26, (bv (decide (u ≥ 0))))] ?_
   refine iF ?_
   refine cD 26 H (fun H => ?_) fun H => ?_
   ·refine At.skip K ?_
    refine aQ ?_
    refine Xu K (id := 3) K ?_
    refine aR ?_
    refine iR 4 4 [(29, (lv a1 f a0)), (30, (iv (IntKind.wrap .i64 (8 * (ln p1))))), (31, (iv u)), (32, (iv (IntKind.wrap .i64 (8 * u))))] ?_
    obtain ⟨hl8972, H⟩ := V7 H
    refine iS 5 ?_
    refine Qr.shift (op := .shr) (T := 3) (T' := 3) (x := (.tmp 30)) (y := (.tmp 32)) (kx := .i64) (ky := .i64) (a := (IntKind.wrap .i64 (8 * (ln p1)))) (b := (IntKind.wrap .i64 (8 * u))) (v := (iv (Yr .i64 (IntKind.wrap .i64 (8 * (ln p1))) (IntKind.wrap .i64 (8 * u))))) (d := (some 33)) (k := 4) K rfl K K (of_decide_eq_true hl8972) rfl ?_
    refine iR 1 6 [(34, (.int .u8 (IntKind.wrap .u8 (Yr .i64 (IntKind.wrap .i64 (8 * (ln p1))) (IntKind.wrap .i64 (8 * u))))))] ?_
    refine iS 7 ?_
    refine Yy (e := eU8) (T := 51) (E := 5) (len := 1) (parts := #[(0, (.tmp 34))]) (cs := #[(.int .u8 (IntKind.wrap .u8 (Yr .i64 (IntKind.wrap .i64 (8 * (ln p1))) (IntKind.wrap .i64 (8 * u)))))]) ([(D5 (IntKind.wrap .u8 (Yr .i64 (IntKind.wrap .i64 (8 * (ln p1))) (IntKind.wrap .i64 (8 * u)))))] : Bs) (d := (some 35)) (k := 6) K rfl (fun _ => K) b8 (U2 (Or.inr ⟨rfl, (D7 _)⟩) rfl) rfl rfl rfl ?_
    intro g2 j1 d8
    obtain ⟨hl8977, H⟩ := Gu H
    obtain ⟨d9, hyl8978⟩ : ∃ y, f ++ ([(D5 (IntKind.wrap .u8 (Yr .i64 (IntKind.wrap .i64 (8 * (ln p1))) (IntKind.wrap .i64 (8 * u)))))] : Bs) = y := ⟨_, rfl⟩
    try rw [hyl8978] at H
    refine iS 8 ?_
    refine Qr.append (e := eU8) (l := f) (m := ([(D5 (IntKind.wrap .u8 (Yr .i64 (IntKind.wrap .i64 (8 * (ln p1))) (IntKind.wrap .i64 (8 * u)))))] : Bs)) (A := a1) (c := a0) (T := 51) (TX := 51) (E := 5) (b := 1) (s := (.tmp 29)) (x := (.tmp 35)) (i := 1) (vx := (lv (some ⟨g2, 0, none⟩) ([(D5 (IntKind.wrap .u8 (Yr .i64 (IntKind.wrap .i64 (8 * (ln p1))) (IntKind.wrap .i64 (8 * u)))))] : Bs) (List.length ([(D5 (IntKind.wrap .u8 (Yr .i64 (IntKind.wrap .i64 (8 * (ln p1))) (IntKind.wrap .i64 (8 * u)))))] : Bs)))) (d := (some 36)) (k := 7) K rfl K K K K rfl d8 rfl (D4 (E := 5) K (Nv (SP.get d8 (i := 2) rfl))) hl8977 ?_
    rw [hyl8978]
    intro e0 e1 j2 g3
    refine iR 1 9 [(3, (lv e0 d9 e1))] ?_
    refine iF ?_
    refine aR ?_
    refine iR 3 3 [(27, (iv u)), (28, (iv (IntKind.wrap .i64 (u - 1)))), (5, (iv (IntKind.wrap .i64 (u - 1))))] ?_
    refine iF ?_
    exact ⟨d9, (IntKind.wrap .i64 (u - 1)), e0, e1, ⟨K, K, K, K, trivial⟩, SP.sel g3 [0, 1] rfl rfl, H⟩
   refine At.exit K (id := 2) K ?_
   refine aC ?_
   refine iR 1 1 [(37, (.agg (Qd (Qg .u32) ([1779033703, 3144134277, 1013904242, 2773480762, 1359893119, 2600822924, 528734635, 1541459225] : List Int)).toArray))] ?_
   refine iS 2 ?_
   refine Q1 (e := (Qg .u32)) (l := (List.replicate 8 0)) (m := 8) (t := 270) (z := .agg (Qd (Qg .u32) (List.replicate 8 0)).toArray) (d := (some 6)) (k := 1) K rfl K rfl rfl K b8 ?_
   intro a3 j3 g4
   refine iS 3 ?_
   refine Vb (e := (Qg .u32)) (l := (List.replicate 8 0)) (l' := ([1779033703, 3144134277, 1013904242, 2773480762, 1359893119, 2600822924, 528734635, 1541459225] : List Int)) (m := 8) (t := 270) (x := (.tmp 6)) (y := (.tmp 37)) (g := a3) (i := 2) (d := none) (k := 2) K rfl K K rfl g4 rfl K ?_
   intro j4 g6
   refine iF ?_
   refine aQ ?_
   refine aC ?_
   refine iR 1 1 [(7, (iv 0))] ?_
   refine iF ?_
   refine Xu K (id := 4) K ?_
   refine U1 K (fun b4 ρ w => ∃ (a2 : (List Int)) (p : Int), Z5 ρ [(2, (pt g5 0)), (3, (lv a1 f a0)), (6, (pt a3 0)), (7, (iv p))] ∧ SP [] w0 w [Q7 103 eU8 g5 32 (List.replicate 32 (0 : UInt8)), Q7 270 (Qg .u32) a3 8 a2, B5 5 eU8 a1 a0 f] ∧ Vm (Qk p1 q) (Qy (Qk p1 q) p1 a5) f b4 a2 p = some r) (by rintro ρ w ⟨a2, p, hk, hs, H⟩; cases H) ?_ Ji ?_
   ·rintro b4 ρ j5 ⟨a2, p, hk, b6, H⟩
    refine At.known _ hk ?_
    replace H := (show Z7 (Qk p1 q) (Qy (Qk p1 q) p1 a5) (Vm (Qk p1 q) (Qy (Qk p1 q) p1 a5) f b4) f a2 p = some r from H)
    unfold Z7 at H
    have j6 := Qv (SP.get b6 (i := 0) rfl)
    have g7 := Qv (SP.get b6 (i := 1) rfl)
    refine aQ ?_
    refine aC ?_
    refine iR 4 4 [(38, (iv p)), (39, (lv a1 f a0)), (40, (iv (ln f))), (41, (bv (decide (p < (ln f)))))] ?_
    refine iF ?_
    refine cD 41 H (fun H => ?_) fun H => ?_
    ·refine At.skip K ?_
     refine aQ ?_
     refine Xu K (id := 5) K ?_
     obtain ⟨e2, e3, e4, H⟩ := Js H
     obtain ⟨b9, hyl9424⟩ : ∃ y, (List.drop (Int.toNat p) (List.take (Int.toNat (IntKind.wrap .i64 (p + 64))) f)) = y := ⟨_, rfl⟩
     rw [hyl9424] at H
     obtain ⟨b0, g8, H⟩ := Va H
     obtain ⟨c0, H⟩ := V7 H
     replace c0 := Nat.eq_of_beq_eq_true c0
     refine aG [GEq (.agg (Qd (Qg .u32) a2).toArray), GEq (lv a1 f a0), GEq (iv p), GEq (iv p), GEq (iv (IntKind.wrap .i64 (p + 64))), GEq (lv (Nw eU8.sz a0 (Int.toNat p) a1) b9 (a0 - Int.toNat p)), GEq (.agg (Qd (Qg .u32) b0).toArray), Ii] [6, 7] [sG [] [] [] w0 [Q7 103 eU8 g5 32 (List.replicate 32 (0 : UInt8)), Q7 270 (Qg .u32) a3 8 a2, B5 5 eU8 a1 a0 f], sG [6] [(.agg (Qd (Qg .u32) b0).toArray)] [] w0 [Q7 103 eU8 g5 32 (List.replicate 32 (0 : UInt8)), Q7 270 (Qg .u32) a3 8 a2, B5 5 eU8 a1 a0 f], sG [6, 7] [(.agg (Qd (Qg .u32) b0).toArray), undef] [] w0 [Q7 103 eU8 g5 32 (List.replicate 32 (0 : UInt8)), Q7 270 (Qg .u32) a3 8 b0, B5 5 eU8 a1 a0 f]] 8 2 ⟨trivial, SP.drew b6⟩ ?_ ?_
     iterate 8 refine And.intro ?_ ?_
     exact trivial
     ·refine oL 0 ?_
      rintro P W hs b1 ⟨-, h1⟩
      refine kM (kc (kS hs 6 (pt a3 0)) k0) fun b2 => ?_
      refine Vl (e := (Qg .u32)) (l := a2) (m := 8) (t := 270) (x := (.tmp 6)) (g := a3) (i := 1) (d := (some 44)) (k := 0) K rfl K h1 rfl K K ?_
      exact eK b2
     ·exact oU (hC (hS 3 (lv a1 f a0)) (h0))
     ·exact oU (hC (hS 7 (iv p)) (h0))
     ·exact oU (hC (hS 7 (iv p)) (h0))
     ·exact oU (hC (hA 3 47) (h0))
     ·refine oL 0 ?_
      rintro P W hs b1 ⟨-, h2⟩
      refine kM (kc (kA b1 1 45) (kc (kA b1 2 46) (kc (kA b1 4 48) k0))) fun b2 => ?_
      refine Ju (e := eU8) (l := f) (m := b9) (A := a1) (c := a0) (T := 51) (E := 5) (x := (.tmp 45)) (lo := (some (.tmp 46))) (hi := (some (.tmp 48))) (i := p) (j := (IntKind.wrap .i64 (p + 64))) (d := (some 49)) (k := 5) K rfl K K K ⟨.i64, K⟩ ⟨.i64, K⟩ (RdX.le (Nv (SP.get h2 (i := 2) rfl))) e2 e3 e4 hyl9424 ?_
      exact eK b2
     ·refine oH 0 1 ?_
      rintro P W hs b1 ⟨-, e5⟩
      refine kM (kc (kA b1 0 44) (kc (kA b1 5 49) k0)) fun b2 => ?_
      refine cS e5 156 #[(.tmp 44), (.tmp 49)] #[270, 51] 50 Tryz.call156 (Jl (Nw eU8.sz a0 (Int.toNat p) a1) (a0 - Int.toNat p) a2 b9 W g7 ((G9 e2 e3 e4 hyl9424) W (Nv (SP.get e5 (i := 2) rfl))) b0 g8) ?_
      intro j7 h3
      refine ⟨_, Qb b2, rfl, ?_⟩
      exact (ai (ai rfl (trivial)) h3)
     ·refine oH 1 2 ?_
      rintro P W hs b1 ⟨⟨e6, -⟩, h4⟩
      refine kN [(6, (pt a3 0)), (50, (.agg (Qd (Qg .u32) b0).toArray))] ⟨(hs 6 K).trans K, (Je (h := 6) K).symm.trans e6, trivial⟩ fun b2 => ?_
      refine Vb (e := (Qg .u32)) (l := a2) (l' := b0) (m := 8) (t := 270) (x := (.tmp 6)) (y := (.tmp 50)) (g := a3) (i := 1) (d := none) (k := 7) K rfl K K c0 h4 rfl K ?_
      intro j8 h5
      refine ⟨_, Qb b2, trivial, ?_⟩
      exact (ai (ai e6 (ai rfl (trivial))) h5)
     rintro P j9 hs hf ⟨⟨k1, k2, -⟩, h6⟩
     refine Vy _ (kc (kT hs 2 (pt g5 0)) (kc (kT hs 3 (lv a1 f a0)) (kc (kT hs 6 (pt a3 0)) (kc (kT hs 7 (iv p)) k0)))) ?_
     refine aR ?_
     refine iR 3 3 [(42, (iv p)), (43, (iv (IntKind.wrap .i64 (p + 64)))), (7, (iv (IntKind.wrap .i64 (p + 64))))] ?_
     refine iF ?_
     exact ⟨b0, (IntKind.wrap .i64 (p + 64)), ⟨K, K, K, K, trivial⟩, SP.sel h6 [0, 1, 2] rfl rfl, H⟩
    refine At.exit K (id := 4) K ?_
    refine aC ?_
    refine iS 1 ?_
    refine Q1 (e := eU8) (l := (List.replicate 32 (0 : UInt8))) (m := 32) (t := 103) (z := .agg (Qd eU8 (List.replicate 32 (0 : UInt8))).toArray) (d := (some 8)) (k := 0) K rfl K rfl rfl K b6 ?_
    intro b5 l0 h7
    refine iF ?_
    refine aQ ?_
    refine aC ?_
    refine iR 1 1 [(9, (iv 0))] ?_
    refine iF ?_
    refine Xu K (id := 6) K ?_
    refine U1 K (fun c1 ρ w => ∃ (a6 : Bs) (o : Int), Z5 ρ [(2, (pt g5 0)), (6, (pt a3 0)), (8, (pt b5 0)), (9, (iv o))] ∧ SP [] w0 w [Q7 103 eU8 g5 32 (List.replicate 32 (0 : UInt8)), Q7 270 (Qg .u32) a3 8 a2, Q7 103 eU8 b5 32 a6] ∧ Zf (Qk p1 q) (Qy (Qk p1 q) p1 a5) (Vm (Qk p1 q) (Qy (Qk p1 q) p1 a5) f b4) a2 c1 a6 o = some r) (by rintro ρ w ⟨a6, o, hk, hs, H⟩; cases H) ?_ Ji ?_
    ·rintro c1 ρ l1 ⟨a6, o, hk, a7, H⟩
     refine At.known _ hk ?_
     replace H := (show Z6 (Qk p1 q) (Qy (Qk p1 q) p1 a5) (Vm (Qk p1 q) (Qy (Qk p1 q) p1 a5) f b4) (Zf (Qk p1 q) (Qy (Qk p1 q) p1 a5) (Vm (Qk p1 q) (Qy (Qk p1 q) p1 a5) f b4) a2 c1) a2 a6 o = some r from H)
     unfold Z6 at H
     have l2 := Qv (SP.get a7 (i := 0) rfl)
     have l3 := Qv (SP.get a7 (i := 1) rfl)
     have h8 := Qv (SP.get a7 (i := 2) rfl)
     refine aQ ?_
     refine aC ?_
     refine iR 2 2 [(51, (iv o)), (52, (bv (decide (o < 32))))] ?_
     refine iF ?_
     refine cD 52 H (fun H => ?_) fun H => ?_
     ·refine At.skip K ?_
      refine aQ ?_
      refine Xu K (id := 7) K ?_
      refine aR ?_
      refine iR 3 3 [(55, (iv o)), (56, (iv o)), (57, (iv (IntKind.wrap .i64 (Int.tdiv o 4))))] ?_
      obtain ⟨b3, e7, e8, h9, H⟩ := Qn H
      refine iS 4 ?_
      refine Qe (e := (Qg .u32)) (l := a2) (m := 8) (g := a3) (T := 270) (E := 43) (x := (.tmp 6)) (ix := (.tmp 57)) (ki := .i64) (iz := (IntKind.wrap .i64 (Int.tdiv o 4))) (i := 1) (d := (some 58)) (k := 3) K rfl K K K K a7 rfl e7 e8 ?_
      refine jX 5 43 58 a3 (0 + Int.toNat (IntKind.wrap .i64 (Int.tdiv o 4)) * (Qg .u32).sz) (.int .u32 b3) 59 (Qi (e := (Qg .u32)) (Qj (Qp (SP.get a7 (i := 1) rfl)) rfl e7 e8) h9 (j := 0) rfl) ?_
      refine iR 4 9 [(60, (iv o)), (61, (iv (Int.tmod o 4))), (62, (iv (IntKind.wrap .i64 (8 * (Int.tmod o 4))))), (63, (iv (IntKind.wrap .i64 (24 - (IntKind.wrap .i64 (8 * (Int.tmod o 4)))))))] ?_
      obtain ⟨hl9546, H⟩ := V7 H
      refine iS 10 ?_
      refine Qr.shift (op := .shr) (T := 43) (T' := 3) (x := (.tmp 59)) (y := (.tmp 63)) (kx := .u32) (ky := .i64) (a := b3) (b := (IntKind.wrap .i64 (24 - (IntKind.wrap .i64 (8 * (Int.tmod o 4)))))) (v := (.int .u32 (Yr .u32 b3 (IntKind.wrap .i64 (24 - (IntKind.wrap .i64 (8 * (Int.tmod o 4)))))))) (d := (some 64)) (k := 9) K rfl K K (of_decide_eq_true hl9546) rfl ?_
      refine iR 1 11 [(65, (.int .u8 (IntKind.wrap .u8 (Yr .u32 b3 (IntKind.wrap .i64 (24 - (IntKind.wrap .i64 (8 * (Int.tmod o 4)))))))))] ?_
      obtain ⟨l4, e9, f0, l5, H⟩ := Qn H
      refine iS 12 ?_
      refine Qe (e := eU8) (l := a6) (m := 32) (g := b5) (T := 103) (E := 5) (x := (.tmp 8)) (ix := (.tmp 55)) (ki := .i64) (iz := o) (i := 2) (d := (some 66)) (k := 11) K rfl K K K K a7 rfl e9 f0 ?_
      obtain ⟨f1, hyl9551, H⟩ := Vp H
      have hnl9551 : List.length f1 = List.length a6 := by rw [← hyl9551, List.length_set]
      refine iS 13 ?_
      refine Vf (e := eU8) (t := 5) (x := (.tmp 66)) (y := (.tmp 65)) (l := a6) (iz := o) (m := 32) (g := b5) (b := b5) (off := 0) (i := 2) (v := (.int .u8 (IntKind.wrap .u8 (Yr .u32 b3 (IntKind.wrap .i64 (24 - (IntKind.wrap .i64 (8 * (Int.tmod o 4))))))))) (x' := (D5 (IntKind.wrap .u8 (Yr .u32 b3 (IntKind.wrap .i64 (24 - (IntKind.wrap .i64 (8 * (Int.tmod o 4))))))))) (d := none) (k := 12) K rfl rfl K K a7 rfl rfl f0 e9 (by show [Value.int .u8 (((D5 (IntKind.wrap .u8 (Yr .u32 b3 (IntKind.wrap .i64 (24 - (IntKind.wrap .i64 (8 * (Int.tmod o 4))))))))).toNat : Int)] = _; rw [D6 (D7 _)]) K ?_
      rw [hyl9551]
      intro l6 i0
      refine In.known [] trivial ?_
      refine iF ?_
      refine aR ?_
      refine iR 3 3 [(53, (iv o)), (54, (iv (IntKind.wrap .i64 (o + 1)))), (9, (iv (IntKind.wrap .i64 (o + 1))))] ?_
      refine iF ?_
      exact ⟨f1, (IntKind.wrap .i64 (o + 1)), ⟨K, K, K, K, trivial⟩, SP.sel i0 [0, 1, 2] rfl rfl, H⟩
     refine At.exit K (id := 6) K ?_
     refine aC ?_
     refine iS 1 ?_
     refine Vl (e := eU8) (l := a6) (m := 32) (t := 103) (x := (.tmp 8)) (g := b5) (i := 2) (d := (some 67)) (k := 0) K rfl K a7 rfl K K ?_
     refine iS 2 ?_
     refine Vb (e := eU8) (l := (List.replicate 32 (0 : UInt8))) (l' := a6) (m := 32) (t := 103) (x := (.tmp 2)) (y := (.tmp 67)) (g := g5) (i := 0) (d := none) (k := 1) K rfl K K h8 a7 rfl K ?_
     intro l7 f2
     refine iF ?_
     refine At.ret K ?_
     refine ⟨(.agg (Qd eU8 a6).toArray), Bb K (Y0 (e := eU8) (l := a6) (a := 2) (t := 103) K (SP.get f2 (i := 0) rfl) K K), ?_⟩
     obtain rfl := Zd H
     exact ⟨rfl, SP.sel f2 [] rfl rfl⟩
    exact ⟨(List.replicate 32 (0 : UInt8)), 0, ⟨K, K, K, K, trivial⟩, SP.sel h7 [0, 1, 3] rfl rfl, H⟩
   exact ⟨([1779033703, 3144134277, 1013904242, 2773480762, 1359893119, 2600822924, 528734635, 1541459225] : List Int), 0, ⟨K, K, K, K, trivial⟩, SP.sel g6 [0, 2, 1] rfl rfl, H⟩
  exact ⟨a4, 7, a8, a9, ⟨K, K, K, K, trivial⟩, SP.sel b7 [0, 1] rfl rfl, H⟩
 exact ⟨d2, d3, c27, ⟨K, K, K, trivial⟩, SP.sel f9 [0, 1] rfl rfl, H⟩
end Go.Proofs.YtibipfdpembkgaaGreatDoor
