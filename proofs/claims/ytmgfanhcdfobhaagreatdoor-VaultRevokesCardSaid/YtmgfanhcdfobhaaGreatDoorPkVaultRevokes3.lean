import Derived.Test.YtmgfanhcdfobhaaGreatDoorPkVaultRevokes2
set_option linter.unusedSimpArgs false
set_option linter.unusedVariables false
set_option linter.unusedSectionVars false
namespace Go.Proofs.YtmgfanhcdfobhaaGreatDoor
open Go.RowKit
def Z5 (p1 : Int) (p2 : Int) : Option (Int) :=
  ((chk (decide (0 ≤ (V7 .u64 (IntKind.wrap .u64 p2) 31)))).bind fun _ => ((chk (decide (0 ≤ (IntKind.wrap .u64 (32 - (V7 .u64 (IntKind.wrap .u64 p2) 31)))))).bind fun _ => (some ((bOr .u32 (Ni .u32 p1 (V7 .u64 (IntKind.wrap .u64 p2) 31)) (J4 .u32 p1 (IntKind.wrap .u64 (32 - (V7 .u64 (IntKind.wrap .u64 p2) 31)))))))))
set_option maxRecDepth 100000 in
set_option maxHeartbeats 4000000 in
theorem Xs  (p1 : Int) (p2 : Int) (w0 : World)  (r : (Int)) (H : Z5 p1 p2 = some r) :
  Calls Tryz.prog 138 #[(.int .u32 p1), (.int .i64 p2)] w0 (fun e w' => e = .returned (.int .u32 r) ∧ SP [] w0 w' []) := by
 unfold Z5 at H
 refine Qv (n := 17) Tryz.func138 K K K ?_
 have c := Q1 [] w0
 refine aQ ?_
 refine aR ?_
 refine iR 1 1 [(4, (.int .u32 0))] ?_
 refine iF ?_
 refine aQ ?_
 refine aR ?_
 refine iR 4 4 [(6, (.int .i64 p2)), (7, (.int .u64 (IntKind.wrap .u64 p2))), (8, (.int .u64 (V7 .u64 (IntKind.wrap .u64 p2) 31))), (5, (.int .u64 (V7 .u64 (IntKind.wrap .u64 p2) 31)))] ?_
 refine iF ?_
 refine aQ ?_
 refine aR ?_
 refine iR 2 2 [(9, (.int .u32 p1)), (10, (.int .u64 (V7 .u64 (IntKind.wrap .u64 p2) 31)))] ?_
 obtain ⟨hl3, H⟩ := Vv H
 refine iS 3 ?_
 refine Qj.shift (op := .shl) (T := 111) (T' := 127) (x := (.tmp 9)) (y := (.tmp 10)) (kx := .u32) (ky := .u64) (a := p1) (b := (V7 .u64 (IntKind.wrap .u64 p2) 31)) (v := (.int .u32 (Ni .u32 p1 (V7 .u64 (IntKind.wrap .u64 p2) 31)))) (d := (some 11)) (k := 2) K rfl K K (of_decide_eq_true hl3) rfl ?_
 refine iR 3 6 [(12, (.int .u32 p1)), (13, (.int .u64 (V7 .u64 (IntKind.wrap .u64 p2) 31))), (14, (.int .u64 (IntKind.wrap .u64 (32 - (V7 .u64 (IntKind.wrap .u64 p2) 31)))))] ?_
 obtain ⟨hl4, H⟩ := Vv H
 refine iS 7 ?_
 refine Qj.shift (op := .shr) (T := 111) (T' := 127) (x := (.tmp 12)) (y := (.tmp 14)) (kx := .u32) (ky := .u64) (a := p1) (b := (IntKind.wrap .u64 (32 - (V7 .u64 (IntKind.wrap .u64 p2) 31)))) (v := (.int .u32 (J4 .u32 p1 (IntKind.wrap .u64 (32 - (V7 .u64 (IntKind.wrap .u64 p2) 31)))))) (d := (some 15)) (k := 6) K rfl K K (of_decide_eq_true hl4) rfl ?_
 refine iR 2 9 [(16, (.int .u32 (bOr .u32 (Ni .u32 p1 (V7 .u64 (IntKind.wrap .u64 p2) 31)) (J4 .u32 p1 (IntKind.wrap .u64 (32 - (V7 .u64 (IntKind.wrap .u64 p2) 31))))))), (4, (.int .u32 (bOr .u32 (Ni .u32 p1 (V7 .u64 (IntKind.wrap .u64 p2) 31)) (J4 .u32 p1 (IntKind.wrap .u64 (32 - (V7 .u64 (IntKind.wrap .u64 p2) 31)))))))] ?_
 refine iF ?_
 refine At.ret K ?_
 refine ⟨(.int .u32 (bOr .u32 (Ni .u32 p1 (V7 .u64 (IntKind.wrap .u64 p2) 31)) (J4 .u32 p1 (IntKind.wrap .u64 (32 - (V7 .u64 (IntKind.wrap .u64 p2) 31)))))), K, ?_⟩
 obtain rfl := Qm H
 exact ⟨rfl, SP.sel c [] rfl rfl⟩
def Nd  : Option ((List Int)) :=
  (some (([1779033703, 3144134277, 1013904242, 2773480762, 1359893119, 2600822924, 528734635, 1541459225] : List Int)))
set_option maxRecDepth 100000 in
set_option maxHeartbeats 4000000 in
theorem Ro   (w0 : World)  (r : ((List Int))) (H : Nd  = some r) :
  Calls Tryz.prog 114 #[] w0 (fun e w' => e = .returned (.agg (Qb (Qc .u32) r).toArray) ∧ SP [] w0 w' []) := by
 unfold Nd at H
 refine Qv (n := 2) Tryz.func114 K K K ?_
 have c := Q1 [] w0
 refine aQ ?_
 refine aR ?_
 refine iS 1 ?_
 refine Qz (e := (Qc .u32)) (l := (List.replicate 8 0)) (m := 8) (t := 149) (z := .agg (Qb (Qc .u32) (List.replicate 8 0)).toArray) (d := (some 0)) (k := 0) K rfl K rfl rfl K c ?_
 intro g1 w2 f
 refine iF ?_
 refine aQ ?_
 refine aR ?_
 refine iR 1 1 [(1, (.agg (Qb (Qc .u32) ([1779033703, 3144134277, 1013904242, 2773480762, 1359893119, 2600822924, 528734635, 1541459225] : List Int)).toArray))] ?_
 refine iS 2 ?_
 refine Q8 (e := (Qc .u32)) (l := (List.replicate 8 0)) (l' := ([1779033703, 3144134277, 1013904242, 2773480762, 1359893119, 2600822924, 528734635, 1541459225] : List Int)) (m := 8) (t := 149) (x := (.tmp 0)) (y := (.tmp 1)) (g := g1) (i := 0) (d := none) (k := 1) K rfl K K rfl f rfl K ?_
 intro w5 b
 refine iF ?_
 refine At.ret K ?_
 refine ⟨(.agg (Qb (Qc .u32) ([1779033703, 3144134277, 1013904242, 2773480762, 1359893119, 2600822924, 528734635, 1541459225] : List Int)).toArray), Bc K (J7 (e := (Qc .u32)) (l := ([1779033703, 3144134277, 1013904242, 2773480762, 1359893119, 2600822924, 528734635, 1541459225] : List Int)) (a := 0) (t := 149) K (SP.get b (i := 0) rfl) K K), ?_⟩
 obtain rfl := Qm H
 exact ⟨rfl, SP.sel b [] rfl rfl⟩
def Gw  : Option ((List Int)) :=
  (some (([1116352408, 1899447441, 3049323471, 3921009573, 961987163, 1508970993, 2453635748, 2870763221, 3624381080, 310598401, 607225278, 1426881987, 1925078388, 2162078206, 2614888103, 3248222580, 3835390401, 4022224774, 264347078, 604807628, 770255983, 1249150122, 1555081692, 1996064986, 2554220882, 2821834349, 2952996808, 3210313671, 3336571891, 3584528711, 113926993, 338241895, 666307205, 773529912, 1294757372, 1396182291, 1695183700, 1986661051, 2177026350, 2456956037, 2730485921, 2820302411, 3259730800, 3345764771, 3516065817, 3600352804, 4094571909, 275423344, 430227734, 506948616, 659060556, 883997877, 958139571, 1322822218, 1537002063, 1747873779, 1955562222, 2024104815, 2227730452, 2361852424, 2428436474, 2756734187, 3204031479, 3329325298] : List Int)))
set_option maxRecDepth 100000 in
set_option maxHeartbeats 4000000 in
theorem Y4   (w0 : World)  (r : ((List Int))) (H : Gw  = some r) :
  Calls Tryz.prog 127 #[] w0 (fun e w' => e = .returned (.agg (Qb (Qc .u32) r).toArray) ∧ SP [] w0 w' []) := by
 unfold Gw at H
 refine Qv (n := 2) Tryz.func127 K K K ?_
 have c := Q1 [] w0
 refine aQ ?_
 refine aR ?_
 refine iS 1 ?_
 refine Qz (e := (Qc .u32)) (l := (List.replicate 64 0)) (m := 64) (t := 135) (z := .agg (Qb (Qc .u32) (List.replicate 64 0)).toArray) (d := (some 0)) (k := 0) K rfl K rfl rfl K c ?_
 intro g1 w2 f
 refine iF ?_
 refine aQ ?_
 refine aR ?_
 refine iR 1 1 [(1, (.agg (Qb (Qc .u32) ([1116352408, 1899447441, 3049323471, 3921009573, 961987163, 1508970993, 2453635748, 2870763221, 3624381080, 310598401, 607225278, 1426881987, 1925078388, 2162078206, 2614888103, 3248222580, 3835390401, 4022224774, 264347078, 604807628, 770255983, 1249150122, 1555081692, 1996064986, 2554220882, 2821834349, 2952996808, 3210313671, 3336571891, 3584528711, 113926993, 338241895, 666307205, 773529912, 1294757372, 1396182291, 1695183700, 1986661051, 2177026350, 2456956037, 2730485921, 2820302411, 3259730800, 3345764771, 3516065817, 3600352804, 4094571909, 275423344, 430227734, 506948616, 659060556, 883997877, 958139571, 1322822218, 1537002063, 1747873779, 1955562222, 2024104815, 2227730452, 2361852424, 2428436474, 2756734187, 3204031479, 3329325298] : List Int)).toArray))] ?_
 refine iS 2 ?_
 refine Q8 (e := (Qc .u32)) (l := (List.replicate 64 0)) (l' := ([1116352408, 1899447441, 3049323471, 3921009573, 961987163, 1508970993, 2453635748, 2870763221, 3624381080, 310598401, 607225278, 1426881987, 1925078388, 2162078206, 2614888103, 3248222580, 3835390401, 4022224774, 264347078, 604807628, 770255983, 1249150122, 1555081692, 1996064986, 2554220882, 2821834349, 2952996808, 3210313671, 3336571891, 3584528711, 113926993, 338241895, 666307205, 773529912, 1294757372, 1396182291, 1695183700, 1986661051, 2177026350, 2456956037, 2730485921, 2820302411, 3259730800, 3345764771, 3516065817, 3600352804, 4094571909, 275423344, 430227734, 506948616, 659060556, 883997877, 958139571, 1322822218, 1537002063, 1747873779, 1955562222, 2024104815, 2227730452, 2361852424, 2428436474, 2756734187, 3204031479, 3329325298] : List Int)) (m := 64) (t := 135) (x := (.tmp 0)) (y := (.tmp 1)) (g := g1) (i := 0) (d := none) (k := 1) K rfl K K rfl f rfl K ?_
 intro w5 b
 refine iF ?_
 refine At.ret K ?_
 refine ⟨(.agg (Qb (Qc .u32) ([1116352408, 1899447441, 3049323471, 3921009573, 961987163, 1508970993, 2453635748, 2870763221, 3624381080, 310598401, 607225278, 1426881987, 1925078388, 2162078206, 2614888103, 3248222580, 3835390401, 4022224774, 264347078, 604807628, 770255983, 1249150122, 1555081692, 1996064986, 2554220882, 2821834349, 2952996808, 3210313671, 3336571891, 3584528711, 113926993, 338241895, 666307205, 773529912, 1294757372, 1396182291, 1695183700, 1986661051, 2177026350, 2456956037, 2730485921, 2820302411, 3259730800, 3345764771, 3516065817, 3600352804, 4094571909, 275423344, 430227734, 506948616, 659060556, 883997877, 958139571, 1322822218, 1537002063, 1747873779, 1955562222, 2024104815, 2227730452, 2361852424, 2428436474, 2756734187, 3204031479, 3329325298] : List Int)).toArray), Bc K (J7 (e := (Qc .u32)) (l := ([1116352408, 1899447441, 3049323471, 3921009573, 961987163, 1508970993, 2453635748, 2870763221, 3624381080, 310598401, 607225278, 1426881987, 1925078388, 2162078206, 2614888103, 3248222580, 3835390401, 4022224774, 264347078, 604807628, 770255983, 1249150122, 1555081692, 1996064986, 2554220882, 2821834349, 2952996808, 3210313671, 3336571891, 3584528711, 113926993, 338241895, 666307205, 773529912, 1294757372, 1396182291, 1695183700, 1986661051, 2177026350, 2456956037, 2730485921, 2820302411, 3259730800, 3345764771, 3516065817, 3600352804, 4094571909, 275423344, 430227734, 506948616, 659060556, 883997877, 958139571, 1322822218, 1537002063, 1747873779, 1955562222, 2024104815, 2227730452, 2361852424, 2428436474, 2756734187, 3204031479, 3329325298] : List Int)) (a := 0) (t := 135) K (SP.get b (i := 0) rfl) K K), ?_⟩
 obtain rfl := Qm H
 exact ⟨rfl, SP.sel b [] rfl rfl⟩
def J8 (p1 : Int) (p2 : (List Int)) (a : Int) : Option (Int) :=
  ((idx p2 0).bind fun b => ((Z5 p1 (IntKind.wrap .i64 (0 - b))).bind fun c => ((idx p2 1).bind fun d => ((Z5 p1 (IntKind.wrap .i64 (0 - d))).bind fun e => (some ((V0 .u32 (V0 .u32 c e) a)))))))
def Jj (p1 : Int) (p2 : (List Int)) (p4 : Bool) : Option (Int) :=
  ((idx p2 2).bind fun x9 => ((Z5 p1 (IntKind.wrap .i64 (0 - x9))).bind fun b => (cond p4 ((idx p2 2).bind fun a => ((chk (decide (0 ≤ a))).bind fun _ => (J8 p1 p2 (J4 .u32 p1 a)))) (J8 p1 p2 b))))
set_option maxRecDepth 100000 in
set_option maxHeartbeats 4000000 in
theorem Y5  (p1 : Int) (p2 : (List Int)) (p4 : Bool) (w0 : World) (b7 : List.length p2 = 3) (r : (Int)) (H : Jj p1 p2 p4 = some r) :
  Calls Tryz.prog 128 #[(.int .u32 p1), (.agg (Qb (Qc .i64) p2).toArray), (.bool p4)] w0 (fun e w' => e = .returned (.int .u32 r) ∧ SP [] w0 w' []) := by
 unfold Jj at H
 refine Qv (n := 31) Tryz.func128 K K K ?_
 have b8 := Q1 [] w0
 refine aQ ?_
 refine aR ?_
 refine iS 1 ?_
 refine De (e := (Qc .i64)) (l := p2) (m := 3) (t := 168) (x := (.tmp 1)) (d := (some 4)) (k := 0) K rfl K b7 K b8 ?_
 intro g5 w6 a1
 refine iR 1 2 [(6, (.int .u32 0))] ?_
 refine iF ?_
 refine aQ ?_
 refine aR ?_
 refine iR 1 1 [(8, (.int .u32 p1))] ?_
 obtain ⟨x9, a5, a6, b9, H⟩ := Qn H
 refine iS 2 ?_
 refine Qg (e := (Qc .i64)) (l := p2) (m := 3) (g := g5) (T := 168) (E := 3) (x := (.tmp 4)) (ix := (.const (.int .i64 (2)))) (ki := .i64) (iz := 2) (i := 0) (d := (some 9)) (k := 1) K rfl K K K K a1 rfl a5 a6 ?_
 refine iS 3 ?_
 refine sC 3 9 g5 (0 + Int.toNat 2 * (Qc .i64).sz) (.int .i64 x9) 10 (Qh (e := (Qc .i64)) (Qe (Qu (SP.get a1 (i := 0) rfl)) rfl a5 a6) b9 (j := 0) rfl) ?_
 refine iR 1 4 [(11, (.int .i64 (IntKind.wrap .i64 (0 - x9))))] ?_
 obtain ⟨a2, c0, H⟩ := Qf H
 refine iS 5 ?_
 refine cF 138 #[(.tmp 8), (.tmp 11)] #[111, 3] 12 Tryz.call138 (Xs  p1 (IntKind.wrap .i64 (0 - x9)) w6  a2 c0) ?_
 rintro e e7 ⟨rfl, a7⟩
 refine ⟨_, rfl, ?_⟩
 have u := SP.call a1 a7
 clear a7
 refine iR 1 6 [(7, (.int .u32 a2))] ?_
 refine iF ?_
 refine aQ ?_
 refine aQ ?_
 refine aR ?_
 refine iR 1 1 [(13, (.bool p4))] ?_
 refine iF ?_
 refine At.join (fun ρ w => ∃ (c : Int), V8 ρ [(0, (.int .u32 p1)), (4, (pt g5 0)), (7, (.int .u32 c))] ∧ SP [] w0 w [Vc 168 (Qc .i64) g5 3 p2] ∧ J8 p1 p2 c = some r) ?_ ?_
 ·refine Zi K (o := (.tmp 13)) K (b := p4) K (fun a3 => ?_) (fun a3 => ?_)
  ·have H := ct H a3
   refine aR ?_
   refine iR 1 1 [(14, (.int .u32 p1))] ?_
   obtain ⟨q, a8, a9, c1, H⟩ := Qn H
   refine iS 2 ?_
   refine Qg (e := (Qc .i64)) (l := p2) (m := 3) (g := g5) (T := 168) (E := 3) (x := (.tmp 4)) (ix := (.const (.int .i64 (2)))) (ki := .i64) (iz := 2) (i := 0) (d := (some 15)) (k := 1) K rfl K K K K u rfl a8 a9 ?_
   refine iS 3 ?_
   refine sC 3 15 g5 (0 + Int.toNat 2 * (Qc .i64).sz) (.int .i64 q) 16 (Qh (e := (Qc .i64)) (Qe (Qu (SP.get u (i := 0) rfl)) rfl a8 a9) c1 (j := 0) rfl) ?_
   obtain ⟨hl107, H⟩ := Vv H
   refine iS 4 ?_
   refine Qj.shift (op := .shr) (T := 111) (T' := 3) (x := (.tmp 14)) (y := (.tmp 16)) (kx := .u32) (ky := .i64) (a := p1) (b := q) (v := (.int .u32 (J4 .u32 p1 q))) (d := (some 17)) (k := 3) K rfl K K (of_decide_eq_true hl107) rfl ?_
   refine iR 1 5 [(7, (.int .u32 (J4 .u32 p1 q)))] ?_
   refine iF ?_
   exact ⟨(J4 .u32 p1 q), ⟨K, K, K, trivial⟩, SP.sel u [0] rfl rfl, H⟩
  ·have H := cf H a3
   refine At.skip K ?_
   exact ⟨a2, ⟨K, K, K, trivial⟩, SP.sel u [0] rfl rfl, H⟩
 ·rintro ρ e8 ⟨c, hk, b0, H⟩
  unfold J8 at H
  first | refine At.known [(0, (.int .u32 p1)), (4, (pt g5 0)), (7, (.int .u32 c))] hk ?_ | rw [← Va (l := [(0, (.int .u32 p1)), (4, (pt g5 0)), (7, (.int .u32 c))]) hk]
  have e9 := Q5 (SP.get b0 (i := 0) rfl)
  refine aQ ?_
  obtain ⟨s, b1, b2, c2, H⟩ := Qn H
  obtain ⟨f, c3, H⟩ := Qf H
  obtain ⟨p, z, a0, b3, H⟩ := Qn H
  obtain ⟨h, c4, H⟩ := Qf H
  refine aG [GEq (.int .u32 p1), Vs (some ⟨g5, 0, none⟩) (Qc .i64).sz 0, GEq (.int .i64 s), GEq (.int .i64 (IntKind.wrap .i64 (0 - s))), GEq (.int .u32 f), GEq (.int .u32 p1), Vs (some ⟨g5, 0, none⟩) (Qc .i64).sz 1, GEq (.int .i64 p), GEq (.int .i64 (IntKind.wrap .i64 (0 - p))), GEq (.int .u32 h), GEq (.int .u32 (V0 .u32 f h)), GEq (.int .u32 c), GEq (.int .u32 (V0 .u32 (V0 .u32 f h) c)), GEq (.int .u32 (V0 .u32 (V0 .u32 f h) c))] [4, 9] (tG [] w0 [Vc 168 (Qc .i64) g5 3 p2] [([], []), ([4], [(.int .u32 f)]), ([4, 9], [(.int .u32 f), (.int .u32 h)])]) 14 2 ⟨trivial, SP.drew b0⟩ ?_ ?_
  iterate 14 refine And.intro ?_ ?_
  exact trivial
  ·exact oV (hC (hS 0 (.int .u32 p1)) (h0)) (.int .u32 p1)
  ·refine oL 0 ?_
   ·rintro ρ' w' hs hah ⟨f0, c5⟩
    refine kM (kc (kS hs 4 (pt g5 0)) k0) fun hkn => ?_
    refine Qg (e := (Qc .i64)) (l := p2) (m := 3) (g := g5) (T := 168) (E := 3) (x := (.tmp 4)) (ix := (.const (.int .i64 (0)))) (ki := .i64) (iz := 0) (i := 0) (d := (some 19)) (k := 1) K rfl K K K K c5 rfl b1 b2 ?_
    exact ⟨rfl, _, Qa hkn, ⟨g5, 0, rfl, rfl⟩⟩
  ·refine oL 0 ?_
   ·rintro ρ' w' hs hah ⟨f1, c6⟩
    obtain ⟨c7, c8, c9, d0⟩ := hah 1 19 K
    refine kM (kc d0 k0) fun hkn => ?_
    refine sC 3 19 c7 (c8 + Int.toNat 0 * (Qc .i64).sz) (.int .i64 s) 20 (Qh (e := (Qc .i64)) (Qe (Qu (SP.get c6 (i := 0) rfl)) c9 b1 b2) c2 (j := 0) rfl) ?_
    exact eK hkn
  ·exact oV (hC (hA 2 20) (h0)) (.int .i64 (IntKind.wrap .i64 (0 - s)))
  ·refine oH 0 1 ?_
   ·rintro ρ' w' hs hah ⟨f2, d1⟩
    refine kM (kc (kA hah 0 18) (kc (kA hah 3 21) k0)) fun hkn => ?_
    refine cF 138 #[(.tmp 18), (.tmp 21)] #[111, 3] 22 Tryz.call138 (Xs  p1 (IntKind.wrap .i64 (0 - s)) w'  f c3) ?_
    rintro e f3 ⟨rfl, b4⟩
    refine ⟨_, rfl, ?_⟩
    have d2 := SP.call d1 b4
    clear b4
    refine ⟨_, Qa hkn, rfl, ?_⟩
    exact (And.intro (And.intro rfl (trivial)) (d2))
  ·exact oV (hC (hS 0 (.int .u32 p1)) (h0)) (.int .u32 p1)
  ·refine Owe.light K [0, 1] K (Qd ?_ (Qd ?_ Q4))
   ·rintro ρ' w' hs hah ⟨f4, d3⟩
    refine kM (kc (kS hs 4 (pt g5 0)) k0) fun hkn => ?_
    refine Qg (e := (Qc .i64)) (l := p2) (m := 3) (g := g5) (T := 168) (E := 3) (x := (.tmp 4)) (ix := (.const (.int .i64 (1)))) (ki := .i64) (iz := 1) (i := 0) (d := (some 24)) (k := 6) K rfl K K K K d3 rfl z a0 ?_
    exact ⟨rfl, _, Qa hkn, ⟨g5, 0, rfl, rfl⟩⟩
   ·rintro ρ' w' hs hah ⟨⟨f5, -⟩, d4⟩
    refine kM (kc (kS hs 4 (pt g5 0)) k0) fun hkn => ?_
    refine Qg (e := (Qc .i64)) (l := p2) (m := 3) (g := g5) (T := 168) (E := 3) (x := (.tmp 4)) (ix := (.const (.int .i64 (1)))) (ki := .i64) (iz := 1) (i := 0) (d := (some 24)) (k := 6) K rfl K K K K d4 rfl z a0 ?_
    exact ⟨rfl, _, Qa hkn, ⟨g5, 0, rfl, rfl⟩⟩
  ·refine Owe.light K [0, 1] K (Qd ?_ (Qd ?_ Q4))
   ·rintro ρ' w' hs hah ⟨f6, d5⟩
    obtain ⟨d6, d7, d8, a4⟩ := hah 6 24 K
    refine kM (kc a4 k0) fun hkn => ?_
    refine sC 3 24 d6 (d7 + Int.toNat 1 * (Qc .i64).sz) (.int .i64 p) 25 (Qh (e := (Qc .i64)) (Qe (Qu (SP.get d5 (i := 0) rfl)) d8 z a0) b3 (j := 0) rfl) ?_
    exact eK hkn
   ·rintro ρ' w' hs hah ⟨⟨f7, -⟩, d9⟩
    obtain ⟨e0, e1, e2, a4⟩ := hah 6 24 K
    refine kM (kc a4 k0) fun hkn => ?_
    refine sC 3 24 e0 (e1 + Int.toNat 1 * (Qc .i64).sz) (.int .i64 p) 25 (Qh (e := (Qc .i64)) (Qe (Qu (SP.get d9 (i := 0) rfl)) e2 z a0) b3 (j := 0) rfl) ?_
    exact eK hkn
  ·exact oV (hC (hA 7 25) (h0)) (.int .i64 (IntKind.wrap .i64 (0 - p)))
  ·refine oH 1 2 ?_
   ·rintro ρ' w' hs hah ⟨⟨e3, -⟩, e4⟩
    refine kM (kc (kA hah 5 23) (kc (kA hah 8 26) k0)) fun hkn => ?_
    refine cF 138 #[(.tmp 23), (.tmp 26)] #[111, 3] 27 Tryz.call138 (Xs  p1 (IntKind.wrap .i64 (0 - p)) w'  h c4) ?_
    rintro e f8 ⟨rfl, b5⟩
    refine ⟨_, rfl, ?_⟩
    have e5 := SP.call e4 b5
    clear b5
    refine ⟨_, Qa hkn, rfl, ?_⟩
    exact (And.intro (And.intro e3 (And.intro rfl (trivial))) (e5))
  ·exact oV (hC (hA 4 22) (hC (hA 9 27) (h0))) (.int .u32 (V0 .u32 f h))
  ·exact oV (hC (hS 7 (.int .u32 c)) (h0)) (.int .u32 c)
  ·exact oV (hC (hA 10 28) (hC (hA 11 29) (h0))) (.int .u32 (V0 .u32 (V0 .u32 f h) c))
  ·exact oV (hC (hA 12 30) (h0)) (.int .u32 (V0 .u32 (V0 .u32 f h) c))
  ·rintro ρ' w' hs hf ⟨⟨f9, g0, -⟩, b6⟩
   refine Vh [(6, (.int .u32 (V0 .u32 (V0 .u32 f h) c)))] ⟨hf 13 6 K, trivial⟩ ?_
   obtain ⟨g1, e6⟩ : ∃ x, w' = x := ⟨_, rfl⟩
   rw [e6] at b6 ⊢
   refine At.ret K ?_
   refine ⟨(.int .u32 (V0 .u32 (V0 .u32 f h) c)), K, ?_⟩
   obtain rfl := Qm H
   exact ⟨rfl, SP.sel b6 [] rfl rfl⟩
def No (k : (List Int) → Int → Option ((List Int))) (c : (List Int) → Int → Option ((List Int))) (b : (List Int)) (a : Int) : Option ((List Int)) :=
  (cond (decide (a < 64)) ((idx b (IntKind.wrap .i64 (a - 2))).bind fun d => ((Jj d ([17, 19, 10] : List Int) true).bind fun e => ((idx b (IntKind.wrap .i64 (a - 7))).bind fun f => ((idx b (IntKind.wrap .i64 (a - 15))).bind fun g => ((Jj g ([7, 18, 3] : List Int) true).bind fun h => ((idx b (IntKind.wrap .i64 (a - 16))).bind fun i => ((idx b a).bind fun l => ((some (List.set b (Int.toNat a) (IntKind.wrap .u32 ((IntKind.wrap .u32 ((IntKind.wrap .u32 (e + f)) + h)) + i)))).bind fun j => (c j (IntKind.wrap .i64 (a + 1))))))))))) (some (b)))
def J9 (a : (List Int) → Int → Option ((List Int))) : Nat → (List Int) → Int → Option ((List Int))
  | 0, _, _ => none
  | f + 1, b, c => No a (J9 a f) b c
def Np (c : (List Int) → Int → Option ((List Int))) (d : (List UInt8)) (b : (List Int)) (a : Int) : Option ((List Int)) :=
  (cond (decide (a < ((List.length d : Nat) : Int))) ((idx d a).bind fun e => ((idx b (IntKind.wrap .i64 (Int.tdiv a 4))).bind fun f => ((idx b (IntKind.wrap .i64 (Int.tdiv a 4))).bind fun h => ((some (List.set b (Int.toNat (IntKind.wrap .i64 (Int.tdiv a 4))) (bOr .u32 (Ni .u32 f 8) (IntKind.wrap .u32 ((e).toNat : Int))))).bind fun g => (c g (IntKind.wrap .i64 (a + 1))))))) (J9 c Z0 b 16))
def Xg (a : (List UInt8)) : Nat → (List Int) → Int → Option ((List Int))
  | 0, _, _ => none
  | f + 1, b, c => Np  (Xg a f) a b c
def Nx (p1 : (List UInt8)) : Option ((List Int)) :=
  ((sub p1 0 64).bind fun a => (Xg a Z0 (List.replicate 64 0) 0))
set_option maxRecDepth 100000 in
set_option maxHeartbeats 4000000 in
theorem Gi (A2 : Option Addr) (c3 : Nat) (p1 : (List UInt8)) (w0 : World) (b6 : RdT eU8 w0 A2 c3 p1) (r : ((List Int))) (H : Nx p1 = some r) :
  Calls Tryz.prog 116 #[(.slice A2 (List.length p1) c3)] w0 (fun e w' => e = .returned (.agg (Qb (Qc .u32) r).toArray) ∧ SP [] w0 w' []) := by
 unfold Nx at H
 refine Qv (n := 57) Tryz.func116 K K K ?_
 have e6 := Q1 [] w0
 refine aQ ?_
 refine aR ?_
 refine iS 1 ?_
 refine Qz (e := (Qc .u32)) (l := (List.replicate 64 0)) (m := 64) (t := 135) (z := .agg (Qb (Qc .u32) (List.replicate 64 0)).toArray) (d := (some 2)) (k := 0) K rfl K rfl rfl K e6 ?_
 intro g5 w6 e7
 refine iF ?_
 refine aQ ?_
 refine aR ?_
 refine iS 1 ?_
 refine Qz (e := (Qc .u32)) (l := (List.replicate 64 0)) (m := 64) (t := 135) (z := .agg (Qb (Qc .u32) (List.replicate 64 0)).toArray) (d := (some 3)) (k := 0) K rfl K rfl rfl K e7 ?_
 intro g9 m5 c8
 refine iF ?_
 refine aQ ?_
 refine aQ ?_
 refine aR ?_
 refine iR 1 1 [(7, (.slice A2 (List.length p1) c3))] ?_
 obtain ⟨b7, b8, b9, H⟩ := Re H
 obtain ⟨q, hyl16⟩ : ∃ y, (List.drop (Int.toNat 0) (List.take (Int.toNat 64) p1)) = y := ⟨_, rfl⟩
 rw [hyl16] at H
 refine iS 2 ?_
 refine Ri (e := eU8) (l := p1) (m := q) (A := A2) (c := c3) (T := 52) (E := 5) (x := (.tmp 7)) (lo := none) (hi := (some (.const (.int .i64 (64))))) (i := 0) (j := 64) (d := (some 8)) (k := 1) K rfl K K K rfl ⟨.i64, K⟩ (RdX.le (RdT.sp b6 c8)) b7 b8 b9 hyl16 ?_
 refine iR 2 4 [(9, (.int .i64 ((List.length q : Nat) : Int))), (10, (.int .i64 0))] ?_
 refine iF ?_
 refine Zj K (id := 0) K ?_
 refine Jk K (fun f4 ρ w => ∃ (a0 : (List Int)) (p : Int), V8 ρ [(2, (pt g5 0)), (3, (pt g9 0)), (8, (.slice (Bo eU8.sz c3 (Int.toNat 0) A2) (List.length q) (c3 - Int.toNat 0))), (9, (.int .i64 ((List.length q : Nat) : Int))), (10, (.int .i64 p))] ∧ SP [] w0 w [Vc 135 (Qc .u32) g5 64 (List.replicate 64 0), Vc 135 (Qc .u32) g9 64 a0] ∧ Xg q f4 a0 p = some r) (by rintro ρ w ⟨a0, p, hk, hs, H⟩; cases H) ?_ Z0 ?_
 ·rintro f4 ρ c9 ⟨a0, p, hk, a2, H⟩
  refine At.known [(2, (pt g5 0)), (3, (pt g9 0)), (8, (.slice (Bo eU8.sz c3 (Int.toNat 0) A2) (List.length q) (c3 - Int.toNat 0))), (9, (.int .i64 ((List.length q : Nat) : Int))), (10, (.int .i64 p))] hk ?_
  replace H := (show Np (Xg q f4) q a0 p = some r from H)
  unfold Np at H
  have m6 := Q5 (SP.get a2 (i := 0) rfl)
  have m7 := Q5 (SP.get a2 (i := 1) rfl)
  refine aQ ?_
  refine aR ?_
  refine iR 1 1 [(11, (.bool (decide (p < ((List.length q : Nat) : Int)))))] ?_
  refine iF ?_
  refine aQ ?_
  refine Zi K (o := (.tmp 11)) K (b := (decide (p < ((List.length q : Nat) : Int)))) K (fun c0 => ?_) (fun c0 => ?_)
  ·have H := ct H c0
   refine At.skip K ?_
   refine aQ ?_
   refine Zj K (id := 1) K ?_
   refine aQ ?_
   refine aR ?_
   refine iR 1 1 [(12, (.int .i64 p))] ?_
   obtain ⟨a4, d0, d1, e8, H⟩ := Qn H
   refine iS 2 ?_
   refine Vj (e := eU8) (l := q) (A := (Bo eU8.sz c3 (Int.toNat 0) A2)) (c := (c3 - Int.toNat 0)) (T := 52) (E := 5) (x := (.tmp 8)) (ix := (.tmp 10)) (ki := .i64) (iz := p) (d := (some 13)) (k := 1) K rfl K K K K ((Ck b7 b8 b9 hyl16) c9 (RdT.sp b6 a2)) d0 d1 ?_
   intro e9 f0 f1 m8 hc2226
   refine iS 3 ?_
   refine sC 5 13 e9 (f0 + Int.toNat p * eU8.sz) (.int .u8 ((a4).toNat : Int)) 14 (Qh (e := eU8) (Qe ((Ck b7 b8 b9 hyl16) c9 (RdT.sp b6 a2)) f1 d0 d1) e8 (j := 0) rfl) ?_
   refine iR 2 5 [(4, (.int .i64 p)), (5, (.int .u8 ((a4).toNat : Int)))] ?_
   refine iF ?_
   refine aR ?_
   refine iR 4 4 [(15, (.int .i64 p)), (16, (.int .i64 (IntKind.wrap .i64 (Int.tdiv p 4)))), (17, (.int .i64 p)), (18, (.int .i64 (IntKind.wrap .i64 (Int.tdiv p 4))))] ?_
   obtain ⟨a9, d2, d3, f2, H⟩ := Qn H
   refine iS 5 ?_
   refine Qg (e := (Qc .u32)) (l := a0) (m := 64) (g := g9) (T := 135) (E := 111) (x := (.tmp 3)) (ix := (.tmp 18)) (ki := .i64) (iz := (IntKind.wrap .i64 (Int.tdiv p 4))) (i := 1) (d := (some 19)) (k := 4) K rfl K K K K a2 rfl d2 d3 ?_
   refine iS 6 ?_
   refine sC 111 19 g9 (0 + Int.toNat (IntKind.wrap .i64 (Int.tdiv p 4)) * (Qc .u32).sz) (.int .u32 a9) 20 (Qh (e := (Qc .u32)) (Qe (Qu (SP.get a2 (i := 1) rfl)) rfl d2 d3) f2 (j := 0) rfl) ?_
   refine iR 4 10 [(21, (.int .u32 (Ni .u32 a9 8))), (22, (.int .u8 ((a4).toNat : Int))), (23, (.int .u32 (IntKind.wrap .u32 ((a4).toNat : Int)))), (24, (.int .u32 (bOr .u32 (Ni .u32 a9 8) (IntKind.wrap .u32 ((a4).toNat : Int)))))] ?_
   obtain ⟨m9, d4, d5, n0, H⟩ := Qn H
   refine iS 11 ?_
   refine Qg (e := (Qc .u32)) (l := a0) (m := 64) (g := g9) (T := 135) (E := 111) (x := (.tmp 3)) (ix := (.tmp 16)) (ki := .i64) (iz := (IntKind.wrap .i64 (Int.tdiv p 4))) (i := 1) (d := (some 25)) (k := 10) K rfl K K K K a2 rfl d4 d5 ?_
   obtain ⟨d6, hyl2237, H⟩ := Vz H
   have hnl2237 : List.length d6 = List.length a0 := by rw [← hyl2237, List.length_set]
   refine iS 12 ?_
   refine V9 (e := (Qc .u32)) (t := 111) (x := (.tmp 25)) (y := (.tmp 24)) (l := a0) (iz := (IntKind.wrap .i64 (Int.tdiv p 4))) (m := 64) (g := g9) (b := g9) (off := 0) (i := 1) (v := (.int .u32 (bOr .u32 (Ni .u32 a9 8) (IntKind.wrap .u32 ((a4).toNat : Int))))) (x' := (bOr .u32 (Ni .u32 a9 8) (IntKind.wrap .u32 ((a4).toNat : Int)))) (d := none) (k := 11) K rfl rfl K K a2 rfl rfl d5 d4 rfl K ?_
   rw [hyl2237]
   intro n1 f3
   refine In.known [] trivial ?_
   refine iF ?_
   refine aR ?_
   refine iR 2 2 [(26, (.int .i64 (IntKind.wrap .i64 (p + 1)))), (10, (.int .i64 (IntKind.wrap .i64 (p + 1))))] ?_
   refine iF ?_
   exact ⟨d6, (IntKind.wrap .i64 (p + 1)), ⟨K, K, K, K, K, trivial⟩, SP.sel f3 [0, 1] rfl rfl, H⟩
  ·have H := cf H c0
   refine At.exit K (id := 0) K ?_
   refine aQ ?_
   refine aQ ?_
   refine aR ?_
   refine iR 1 1 [(6, (.int .i64 16))] ?_
   refine iF ?_
   refine Zj K (id := 2) K ?_
   refine Jk K (fun f5 ρ w => ∃ (h : (List Int)) (f : Int), V8 ρ [(2, (pt g5 0)), (3, (pt g9 0)), (6, (.int .i64 f))] ∧ SP [] w0 w [Vc 135 (Qc .u32) g5 64 (List.replicate 64 0), Vc 135 (Qc .u32) g9 64 h] ∧ J9 (Xg q f4) f5 h f = some r) (by rintro ρ w ⟨h, f, hk, hs, H⟩; cases H) ?_ Z0 ?_
   ·rintro f5 ρ n2 ⟨h, f, hk, b0, H⟩
    refine At.known [(2, (pt g5 0)), (3, (pt g9 0)), (6, (.int .i64 f))] hk ?_
    replace H := (show No (Xg q f4) (J9 (Xg q f4) f5) h f = some r from H)
    unfold No at H
    have n3 := Q5 (SP.get b0 (i := 0) rfl)
    have f6 := Q5 (SP.get b0 (i := 1) rfl)
    refine aQ ?_
    refine aQ ?_
    refine aR ?_
    refine iR 2 2 [(27, (.int .i64 f)), (28, (.bool (decide (f < 64))))] ?_
    refine iF ?_
    refine Zi K (o := (.tmp 28)) K (b := (decide (f < 64))) K (fun c1 => ?_) (fun c1 => ?_)
    ·have H := ct H c1
     refine At.skip K ?_
     refine aQ ?_
     refine Zj K (id := 3) K ?_
     obtain ⟨c2, d7, d8, f7, H⟩ := Qn H
     obtain ⟨s, f8, H⟩ := Qf H
     obtain ⟨u, a5, a6, c4, H⟩ := Qn H
     obtain ⟨b3, b4, b5, d9, H⟩ := Qn H
     obtain ⟨a1, f9, H⟩ := Qf H
     obtain ⟨a3, a7, a8, c5, H⟩ := Qn H
     obtain ⟨n4, e0, e1, n5, H⟩ := Qn H
     obtain ⟨c6, hyl2808, H⟩ := Vz H
     have hnl2808 : List.length c6 = List.length h := by rw [← hyl2808, List.length_set]
     refine aG [GEq (.int .i64 f), GEq (.int .i64 f), GEq (.int .i64 (IntKind.wrap .i64 (f - 2))), Vs (some ⟨g9, 0, none⟩) (Qc .u32).sz (IntKind.wrap .i64 (f - 2)), GEq (.int .u32 c2), GEq (.agg (Qb (Qc .i64) ([17, 19, 10] : List Int)).toArray), GEq (.int .u32 s), GEq (.int .i64 f), GEq (.int .i64 (IntKind.wrap .i64 (f - 7))), Vs (some ⟨g9, 0, none⟩) (Qc .u32).sz (IntKind.wrap .i64 (f - 7)), GEq (.int .u32 u), GEq (.int .u32 (IntKind.wrap .u32 (s + u))), GEq (.int .i64 f), GEq (.int .i64 (IntKind.wrap .i64 (f - 15))), Vs (some ⟨g9, 0, none⟩) (Qc .u32).sz (IntKind.wrap .i64 (f - 15)), GEq (.int .u32 b3), GEq (.agg (Qb (Qc .i64) ([7, 18, 3] : List Int)).toArray), GEq (.int .u32 a1), GEq (.int .u32 (IntKind.wrap .u32 ((IntKind.wrap .u32 (s + u)) + a1))), GEq (.int .i64 f), GEq (.int .i64 (IntKind.wrap .i64 (f - 16))), Vs (some ⟨g9, 0, none⟩) (Qc .u32).sz (IntKind.wrap .i64 (f - 16)), GEq (.int .u32 a3), GEq (.int .u32 (IntKind.wrap .u32 ((IntKind.wrap .u32 ((IntKind.wrap .u32 (s + u)) + a1)) + a3))), Vs (some ⟨g9, 0, none⟩) (Qc .u32).sz f, Bq] [6, 17, 25] [sG [] [] [] w0 [Vc 135 (Qc .u32) g5 64 (List.replicate 64 0), Vc 135 (Qc .u32) g9 64 h], sG [6] [(.int .u32 s)] [] w0 [Vc 135 (Qc .u32) g5 64 (List.replicate 64 0), Vc 135 (Qc .u32) g9 64 h], sG [6, 17] [(.int .u32 s), (.int .u32 a1)] [] w0 [Vc 135 (Qc .u32) g5 64 (List.replicate 64 0), Vc 135 (Qc .u32) g9 64 h], sG [6, 17, 25] [(.int .u32 s), (.int .u32 a1), undef] [] w0 [Vc 135 (Qc .u32) g5 64 (List.replicate 64 0), Vc 135 (Qc .u32) g9 64 c6]] 26 3 ⟨trivial, SP.drew b0⟩ ?_ ?_
     iterate 26 refine And.intro ?_ ?_
     exact trivial
     ·exact oV (hC (hS 6 (.int .i64 f)) (h0)) (.int .i64 f)
     ·exact oV (hC (hS 6 (.int .i64 f)) (h0)) (.int .i64 f)
     ·exact oV (hC (hA 1 32) (h0)) (.int .i64 (IntKind.wrap .i64 (f - 2)))
     ·refine oL 0 ?_
      ·rintro ρ' w' hs hah ⟨n6, g0⟩
       refine kM (kc (kS hs 3 (pt g9 0)) (kc (kA hah 2 33) k0)) fun hkn => ?_
       refine Qg (e := (Qc .u32)) (l := h) (m := 64) (g := g9) (T := 135) (E := 111) (x := (.tmp 3)) (ix := (.tmp 33)) (ki := .i64) (iz := (IntKind.wrap .i64 (f - 2))) (i := 1) (d := (some 34)) (k := 3) K rfl K K K K g0 rfl d7 d8 ?_
       exact ⟨rfl, _, Qa hkn, ⟨g9, 0, rfl, rfl⟩⟩
     ·refine oL 0 ?_
      ·rintro ρ' w' hs hah ⟨n7, g1⟩
       obtain ⟨g2, g3, g4, g6⟩ := hah 3 34 K
       refine kM (kc g6 k0) fun hkn => ?_
       refine sC 111 34 g2 (g3 + Int.toNat (IntKind.wrap .i64 (f - 2)) * (Qc .u32).sz) (.int .u32 c2) 35 (Qh (e := (Qc .u32)) (Qe (Qu (SP.get g1 (i := 1) rfl)) g4 d7 d8) f7 (j := 0) rfl) ?_
       exact eK hkn
     ·exact Owe.run K [] trivial (.agg (Qb (Qc .i64) ([17, 19, 10] : List Int)).toArray) (fun _ _ => K) rfl
     ·refine oH 0 1 ?_
      ·rintro ρ' w' hs hah ⟨n8, g7⟩
       refine kM (kc (kA hah 4 35) (kc (kA hah 5 36) k0)) fun hkn => ?_
       refine cF 128 #[(.tmp 35), (.tmp 36), (.const (.bool true))] #[111, 168, 4] 37 Tryz.call128 (Y5  c2 ([17, 19, 10] : List Int) true w' rfl s f8) ?_
       rintro e n9 ⟨rfl, e2⟩
       refine ⟨_, rfl, ?_⟩
       have g8 := SP.call g7 e2
       clear e2
       refine ⟨_, Qa hkn, rfl, ?_⟩
       exact (And.intro (And.intro rfl (trivial)) (g8))
     ·exact oV (hC (hS 6 (.int .i64 f)) (h0)) (.int .i64 f)
     ·exact oV (hC (hA 7 38) (h0)) (.int .i64 (IntKind.wrap .i64 (f - 7)))
     ·refine Owe.light K [0, 1, 2] K (Qd ?_ (Qd ?_ (Qd ?_ Q4)))
      ·rintro ρ' w' hs hah ⟨o0, h1⟩
       refine kM (kc (kS hs 3 (pt g9 0)) (kc (kA hah 8 39) k0)) fun hkn => ?_
       refine Qg (e := (Qc .u32)) (l := h) (m := 64) (g := g9) (T := 135) (E := 111) (x := (.tmp 3)) (ix := (.tmp 39)) (ki := .i64) (iz := (IntKind.wrap .i64 (f - 7))) (i := 1) (d := (some 40)) (k := 9) K rfl K K K K h1 rfl a5 a6 ?_
       exact ⟨rfl, _, Qa hkn, ⟨g9, 0, rfl, rfl⟩⟩
      ·rintro ρ' w' hs hah ⟨⟨o1, -⟩, h2⟩
       refine kM (kc (kS hs 3 (pt g9 0)) (kc (kA hah 8 39) k0)) fun hkn => ?_
       refine Qg (e := (Qc .u32)) (l := h) (m := 64) (g := g9) (T := 135) (E := 111) (x := (.tmp 3)) (ix := (.tmp 39)) (ki := .i64) (iz := (IntKind.wrap .i64 (f - 7))) (i := 1) (d := (some 40)) (k := 9) K rfl K K K K h2 rfl a5 a6 ?_
       exact ⟨rfl, _, Qa hkn, ⟨g9, 0, rfl, rfl⟩⟩
      ·rintro ρ' w' hs hah ⟨⟨o2, o3, -⟩, h3⟩
       refine kM (kc (kS hs 3 (pt g9 0)) (kc (kA hah 8 39) k0)) fun hkn => ?_
       refine Qg (e := (Qc .u32)) (l := h) (m := 64) (g := g9) (T := 135) (E := 111) (x := (.tmp 3)) (ix := (.tmp 39)) (ki := .i64) (iz := (IntKind.wrap .i64 (f - 7))) (i := 1) (d := (some 40)) (k := 9) K rfl K K K K h3 rfl a5 a6 ?_
       exact ⟨rfl, _, Qa hkn, ⟨g9, 0, rfl, rfl⟩⟩
     ·refine Owe.light K [0, 1, 2] K (Qd ?_ (Qd ?_ (Qd ?_ Q4)))
      ·rintro ρ' w' hs hah ⟨o4, h4⟩
       obtain ⟨h5, h6, h7, b1⟩ := hah 9 40 K
       refine kM (kc b1 k0) fun hkn => ?_
       refine sC 111 40 h5 (h6 + Int.toNat (IntKind.wrap .i64 (f - 7)) * (Qc .u32).sz) (.int .u32 u) 41 (Qh (e := (Qc .u32)) (Qe (Qu (SP.get h4 (i := 1) rfl)) h7 a5 a6) c4 (j := 0) rfl) ?_
       exact eK hkn
      ·rintro ρ' w' hs hah ⟨⟨o5, -⟩, h8⟩
       obtain ⟨h9, i0, i1, b1⟩ := hah 9 40 K
       refine kM (kc b1 k0) fun hkn => ?_
       refine sC 111 40 h9 (i0 + Int.toNat (IntKind.wrap .i64 (f - 7)) * (Qc .u32).sz) (.int .u32 u) 41 (Qh (e := (Qc .u32)) (Qe (Qu (SP.get h8 (i := 1) rfl)) i1 a5 a6) c4 (j := 0) rfl) ?_
       exact eK hkn
      ·rintro ρ' w' hs hah ⟨⟨o6, o7, -⟩, i2⟩
       obtain ⟨i3, i4, i5, b1⟩ := hah 9 40 K
       refine kM (kc b1 k0) fun hkn => ?_
       refine sC 111 40 i3 (i4 + Int.toNat (IntKind.wrap .i64 (f - 7)) * (Qc .u32).sz) (.int .u32 u) 41 (Qh (e := (Qc .u32)) (Qe (Qu (SP.get i2 (i := 1) rfl)) i5 a5 a6) c4 (j := 0) rfl) ?_
       exact eK hkn
     ·exact oV (hC (hA 6 37) (hC (hA 10 41) (h0))) (.int .u32 (IntKind.wrap .u32 (s + u)))
     ·exact oV (hC (hS 6 (.int .i64 f)) (h0)) (.int .i64 f)
     ·exact oV (hC (hA 12 43) (h0)) (.int .i64 (IntKind.wrap .i64 (f - 15)))
     ·refine Owe.light K [0, 1] K (Qd ?_ (Qd ?_ Q4))
      ·rintro ρ' w' hs hah ⟨o8, i6⟩
       refine kM (kc (kS hs 3 (pt g9 0)) (kc (kA hah 13 44) k0)) fun hkn => ?_
       refine Qg (e := (Qc .u32)) (l := h) (m := 64) (g := g9) (T := 135) (E := 111) (x := (.tmp 3)) (ix := (.tmp 44)) (ki := .i64) (iz := (IntKind.wrap .i64 (f - 15))) (i := 1) (d := (some 45)) (k := 14) K rfl K K K K i6 rfl b4 b5 ?_
       exact ⟨rfl, _, Qa hkn, ⟨g9, 0, rfl, rfl⟩⟩
      ·rintro ρ' w' hs hah ⟨⟨o9, -⟩, i7⟩
       refine kM (kc (kS hs 3 (pt g9 0)) (kc (kA hah 13 44) k0)) fun hkn => ?_
       refine Qg (e := (Qc .u32)) (l := h) (m := 64) (g := g9) (T := 135) (E := 111) (x := (.tmp 3)) (ix := (.tmp 44)) (ki := .i64) (iz := (IntKind.wrap .i64 (f - 15))) (i := 1) (d := (some 45)) (k := 14) K rfl K K K K i7 rfl b4 b5 ?_
       exact ⟨rfl, _, Qa hkn, ⟨g9, 0, rfl, rfl⟩⟩
     ·refine Owe.light K [0, 1] K (Qd ?_ (Qd ?_ Q4))
      ·rintro ρ' w' hs hah ⟨p0, i8⟩
       obtain ⟨i9, j0, j1, c7⟩ := hah 14 45 K
       refine kM (kc c7 k0) fun hkn => ?_
       refine sC 111 45 i9 (j0 + Int.toNat (IntKind.wrap .i64 (f - 15)) * (Qc .u32).sz) (.int .u32 b3) 46 (Qh (e := (Qc .u32)) (Qe (Qu (SP.get i8 (i := 1) rfl)) j1 b4 b5) d9 (j := 0) rfl) ?_
       exact eK hkn
      ·rintro ρ' w' hs hah ⟨⟨p2, -⟩, j2⟩
       obtain ⟨j3, j4, j5, c7⟩ := hah 14 45 K
       refine kM (kc c7 k0) fun hkn => ?_
       refine sC 111 45 j3 (j4 + Int.toNat (IntKind.wrap .i64 (f - 15)) * (Qc .u32).sz) (.int .u32 b3) 46 (Qh (e := (Qc .u32)) (Qe (Qu (SP.get j2 (i := 1) rfl)) j5 b4 b5) d9 (j := 0) rfl) ?_
       exact eK hkn
     ·exact Owe.run K [] trivial (.agg (Qb (Qc .i64) ([7, 18, 3] : List Int)).toArray) (fun _ _ => K) rfl
     ·refine oH 1 2 ?_
      ·rintro ρ' w' hs hah ⟨⟨j6, -⟩, j7⟩
       refine kM (kc (kA hah 15 46) (kc (kA hah 16 47) k0)) fun hkn => ?_
       refine cF 128 #[(.tmp 46), (.tmp 47), (.const (.bool true))] #[111, 168, 4] 48 Tryz.call128 (Y5  b3 ([7, 18, 3] : List Int) true w' rfl a1 f9) ?_
       rintro e p3 ⟨rfl, e3⟩
       refine ⟨_, rfl, ?_⟩
       have j8 := SP.call j7 e3
       clear e3
       refine ⟨_, Qa hkn, rfl, ?_⟩
       exact (And.intro (And.intro j6 (And.intro rfl (trivial))) (j8))
     ·exact oV (hC (hA 11 42) (hC (hA 17 48) (h0))) (.int .u32 (IntKind.wrap .u32 ((IntKind.wrap .u32 (s + u)) + a1)))
     ·exact oV (hC (hS 6 (.int .i64 f)) (h0)) (.int .i64 f)
     ·exact oV (hC (hA 19 50) (h0)) (.int .i64 (IntKind.wrap .i64 (f - 16)))
     ·refine Owe.light K [0, 1, 2] K (Qd ?_ (Qd ?_ (Qd ?_ Q4)))
      ·rintro ρ' w' hs hah ⟨p4, j9⟩
       refine kM (kc (kS hs 3 (pt g9 0)) (kc (kA hah 20 51) k0)) fun hkn => ?_
       refine Qg (e := (Qc .u32)) (l := h) (m := 64) (g := g9) (T := 135) (E := 111) (x := (.tmp 3)) (ix := (.tmp 51)) (ki := .i64) (iz := (IntKind.wrap .i64 (f - 16))) (i := 1) (d := (some 52)) (k := 21) K rfl K K K K j9 rfl a7 a8 ?_
       exact ⟨rfl, _, Qa hkn, ⟨g9, 0, rfl, rfl⟩⟩
      ·rintro ρ' w' hs hah ⟨⟨p5, -⟩, k1⟩
       refine kM (kc (kS hs 3 (pt g9 0)) (kc (kA hah 20 51) k0)) fun hkn => ?_
       refine Qg (e := (Qc .u32)) (l := h) (m := 64) (g := g9) (T := 135) (E := 111) (x := (.tmp 3)) (ix := (.tmp 51)) (ki := .i64) (iz := (IntKind.wrap .i64 (f - 16))) (i := 1) (d := (some 52)) (k := 21) K rfl K K K K k1 rfl a7 a8 ?_
       exact ⟨rfl, _, Qa hkn, ⟨g9, 0, rfl, rfl⟩⟩
      ·rintro ρ' w' hs hah ⟨⟨p6, p7, -⟩, k2⟩
       refine kM (kc (kS hs 3 (pt g9 0)) (kc (kA hah 20 51) k0)) fun hkn => ?_
       refine Qg (e := (Qc .u32)) (l := h) (m := 64) (g := g9) (T := 135) (E := 111) (x := (.tmp 3)) (ix := (.tmp 51)) (ki := .i64) (iz := (IntKind.wrap .i64 (f - 16))) (i := 1) (d := (some 52)) (k := 21) K rfl K K K K k2 rfl a7 a8 ?_
       exact ⟨rfl, _, Qa hkn, ⟨g9, 0, rfl, rfl⟩⟩
     ·refine Owe.light K [0, 1, 2] K (Qd ?_ (Qd ?_ (Qd ?_ Q4)))
      ·rintro ρ' w' hs hah ⟨p8, k3⟩
       obtain ⟨k4, k5, k6, b2⟩ := hah 21 52 K
       refine kM (kc b2 k0) fun hkn => ?_
       refine sC 111 52 k4 (k5 + Int.toNat (IntKind.wrap .i64 (f - 16)) * (Qc .u32).sz) (.int .u32 a3) 53 (Qh (e := (Qc .u32)) (Qe (Qu (SP.get k3 (i := 1) rfl)) k6 a7 a8) c5 (j := 0) rfl) ?_
       exact eK hkn
      ·rintro ρ' w' hs hah ⟨⟨p9, -⟩, k7⟩
       obtain ⟨k8, k9, l0, b2⟩ := hah 21 52 K
       refine kM (kc b2 k0) fun hkn => ?_
       refine sC 111 52 k8 (k9 + Int.toNat (IntKind.wrap .i64 (f - 16)) * (Qc .u32).sz) (.int .u32 a3) 53 (Qh (e := (Qc .u32)) (Qe (Qu (SP.get k7 (i := 1) rfl)) l0 a7 a8) c5 (j := 0) rfl) ?_
       exact eK hkn
      ·rintro ρ' w' hs hah ⟨⟨q0, q1, -⟩, l1⟩
       obtain ⟨l2, l3, l4, b2⟩ := hah 21 52 K
       refine kM (kc b2 k0) fun hkn => ?_
       refine sC 111 52 l2 (l3 + Int.toNat (IntKind.wrap .i64 (f - 16)) * (Qc .u32).sz) (.int .u32 a3) 53 (Qh (e := (Qc .u32)) (Qe (Qu (SP.get l1 (i := 1) rfl)) l4 a7 a8) c5 (j := 0) rfl) ?_
       exact eK hkn
     ·exact oV (hC (hA 18 49) (hC (hA 22 53) (h0))) (.int .u32 (IntKind.wrap .u32 ((IntKind.wrap .u32 ((IntKind.wrap .u32 (s + u)) + a1)) + a3)))
     ·refine oL 2 ?_
      ·rintro ρ' w' hs hah ⟨⟨q2, q3, -⟩, l5⟩
       refine kM (kc (kS hs 3 (pt g9 0)) (kc (kA hah 0 31) k0)) fun hkn => ?_
       refine Qg (e := (Qc .u32)) (l := h) (m := 64) (g := g9) (T := 135) (E := 111) (x := (.tmp 3)) (ix := (.tmp 31)) (ki := .i64) (iz := f) (i := 1) (d := (some 55)) (k := 24) K rfl K K K K l5 rfl e0 e1 ?_
       exact ⟨rfl, _, Qa hkn, ⟨g9, 0, rfl, rfl⟩⟩
     ·refine oH 2 3 ?_
      ·rintro ρ' w' hs hah ⟨⟨l6, l7, -⟩, l8⟩
       obtain ⟨l9, m0, m1, m2⟩ := hah 24 55 K
       refine kM (kc m2 (kc (kA hah 23 54) k0)) fun hkn => ?_
       refine V9 (e := (Qc .u32)) (t := 111) (x := (.tmp 55)) (y := (.tmp 54)) (l := h) (iz := f) (m := 64) (g := g9) (b := l9) (off := m0) (i := 1) (v := (.int .u32 (IntKind.wrap .u32 ((IntKind.wrap .u32 ((IntKind.wrap .u32 (s + u)) + a1)) + a3)))) (x' := (IntKind.wrap .u32 ((IntKind.wrap .u32 ((IntKind.wrap .u32 (s + u)) + a1)) + a3))) (d := none) (k := 25) K rfl m1 K K l8 rfl rfl e1 e0 rfl K ?_
       rw [hyl2808]
       intro q4 m3
       refine ⟨_, Qa hkn, trivial, ?_⟩
       exact (And.intro (And.intro l6 (And.intro l7 (And.intro rfl (trivial)))) (m3))
     ·rintro ρ' w' hs hf ⟨⟨q5, q6, q7, -⟩, e4⟩
      refine Vh [(2, (pt g5 0)), (3, (pt g9 0)), (6, (.int .i64 f))] ⟨(hs 2 K).trans K, (hs 3 K).trans K, (hs 6 K).trans K, trivial⟩ ?_
      obtain ⟨q8, m4⟩ : ∃ x, w' = x := ⟨_, rfl⟩
      rw [m4] at e4 ⊢
      refine aR ?_
      refine iR 3 3 [(29, (.int .i64 f)), (30, (.int .i64 (IntKind.wrap .i64 (f + 1)))), (6, (.int .i64 (IntKind.wrap .i64 (f + 1))))] ?_
      refine iF ?_
      exact ⟨c6, (IntKind.wrap .i64 (f + 1)), ⟨K, K, K, trivial⟩, SP.sel e4 [0, 1] rfl rfl, H⟩
    ·have H := cf H c1
     refine At.exit K (id := 2) K ?_
     refine aQ ?_
     refine aR ?_
     refine iS 1 ?_
     refine V3 (e := (Qc .u32)) (l := h) (m := 64) (t := 135) (x := (.tmp 3)) (g := g9) (i := 1) (d := (some 56)) (k := 0) K rfl K b0 rfl K K ?_
     refine iS 2 ?_
     refine Q8 (e := (Qc .u32)) (l := (List.replicate 64 0)) (l' := h) (m := 64) (t := 135) (x := (.tmp 2)) (y := (.tmp 56)) (g := g5) (i := 0) (d := none) (k := 1) K rfl K K f6 b0 rfl K ?_
     intro q9 e5
     refine iF ?_
     refine At.ret K ?_
     refine ⟨(.agg (Qb (Qc .u32) h).toArray), Bc K (J7 (e := (Qc .u32)) (l := h) (a := 2) (t := 135) K (SP.get e5 (i := 0) rfl) K K), ?_⟩
     obtain rfl := Qm H
     exact ⟨rfl, SP.sel e5 [] rfl rfl⟩
   ·exact ⟨a0, 16, ⟨K, K, K, trivial⟩, SP.sel a2 [0, 1] rfl rfl, H⟩
 ·exact ⟨(List.replicate 64 0), 0, ⟨K, K, K, K, K, trivial⟩, SP.sel c8 [0, 1] rfl rfl, H⟩
def Yw (g : (List Int) → Int → Option ((List Int))) (c : (List Int) → Int → Option ((List Int))) (p1 : (List Int)) (b : (List Int)) (a : Int) : Option ((List Int)) :=
  (cond (decide (a < 8)) ((idx b a).bind fun d => ((idx p1 a).bind fun e => ((idx b a).bind fun h => ((some (List.set b (Int.toNat a) (IntKind.wrap .u32 (d + e)))).bind fun f => (c f (IntKind.wrap .i64 (a + 1))))))) (some (b)))
def Xp (a : (List Int) → Int → Option ((List Int))) (p1 : (List Int)) : Nat → (List Int) → Int → Option ((List Int))
  | 0, _, _ => none
  | f + 1, b, c => Yw a (Xp a p1 f) p1 b c
def Yx (e : (List Int) → Int → Option ((List Int))) (p1 : (List Int)) (p3 : (List Int)) (q : ((List Int))) (a : (List Int)) (b : Int) : Option ((List Int)) :=
  (cond (decide (b < 64)) ((idx a 0).bind fun f => ((idx a 1).bind fun g => ((idx a 2).bind fun h => ((idx a 4).bind fun c => ((idx a 7).bind fun i => ((Jj c ([6, 11, 25] : List Int) false).bind fun j => ((idx a 6).bind fun k => ((idx a 5).bind fun l => ((idx a 6).bind fun m => ((idx q b).bind fun n => ((idx p3 b).bind fun o => ((Jj f ([2, 13, 22] : List Int) false).bind fun r => ((sub a 1 ((List.length a : Nat) : Int)).bind fun s => ((sub a 0 7).bind fun t => ((some (cpy a (Int.toNat 1) (List.length s) t)).bind fun d => ((idx d 4).bind fun u => ((idx d 0).bind fun w => ((some (List.set d (Int.toNat 0) (IntKind.wrap .u32 ((IntKind.wrap .u32 ((IntKind.wrap .u32 ((IntKind.wrap .u32 ((IntKind.wrap .u32 (i + j)) + (V0 .u32 k (V7 .u32 c (V0 .u32 l m))))) + n)) + o)) + (IntKind.wrap .u32 (r + (bOr .u32 (V7 .u32 f (bOr .u32 g h)) (V7 .u32 g h)))))))).bind fun p => ((idx p 4).bind fun x => ((some (List.set p (Int.toNat 4) (IntKind.wrap .u32 (u + (IntKind.wrap .u32 ((IntKind.wrap .u32 ((IntKind.wrap .u32 ((IntKind.wrap .u32 (i + j)) + (V0 .u32 k (V7 .u32 c (V0 .u32 l m))))) + n)) + o)))))).bind fun v => (e v (IntKind.wrap .i64 (b + 1))))))))))))))))))))))) (Xp e p1 Z0 a 0))
def Za (p1 : (List Int)) (p3 : (List Int)) (a : ((List Int))) : Nat → (List Int) → Int → Option ((List Int))
  | 0, _, _ => none
  | f + 1, b, c => Yx  (Za p1 p3 a f) p1 p3 a b c
def Yk (p1 : (List Int)) (p3 : (List Int)) : Option ((List Int)) :=
  ((Gw ).bind fun a => ((chk (Nat.beq (List.length a) 64)).bind fun _ => (Za p1 p3 a Z0 p1 0)))
set_option maxRecDepth 100000 in
set_option maxHeartbeats 4000000 in
theorem Ub  (p1 : (List Int)) (p3 : (List Int)) (w0 : World) (g6 : List.length p1 = 8) (l6 : List.length p3 = 64) (r : ((List Int))) (H : Yk p1 p3 = some r) :
  Calls Tryz.prog 115 #[(.agg (Qb (Qc .u32) p1).toArray), (.agg (Qb (Qc .u32) p3).toArray)] w0 (fun e w' => e = .returned (.agg (Qb (Qc .u32) r).toArray) ∧ SP [] w0 w' []) := by
 unfold Yk at H
 refine Qv (n := 92) Tryz.func115 K K K ?_
 have l7 := Q1 [] w0
 refine aQ ?_
 refine aR ?_
 refine iS 1 ?_
 refine De (e := (Qc .u32)) (l := p1) (m := 8) (t := 149) (x := (.tmp 0)) (d := (some 2)) (k := 0) K rfl K g6 K l7 ?_
 intro g5 w6 l8
 refine iS 2 ?_
 refine De (e := (Qc .u32)) (l := p3) (m := 64) (t := 135) (x := (.tmp 1)) (d := (some 3)) (k := 1) K rfl K l6 K l8 ?_
 intro g9 w10 l9
 refine iS 3 ?_
 refine Qz (e := (Qc .u32)) (l := (List.replicate 8 0)) (m := 8) (t := 149) (z := .agg (Qb (Qc .u32) (List.replicate 8 0)).toArray) (d := (some 4)) (k := 2) K rfl K rfl rfl K l9 ?_
 intro s w14 m0
 refine iF ?_
 refine aQ ?_
 obtain ⟨a1, d3, H⟩ := Qf H
 obtain ⟨f2, H⟩ := Vv H
 replace f2 := Nat.eq_of_beq_eq_true f2
 refine aG [GEq (.agg (Qb (Qc .u32) p1).toArray), GEq (.agg (Qb (Qc .u32) a1).toArray), Bq, Bq, Bq, Bq] [1, 2, 3, 4, 5] [([], fun vs w => VL vs [] ∧ SP [] w0 w [Vc 149 (Qc .u32) g5 8 p1, Vc 135 (Qc .u32) g9 64 p3, Vc 149 (Qc .u32) s 8 (List.replicate 8 0)]), ([1], fun vs w => VL vs [(.agg (Qb (Qc .u32) a1).toArray)] ∧ SP [] w0 w [Vc 149 (Qc .u32) g5 8 p1, Vc 135 (Qc .u32) g9 64 p3, Vc 149 (Qc .u32) s 8 (List.replicate 8 0)]), ([2], fun vs w => ∃ (b6 : Nat), VL vs [(pt b6 0)] ∧ SP [] w0 w [Vc 149 (Qc .u32) g5 8 p1, Vc 135 (Qc .u32) g9 64 p3, Vc 149 (Qc .u32) s 8 (List.replicate 8 0), Vc 149 (Qc .u32) b6 8 (List.replicate 8 0)]), ([3], fun vs w => ∃ (b7 : Nat), VL vs [(pt b7 0)] ∧ SP [] w0 w [Vc 149 (Qc .u32) g5 8 p1, Vc 135 (Qc .u32) g9 64 p3, Vc 149 (Qc .u32) s 8 (List.replicate 8 0), Vc 135 (Qc .u32) b7 64 (List.replicate 64 0)]), ([1, 2], fun vs w => ∃ (c5 : Nat), VL vs [(.agg (Qb (Qc .u32) a1).toArray), (pt c5 0)] ∧ SP [] w0 w [Vc 149 (Qc .u32) g5 8 p1, Vc 135 (Qc .u32) g9 64 p3, Vc 149 (Qc .u32) s 8 (List.replicate 8 0), Vc 149 (Qc .u32) c5 8 (List.replicate 8 0)]), ([1, 3], fun vs w => ∃ (c6 : Nat), VL vs [(.agg (Qb (Qc .u32) a1).toArray), (pt c6 0)] ∧ SP [] w0 w [Vc 149 (Qc .u32) g5 8 p1, Vc 135 (Qc .u32) g9 64 p3, Vc 149 (Qc .u32) s 8 (List.replicate 8 0), Vc 135 (Qc .u32) c6 64 (List.replicate 64 0)]), ([2, 3], fun vs w => ∃ (c7 : Nat), ∃ (c8 : Nat), VL vs [(pt c7 0), (pt c8 0)] ∧ SP [] w0 w [Vc 149 (Qc .u32) g5 8 p1, Vc 135 (Qc .u32) g9 64 p3, Vc 149 (Qc .u32) s 8 (List.replicate 8 0), Vc 149 (Qc .u32) c7 8 (List.replicate 8 0), Vc 135 (Qc .u32) c8 64 (List.replicate 64 0)]), ([1, 2, 3], fun vs w => ∃ (b8 : Nat), ∃ (c9 : Nat), VL vs [(.agg (Qb (Qc .u32) a1).toArray), (pt b8 0), (pt c9 0)] ∧ SP [] w0 w [Vc 149 (Qc .u32) g5 8 p1, Vc 135 (Qc .u32) g9 64 p3, Vc 149 (Qc .u32) s 8 (List.replicate 8 0), Vc 149 (Qc .u32) b8 8 (List.replicate 8 0), Vc 135 (Qc .u32) c9 64 (List.replicate 64 0)]), ([1, 2, 3, 4], fun vs w => ∃ (d4 : Nat), ∃ (c0 : Nat), VL vs [(.agg (Qb (Qc .u32) a1).toArray), (pt d4 0), (pt c0 0), undef] ∧ SP [] w0 w [Vc 149 (Qc .u32) g5 8 p1, Vc 135 (Qc .u32) g9 64 p3, Vc 149 (Qc .u32) s 8 (List.replicate 8 0), Vc 149 (Qc .u32) d4 8 p1, Vc 135 (Qc .u32) c0 64 (List.replicate 64 0)]), ([1, 2, 3, 4, 5], fun vs w => ∃ (c : Nat), ∃ (a9 : Nat), VL vs [(.agg (Qb (Qc .u32) a1).toArray), (pt c 0), (pt a9 0), undef, undef] ∧ SP [] w0 w [Vc 149 (Qc .u32) g5 8 p1, Vc 135 (Qc .u32) g9 64 p3, Vc 149 (Qc .u32) s 8 (List.replicate 8 0), Vc 149 (Qc .u32) c 8 p1, Vc 135 (Qc .u32) a9 64 a1])] 6 9 ⟨trivial, SP.drew m0⟩ ?_ ?_
 iterate 6 refine And.intro ?_ ?_
 exact trivial
 ·refine Owe.light K [0, 1, 2, 3, 4, 5, 6, 7] K (Qd ?_ (Qd ?_ (Qd ?_ (Qd ?_ (Qd ?_ (Qd ?_ (Qd ?_ (Qd ?_ Q4))))))))
  ·rintro ρ' w' hs hah ⟨af6, m1⟩
   refine kM (kc (kS hs 2 (pt g5 0)) k0) fun hkn => ?_
   refine V3 (e := (Qc .u32)) (l := p1) (m := 8) (t := 149) (x := (.tmp 2)) (g := g5) (i := 0) (d := (some 15)) (k := 0) K rfl K m1 rfl K K ?_
   exact eK hkn
  ·rintro ρ' w' hs hah ⟨⟨af7, -⟩, m2⟩
   refine kM (kc (kS hs 2 (pt g5 0)) k0) fun hkn => ?_
   refine V3 (e := (Qc .u32)) (l := p1) (m := 8) (t := 149) (x := (.tmp 2)) (g := g5) (i := 0) (d := (some 15)) (k := 0) K rfl K m2 rfl K K ?_
   exact eK hkn
  ·rintro ρ' w' hs hah ⟨b6, ⟨af8, -⟩, m3⟩
   refine kM (kc (kS hs 2 (pt g5 0)) k0) fun hkn => ?_
   refine V3 (e := (Qc .u32)) (l := p1) (m := 8) (t := 149) (x := (.tmp 2)) (g := g5) (i := 0) (d := (some 15)) (k := 0) K rfl K m3 rfl K K ?_
   exact eK hkn
  ·rintro ρ' w' hs hah ⟨b7, ⟨af9, -⟩, m4⟩
   refine kM (kc (kS hs 2 (pt g5 0)) k0) fun hkn => ?_
   refine V3 (e := (Qc .u32)) (l := p1) (m := 8) (t := 149) (x := (.tmp 2)) (g := g5) (i := 0) (d := (some 15)) (k := 0) K rfl K m4 rfl K K ?_
   exact eK hkn
  ·rintro ρ' w' hs hah ⟨c5, ⟨ag0, ag1, -⟩, m5⟩
   refine kM (kc (kS hs 2 (pt g5 0)) k0) fun hkn => ?_
   refine V3 (e := (Qc .u32)) (l := p1) (m := 8) (t := 149) (x := (.tmp 2)) (g := g5) (i := 0) (d := (some 15)) (k := 0) K rfl K m5 rfl K K ?_
   exact eK hkn
  ·rintro ρ' w' hs hah ⟨c6, ⟨ag2, ag3, -⟩, m6⟩
   refine kM (kc (kS hs 2 (pt g5 0)) k0) fun hkn => ?_
   refine V3 (e := (Qc .u32)) (l := p1) (m := 8) (t := 149) (x := (.tmp 2)) (g := g5) (i := 0) (d := (some 15)) (k := 0) K rfl K m6 rfl K K ?_
   exact eK hkn
  ·rintro ρ' w' hs hah ⟨c7, c8, ⟨ag4, ag5, -⟩, m7⟩
   refine kM (kc (kS hs 2 (pt g5 0)) k0) fun hkn => ?_
   refine V3 (e := (Qc .u32)) (l := p1) (m := 8) (t := 149) (x := (.tmp 2)) (g := g5) (i := 0) (d := (some 15)) (k := 0) K rfl K m7 rfl K K ?_
   exact eK hkn
  ·rintro ρ' w' hs hah ⟨b8, c9, ⟨ag6, ag7, ag8, -⟩, m8⟩
   refine kM (kc (kS hs 2 (pt g5 0)) k0) fun hkn => ?_
   refine V3 (e := (Qc .u32)) (l := p1) (m := 8) (t := 149) (x := (.tmp 2)) (g := g5) (i := 0) (d := (some 15)) (k := 0) K rfl K m8 rfl K K ?_
   exact eK hkn
 ·refine Owe.heavy K [(0, 1), (2, 4), (3, 5), (6, 7)] K (Qd ⟨K, K, ?_⟩ (Qd ⟨K, K, ?_⟩ (Qd ⟨K, K, ?_⟩ (Qd ⟨K, K, ?_⟩ Q4))))
  ·rintro ρ' w' hs hah ⟨ag9, m9⟩
   refine kN [] trivial fun hkn => ?_
   refine cF 127 #[] #[] 16 Tryz.call127 (Y4   w'  a1 d3) ?_
   rintro e ah0 ⟨rfl, g7⟩
   refine ⟨_, rfl, ?_⟩
   have n0 := SP.call m9 g7
   clear g7
   refine ⟨_, Qa hkn, rfl, ?_⟩
   exact (And.intro (And.intro rfl (trivial)) (n0))
  ·rintro ρ' w' hs hah ⟨b6, ⟨n1, -⟩, n2⟩
   refine kN [] trivial fun hkn => ?_
   refine cF 127 #[] #[] 16 Tryz.call127 (Y4   w'  a1 d3) ?_
   rintro e ah1 ⟨rfl, g8⟩
   refine ⟨_, rfl, ?_⟩
   have n3 := SP.call n2 g8
   clear g8
   refine ⟨_, Qa hkn, rfl, ?_⟩
   exact (Exists.intro b6 (And.intro (And.intro rfl (And.intro n1 (trivial))) (n3)))
  ·rintro ρ' w' hs hah ⟨b7, ⟨n4, -⟩, n5⟩
   refine kN [] trivial fun hkn => ?_
   refine cF 127 #[] #[] 16 Tryz.call127 (Y4   w'  a1 d3) ?_
   rintro e ah2 ⟨rfl, h1⟩
   refine ⟨_, rfl, ?_⟩
   have n6 := SP.call n5 h1
   clear h1
   refine ⟨_, Qa hkn, rfl, ?_⟩
   exact (Exists.intro b7 (And.intro (And.intro rfl (And.intro n4 (trivial))) (n6)))
  ·rintro ρ' w' hs hah ⟨c7, c8, ⟨n7, n8, -⟩, n9⟩
   refine kN [] trivial fun hkn => ?_
   refine cF 127 #[] #[] 16 Tryz.call127 (Y4   w'  a1 d3) ?_
   rintro e ah3 ⟨rfl, h2⟩
   refine ⟨_, rfl, ?_⟩
   have o0 := SP.call n9 h2
   clear h2
   refine ⟨_, Qa hkn, rfl, ?_⟩
   exact (Exists.intro c7 (Exists.intro c8 (And.intro (And.intro rfl (And.intro n7 (And.intro n8 (trivial)))) (o0))))
 ·refine Owe.heavy K [(0, 2), (1, 4), (3, 6), (5, 7)] K (Qd ⟨K, K, ?_⟩ (Qd ⟨K, K, ?_⟩ (Qd ⟨K, K, ?_⟩ (Qd ⟨K, K, ?_⟩ Q4))))
  ·rintro ρ' w' hs hah ⟨ah4, o1⟩
   refine kN [] trivial fun hkn => ?_
   refine Qz (e := (Qc .u32)) (l := (List.replicate 8 0)) (m := 8) (t := 149) (z := .agg (Qb (Qc .u32) (List.replicate 8 0)).toArray) (d := (some 5)) (k := 2) K rfl K rfl rfl K o1 ?_
   intro o2 ah5 o3
   refine ⟨_, Qa hkn, trivial, ?_⟩
   exact (Exists.intro o2 (And.intro (And.intro rfl (trivial)) (o3)))
  ·rintro ρ' w' hs hah ⟨⟨o4, -⟩, o5⟩
   refine kN [] trivial fun hkn => ?_
   refine Qz (e := (Qc .u32)) (l := (List.replicate 8 0)) (m := 8) (t := 149) (z := .agg (Qb (Qc .u32) (List.replicate 8 0)).toArray) (d := (some 5)) (k := 2) K rfl K rfl rfl K o5 ?_
   intro o6 ah6 o7
   refine ⟨_, Qa hkn, trivial, ?_⟩
   exact (Exists.intro o6 (And.intro (And.intro o4 (And.intro rfl (trivial))) (o7)))
  ·rintro ρ' w' hs hah ⟨b7, ⟨o8, -⟩, o9⟩
   refine kN [] trivial fun hkn => ?_
   refine Qz (e := (Qc .u32)) (l := (List.replicate 8 0)) (m := 8) (t := 149) (z := .agg (Qb (Qc .u32) (List.replicate 8 0)).toArray) (d := (some 5)) (k := 2) K rfl K rfl rfl K o9 ?_
   intro p0 ah7 p2
   refine ⟨_, Qa hkn, trivial, ?_⟩
   exact (Exists.intro p0 (Exists.intro b7 (And.intro (And.intro rfl (And.intro o8 (trivial))) (SP.sel p2 [0, 1, 2, 4, 3] rfl rfl))))
  ·rintro ρ' w' hs hah ⟨c6, ⟨p4, p5, -⟩, p6⟩
   refine kN [] trivial fun hkn => ?_
   refine Qz (e := (Qc .u32)) (l := (List.replicate 8 0)) (m := 8) (t := 149) (z := .agg (Qb (Qc .u32) (List.replicate 8 0)).toArray) (d := (some 5)) (k := 2) K rfl K rfl rfl K p6 ?_
   intro p7 ah8 p8
   refine ⟨_, Qa hkn, trivial, ?_⟩
   exact (Exists.intro p7 (Exists.intro c6 (And.intro (And.intro p4 (And.intro rfl (And.intro p5 (trivial)))) (SP.sel p8 [0, 1, 2, 4, 3] rfl rfl))))
 ·refine Owe.heavy K [(0, 3), (1, 5), (2, 6), (4, 7)] K (Qd ⟨K, K, ?_⟩ (Qd ⟨K, K, ?_⟩ (Qd ⟨K, K, ?_⟩ (Qd ⟨K, K, ?_⟩ Q4))))
  ·rintro ρ' w' hs hah ⟨ah9, p9⟩
   refine kN [] trivial fun hkn => ?_
   refine Qz (e := (Qc .u32)) (l := (List.replicate 64 0)) (m := 64) (t := 135) (z := .agg (Qb (Qc .u32) (List.replicate 64 0)).toArray) (d := (some 6)) (k := 3) K rfl K rfl rfl K p9 ?_
   intro q0 ai0 q1
   refine ⟨_, Qa hkn, trivial, ?_⟩
   exact (Exists.intro q0 (And.intro (And.intro rfl (trivial)) (q1)))
  ·rintro ρ' w' hs hah ⟨⟨q2, -⟩, q3⟩
   refine kN [] trivial fun hkn => ?_
   refine Qz (e := (Qc .u32)) (l := (List.replicate 64 0)) (m := 64) (t := 135) (z := .agg (Qb (Qc .u32) (List.replicate 64 0)).toArray) (d := (some 6)) (k := 3) K rfl K rfl rfl K q3 ?_
   intro q4 ai1 q5
   refine ⟨_, Qa hkn, trivial, ?_⟩
   exact (Exists.intro q4 (And.intro (And.intro q2 (And.intro rfl (trivial))) (q5)))
  ·rintro ρ' w' hs hah ⟨b6, ⟨q6, -⟩, q7⟩
   refine kN [] trivial fun hkn => ?_
   refine Qz (e := (Qc .u32)) (l := (List.replicate 64 0)) (m := 64) (t := 135) (z := .agg (Qb (Qc .u32) (List.replicate 64 0)).toArray) (d := (some 6)) (k := 3) K rfl K rfl rfl K q7 ?_
   intro q8 ai2 q9
   refine ⟨_, Qa hkn, trivial, ?_⟩
   exact (Exists.intro b6 (Exists.intro q8 (And.intro (And.intro q6 (And.intro rfl (trivial))) (q9))))
  ·rintro ρ' w' hs hah ⟨c5, ⟨r0, r1, -⟩, r2⟩
   refine kN [] trivial fun hkn => ?_
   refine Qz (e := (Qc .u32)) (l := (List.replicate 64 0)) (m := 64) (t := 135) (z := .agg (Qb (Qc .u32) (List.replicate 64 0)).toArray) (d := (some 6)) (k := 3) K rfl K rfl rfl K r2 ?_
   intro r3 ai3 r4
   refine ⟨_, Qa hkn, trivial, ?_⟩
   exact (Exists.intro c5 (Exists.intro r3 (And.intro (And.intro r0 (And.intro r1 (And.intro rfl (trivial)))) (r4))))
 ·refine oH 7 8 ?_
  ·rintro ρ' w' hs hah ⟨b8, c9, ⟨r5, h3, r6, -⟩, r7⟩
   refine kN [(5, (pt b8 0)), (15, (.agg (Qb (Qc .u32) p1).toArray))] ⟨(Xk (h := 2) K).symm.trans h3, hah 0 15 K, trivial⟩ fun hkn => ?_
   refine Q8 (e := (Qc .u32)) (l := (List.replicate 8 0)) (l' := p1) (m := 8) (t := 149) (x := (.tmp 5)) (y := (.tmp 15)) (g := b8) (i := 3) (d := none) (k := 4) K rfl K K g6 r7 rfl K ?_
   intro ai4 r8
   refine ⟨_, Qa hkn, trivial, ?_⟩
   exact (Exists.intro b8 (Exists.intro c9 (And.intro (And.intro r5 (And.intro h3 (And.intro r6 (And.intro rfl (trivial))))) (r8))))
 ·refine oH 8 9 ?_
  ·rintro ρ' w' hs hah ⟨d4, c0, ⟨h4, r9, h5, s0, -⟩, s1⟩
   refine kN [(6, (pt c0 0)), (16, (.agg (Qb (Qc .u32) a1).toArray))] ⟨(Xk (h := 3) K).symm.trans h5, (Xk (h := 1) K).symm.trans h4, trivial⟩ fun hkn => ?_
   refine Q8 (e := (Qc .u32)) (l := (List.replicate 64 0)) (l' := a1) (m := 64) (t := 135) (x := (.tmp 6)) (y := (.tmp 16)) (g := c0) (i := 4) (d := none) (k := 5) K rfl K K f2 s1 rfl K ?_
   intro ai5 s2
   refine ⟨_, Qa hkn, trivial, ?_⟩
   exact (Exists.intro d4 (Exists.intro c0 (And.intro (And.intro h4 (And.intro r9 (And.intro h5 (And.intro s0 (And.intro rfl (trivial)))))) (s2))))
 ·rintro ρ' w' hs hf ⟨c, a9, ⟨ai6, s3, s4, ai7, ai8, -⟩, h6⟩
  refine Vh [(2, (pt g5 0)), (3, (pt g9 0)), (4, (pt s 0)), (5, (pt c 0)), (6, (pt a9 0))] ⟨(hs 2 K).trans K, (hs 3 K).trans K, (hs 4 K).trans K, (Xk (h := 2) K).symm.trans s3, (Xk (h := 3) K).symm.trans s4, trivial⟩ ?_
  obtain ⟨ai9, s5⟩ : ∃ x, w' = x := ⟨_, rfl⟩
  rw [s5] at h6 ⊢
  refine aQ ?_
  refine aQ ?_
  refine aR ?_
  refine iR 1 1 [(17, (.int .i64 0))] ?_
  refine iF ?_
  refine Zj K (id := 0) K ?_
  refine Jk K (fun f4 ρ w => ∃ (u : (List Int)) (p : Int), V8 ρ [(2, (pt g5 0)), (3, (pt g9 0)), (4, (pt s 0)), (5, (pt c 0)), (6, (pt a9 0)), (17, (.int .i64 p))] ∧ SP [] w0 w [Vc 149 (Qc .u32) g5 8 p1, Vc 135 (Qc .u32) g9 64 p3, Vc 149 (Qc .u32) s 8 (List.replicate 8 0), Vc 149 (Qc .u32) c 8 u, Vc 135 (Qc .u32) a9 64 a1] ∧ Za p1 p3 a1 f4 u p = some r) (by rintro ρ w ⟨u, p, hk, hs, H⟩; cases H) ?_ Z0 ?_
  ·rintro f4 ρ aj0 ⟨u, p, hk, b9, H⟩
   refine At.known [(2, (pt g5 0)), (3, (pt g9 0)), (4, (pt s 0)), (5, (pt c 0)), (6, (pt a9 0)), (17, (.int .i64 p))] hk ?_
   replace H := (show Yx (Za p1 p3 a1 f4) p1 p3 a1 u p = some r from H)
   unfold Yx at H
   have aj1 := Q5 (SP.get b9 (i := 0) rfl)
   have aj2 := Q5 (SP.get b9 (i := 1) rfl)
   have aj3 := Q5 (SP.get b9 (i := 2) rfl)
   have aj4 := Q5 (SP.get b9 (i := 3) rfl)
   have aj5 := Q5 (SP.get b9 (i := 4) rfl)
   refine aQ ?_
   refine aR ?_
   refine iR 1 1 [(18, (.bool (decide (p < 64))))] ?_
   refine iF ?_
   refine aQ ?_
   refine Zi K (o := (.tmp 18)) K (b := (decide (p < 64))) K (fun f3 => ?_) (fun f3 => ?_)
   ·have H := ct H f3
    refine At.skip K ?_
    refine aQ ?_
    refine Zj K (id := 1) K ?_
    refine aQ ?_
    refine aR ?_
    refine iR 2 2 [(19, (.int .i64 p)), (7, (.int .i64 p))] ?_
    refine iF ?_
    refine aQ ?_
    obtain ⟨b1, h7, h8, s6, H⟩ := Qn H
    obtain ⟨a2, h9, i0, s7, H⟩ := Qn H
    obtain ⟨a3, i1, i2, s8, H⟩ := Qn H
    obtain ⟨f, i3, i4, s9, H⟩ := Qn H
    refine aG [Vs (some ⟨c, 0, none⟩) (Qc .u32).sz 0, GEq (.int .u32 b1), Vs (some ⟨c, 0, none⟩) (Qc .u32).sz 1, GEq (.int .u32 a2), Vs (some ⟨c, 0, none⟩) (Qc .u32).sz 2, GEq (.int .u32 a3), Vs (some ⟨c, 0, none⟩) (Qc .u32).sz 4, GEq (.int .u32 f), GEq (.int .u32 b1), GEq (.int .u32 a2), GEq (.int .u32 a3), GEq (.int .u32 f)] [] (tG [] w0 [Vc 149 (Qc .u32) g5 8 p1, Vc 135 (Qc .u32) g9 64 p3, Vc 149 (Qc .u32) s 8 (List.replicate 8 0), Vc 149 (Qc .u32) c 8 u, Vc 135 (Qc .u32) a9 64 a1] [([], [])]) 12 0 ⟨trivial, SP.drew b9⟩ ?_ ?_
    iterate 12 refine And.intro ?_ ?_
    exact trivial
    ·refine oL 0 ?_
     ·rintro ρ' w' hs hah ⟨aj6, t0⟩
      refine kM (kc (kS hs 5 (pt c 0)) k0) fun hkn => ?_
      refine Qg (e := (Qc .u32)) (l := u) (m := 8) (g := c) (T := 149) (E := 111) (x := (.tmp 5)) (ix := (.const (.int .i64 (0)))) (ki := .i64) (iz := 0) (i := 3) (d := (some 20)) (k := 0) K rfl K K K K t0 rfl h7 h8 ?_
      exact ⟨rfl, _, Qa hkn, ⟨c, 0, rfl, rfl⟩⟩
    ·refine oL 0 ?_
     ·rintro ρ' w' hs hah ⟨aj7, t1⟩
      obtain ⟨t2, t3, t4, t5⟩ := hah 0 20 K
      refine kM (kc t5 k0) fun hkn => ?_
      refine sC 111 20 t2 (t3 + Int.toNat 0 * (Qc .u32).sz) (.int .u32 b1) 21 (Qh (e := (Qc .u32)) (Qe (Qu (SP.get t1 (i := 3) rfl)) t4 h7 h8) s6 (j := 0) rfl) ?_
      exact eK hkn
    ·refine oL 0 ?_
     ·rintro ρ' w' hs hah ⟨aj8, t6⟩
      refine kM (kc (kS hs 5 (pt c 0)) k0) fun hkn => ?_
      refine Qg (e := (Qc .u32)) (l := u) (m := 8) (g := c) (T := 149) (E := 111) (x := (.tmp 5)) (ix := (.const (.int .i64 (1)))) (ki := .i64) (iz := 1) (i := 3) (d := (some 22)) (k := 2) K rfl K K K K t6 rfl h9 i0 ?_
      exact ⟨rfl, _, Qa hkn, ⟨c, 0, rfl, rfl⟩⟩
    ·refine oL 0 ?_
     ·rintro ρ' w' hs hah ⟨aj9, t7⟩
      obtain ⟨t8, t9, u0, u1⟩ := hah 2 22 K
      refine kM (kc u1 k0) fun hkn => ?_
      refine sC 111 22 t8 (t9 + Int.toNat 1 * (Qc .u32).sz) (.int .u32 a2) 23 (Qh (e := (Qc .u32)) (Qe (Qu (SP.get t7 (i := 3) rfl)) u0 h9 i0) s7 (j := 0) rfl) ?_
      exact eK hkn
    ·refine oL 0 ?_
     ·rintro ρ' w' hs hah ⟨ak0, u2⟩
      refine kM (kc (kS hs 5 (pt c 0)) k0) fun hkn => ?_
      refine Qg (e := (Qc .u32)) (l := u) (m := 8) (g := c) (T := 149) (E := 111) (x := (.tmp 5)) (ix := (.const (.int .i64 (2)))) (ki := .i64) (iz := 2) (i := 3) (d := (some 24)) (k := 4) K rfl K K K K u2 rfl i1 i2 ?_
      exact ⟨rfl, _, Qa hkn, ⟨c, 0, rfl, rfl⟩⟩
    ·refine oL 0 ?_
     ·rintro ρ' w' hs hah ⟨ak1, u3⟩
      obtain ⟨u4, u5, u6, u7⟩ := hah 4 24 K
      refine kM (kc u7 k0) fun hkn => ?_
      refine sC 111 24 u4 (u5 + Int.toNat 2 * (Qc .u32).sz) (.int .u32 a3) 25 (Qh (e := (Qc .u32)) (Qe (Qu (SP.get u3 (i := 3) rfl)) u6 i1 i2) s8 (j := 0) rfl) ?_
      exact eK hkn
    ·refine oL 0 ?_
     ·rintro ρ' w' hs hah ⟨ak2, u8⟩
      refine kM (kc (kS hs 5 (pt c 0)) k0) fun hkn => ?_
      refine Qg (e := (Qc .u32)) (l := u) (m := 8) (g := c) (T := 149) (E := 111) (x := (.tmp 5)) (ix := (.const (.int .i64 (4)))) (ki := .i64) (iz := 4) (i := 3) (d := (some 26)) (k := 6) K rfl K K K K u8 rfl i3 i4 ?_
      exact ⟨rfl, _, Qa hkn, ⟨c, 0, rfl, rfl⟩⟩
    ·refine oL 0 ?_
     ·rintro ρ' w' hs hah ⟨ak3, u9⟩
      obtain ⟨v0, v1, v2, v3⟩ := hah 6 26 K
      refine kM (kc v3 k0) fun hkn => ?_
      refine sC 111 26 v0 (v1 + Int.toNat 4 * (Qc .u32).sz) (.int .u32 f) 27 (Qh (e := (Qc .u32)) (Qe (Qu (SP.get u9 (i := 3) rfl)) v2 i3 i4) s9 (j := 0) rfl) ?_
      exact eK hkn
    ·exact oV (hC (hA 1 21) (h0)) (.int .u32 b1)
    ·exact oV (hC (hA 3 23) (h0)) (.int .u32 a2)
    ·exact oV (hC (hA 5 25) (h0)) (.int .u32 a3)
    ·exact oV (hC (hA 7 27) (h0)) (.int .u32 f)
    ·rintro ρ' w' hs hf ⟨ak4, i5⟩
     refine Vh [(2, (pt g5 0)), (3, (pt g9 0)), (4, (pt s 0)), (5, (pt c 0)), (6, (pt a9 0)), (7, (.int .i64 p)), (8, (.int .u32 b1)), (9, (.int .u32 a2)), (10, (.int .u32 a3)), (11, (.int .u32 f)), (17, (.int .i64 p))] ⟨(hs 2 K).trans K, (hs 3 K).trans K, (hs 4 K).trans K, (hs 5 K).trans K, (hs 6 K).trans K, (hs 7 K).trans K, hf 8 8 K, hf 9 9 K, hf 10 10 K, hf 11 11 K, (hs 17 K).trans K, trivial⟩ ?_
     obtain ⟨ak5, v4⟩ : ∃ x, w' = x := ⟨_, rfl⟩
     rw [v4] at i5 ⊢
     refine aQ ?_
     obtain ⟨a6, d5, d6, i6, H⟩ := Qn H
     obtain ⟨a7, v5, H⟩ := Qf H
     obtain ⟨a8, d7, d8, i7, H⟩ := Qn H
     obtain ⟨a4, d9, e0, i8, H⟩ := Qn H
     obtain ⟨a5, e1, e2, i9, H⟩ := Qn H
     obtain ⟨b0, e3, e4, j0, H⟩ := Qn H
     obtain ⟨b2, e5, e6, j1, H⟩ := Qn H
     refine aG [Vs (some ⟨c, 0, none⟩) (Qc .u32).sz 7, GEq (.int .u32 a6), GEq (.int .u32 f), GEq (.agg (Qb (Qc .i64) ([6, 11, 25] : List Int)).toArray), GEq (.int .u32 a7), GEq (.int .u32 (IntKind.wrap .u32 (a6 + a7))), Vs (some ⟨c, 0, none⟩) (Qc .u32).sz 6, GEq (.int .u32 a8), GEq (.int .u32 f), Vs (some ⟨c, 0, none⟩) (Qc .u32).sz 5, GEq (.int .u32 a4), Vs (some ⟨c, 0, none⟩) (Qc .u32).sz 6, GEq (.int .u32 a5), GEq (.int .u32 (V0 .u32 a4 a5)), GEq (.int .u32 (V7 .u32 f (V0 .u32 a4 a5))), GEq (.int .u32 (V0 .u32 a8 (V7 .u32 f (V0 .u32 a4 a5)))), GEq (.int .u32 (IntKind.wrap .u32 ((IntKind.wrap .u32 (a6 + a7)) + (V0 .u32 a8 (V7 .u32 f (V0 .u32 a4 a5)))))), GEq (.int .i64 p), Vs (some ⟨a9, 0, none⟩) (Qc .u32).sz p, GEq (.int .u32 b0), GEq (.int .u32 (IntKind.wrap .u32 ((IntKind.wrap .u32 ((IntKind.wrap .u32 (a6 + a7)) + (V0 .u32 a8 (V7 .u32 f (V0 .u32 a4 a5))))) + b0))), GEq (.int .i64 p), Vs (some ⟨g9, 0, none⟩) (Qc .u32).sz p, GEq (.int .u32 b2), GEq (.int .u32 (IntKind.wrap .u32 ((IntKind.wrap .u32 ((IntKind.wrap .u32 ((IntKind.wrap .u32 (a6 + a7)) + (V0 .u32 a8 (V7 .u32 f (V0 .u32 a4 a5))))) + b0)) + b2))), GEq (.int .u32 (IntKind.wrap .u32 ((IntKind.wrap .u32 ((IntKind.wrap .u32 ((IntKind.wrap .u32 (a6 + a7)) + (V0 .u32 a8 (V7 .u32 f (V0 .u32 a4 a5))))) + b0)) + b2)))] [4] (tG [] w0 [Vc 149 (Qc .u32) g5 8 p1, Vc 135 (Qc .u32) g9 64 p3, Vc 149 (Qc .u32) s 8 (List.replicate 8 0), Vc 149 (Qc .u32) c 8 u, Vc 135 (Qc .u32) a9 64 a1] [([], []), ([4], [(.int .u32 a7)])]) 26 1 ⟨trivial, SP.drew i5⟩ ?_ ?_
     iterate 26 refine And.intro ?_ ?_
     exact trivial
     ·refine Owe.light K [0, 1] K (Qd ?_ (Qd ?_ Q4))
      ·rintro ρ' w' hs hah ⟨ak6, v6⟩
       refine kM (kc (kS hs 5 (pt c 0)) k0) fun hkn => ?_
       refine Qg (e := (Qc .u32)) (l := u) (m := 8) (g := c) (T := 149) (E := 111) (x := (.tmp 5)) (ix := (.const (.int .i64 (7)))) (ki := .i64) (iz := 7) (i := 3) (d := (some 28)) (k := 0) K rfl K K K K v6 rfl d5 d6 ?_
       exact ⟨rfl, _, Qa hkn, ⟨c, 0, rfl, rfl⟩⟩
      ·rintro ρ' w' hs hah ⟨⟨ak7, -⟩, v7⟩
       refine kM (kc (kS hs 5 (pt c 0)) k0) fun hkn => ?_
       refine Qg (e := (Qc .u32)) (l := u) (m := 8) (g := c) (T := 149) (E := 111) (x := (.tmp 5)) (ix := (.const (.int .i64 (7)))) (ki := .i64) (iz := 7) (i := 3) (d := (some 28)) (k := 0) K rfl K K K K v7 rfl d5 d6 ?_
       exact ⟨rfl, _, Qa hkn, ⟨c, 0, rfl, rfl⟩⟩
     ·refine Owe.light K [0, 1] K (Qd ?_ (Qd ?_ Q4))
      ·rintro ρ' w' hs hah ⟨ak8, v8⟩
       obtain ⟨v9, w1, w2, f6⟩ := hah 0 28 K
       refine kM (kc f6 k0) fun hkn => ?_
       refine sC 111 28 v9 (w1 + Int.toNat 7 * (Qc .u32).sz) (.int .u32 a6) 29 (Qh (e := (Qc .u32)) (Qe (Qu (SP.get v8 (i := 3) rfl)) w2 d5 d6) i6 (j := 0) rfl) ?_
       exact eK hkn
      ·rintro ρ' w' hs hah ⟨⟨ak9, -⟩, w3⟩
       obtain ⟨w4, w5, w7, f6⟩ := hah 0 28 K
       refine kM (kc f6 k0) fun hkn => ?_
       refine sC 111 28 w4 (w5 + Int.toNat 7 * (Qc .u32).sz) (.int .u32 a6) 29 (Qh (e := (Qc .u32)) (Qe (Qu (SP.get w3 (i := 3) rfl)) w7 d5 d6) i6 (j := 0) rfl) ?_
       exact eK hkn
     ·exact oV (hC (hS 11 (.int .u32 f)) (h0)) (.int .u32 f)
     ·exact Owe.run K [] trivial (.agg (Qb (Qc .i64) ([6, 11, 25] : List Int)).toArray) (fun _ _ => K) rfl
     ·refine oH 0 1 ?_
      ·rintro ρ' w' hs hah ⟨al0, w8⟩
       refine kM (kc (kA hah 2 30) (kc (kA hah 3 31) k0)) fun hkn => ?_
       refine cF 128 #[(.tmp 30), (.tmp 31), (.const (.bool false))] #[111, 168, 4] 32 Tryz.call128 (Y5  f ([6, 11, 25] : List Int) false w' rfl a7 v5) ?_
       rintro e al1 ⟨rfl, j2⟩
       refine ⟨_, rfl, ?_⟩
       have w9 := SP.call w8 j2
       clear j2
       refine ⟨_, Qa hkn, rfl, ?_⟩
       exact (And.intro (And.intro rfl (trivial)) (w9))
     ·exact oV (hC (hA 1 29) (hC (hA 4 32) (h0))) (.int .u32 (IntKind.wrap .u32 (a6 + a7)))
     ·refine Owe.light K [0, 1] K (Qd ?_ (Qd ?_ Q4))
      ·rintro ρ' w' hs hah ⟨al2, x0⟩
       refine kM (kc (kS hs 5 (pt c 0)) k0) fun hkn => ?_
       refine Qg (e := (Qc .u32)) (l := u) (m := 8) (g := c) (T := 149) (E := 111) (x := (.tmp 5)) (ix := (.const (.int .i64 (6)))) (ki := .i64) (iz := 6) (i := 3) (d := (some 34)) (k := 6) K rfl K K K K x0 rfl d7 d8 ?_
       exact ⟨rfl, _, Qa hkn, ⟨c, 0, rfl, rfl⟩⟩
      ·rintro ρ' w' hs hah ⟨⟨al3, -⟩, x1⟩
       refine kM (kc (kS hs 5 (pt c 0)) k0) fun hkn => ?_
       refine Qg (e := (Qc .u32)) (l := u) (m := 8) (g := c) (T := 149) (E := 111) (x := (.tmp 5)) (ix := (.const (.int .i64 (6)))) (ki := .i64) (iz := 6) (i := 3) (d := (some 34)) (k := 6) K rfl K K K K x1 rfl d7 d8 ?_
       exact ⟨rfl, _, Qa hkn, ⟨c, 0, rfl, rfl⟩⟩
     ·refine Owe.light K [0, 1] K (Qd ?_ (Qd ?_ Q4))
      ·rintro ρ' w' hs hah ⟨al4, x2⟩
       obtain ⟨x3, x4, x5, f7⟩ := hah 6 34 K
       refine kM (kc f7 k0) fun hkn => ?_
       refine sC 111 34 x3 (x4 + Int.toNat 6 * (Qc .u32).sz) (.int .u32 a8) 35 (Qh (e := (Qc .u32)) (Qe (Qu (SP.get x2 (i := 3) rfl)) x5 d7 d8) i7 (j := 0) rfl) ?_
       exact eK hkn
      ·rintro ρ' w' hs hah ⟨⟨al5, -⟩, x6⟩
       obtain ⟨x7, x8, x9, f7⟩ := hah 6 34 K
       refine kM (kc f7 k0) fun hkn => ?_
       refine sC 111 34 x7 (x8 + Int.toNat 6 * (Qc .u32).sz) (.int .u32 a8) 35 (Qh (e := (Qc .u32)) (Qe (Qu (SP.get x6 (i := 3) rfl)) x9 d7 d8) i7 (j := 0) rfl) ?_
       exact eK hkn
     ·exact oV (hC (hS 11 (.int .u32 f)) (h0)) (.int .u32 f)
     ·refine Owe.light K [0, 1] K (Qd ?_ (Qd ?_ Q4))
      ·rintro ρ' w' hs hah ⟨al6, y0⟩
       refine kM (kc (kS hs 5 (pt c 0)) k0) fun hkn => ?_
       refine Qg (e := (Qc .u32)) (l := u) (m := 8) (g := c) (T := 149) (E := 111) (x := (.tmp 5)) (ix := (.const (.int .i64 (5)))) (ki := .i64) (iz := 5) (i := 3) (d := (some 37)) (k := 9) K rfl K K K K y0 rfl d9 e0 ?_
       exact ⟨rfl, _, Qa hkn, ⟨c, 0, rfl, rfl⟩⟩
      ·rintro ρ' w' hs hah ⟨⟨al7, -⟩, y1⟩
       refine kM (kc (kS hs 5 (pt c 0)) k0) fun hkn => ?_
       refine Qg (e := (Qc .u32)) (l := u) (m := 8) (g := c) (T := 149) (E := 111) (x := (.tmp 5)) (ix := (.const (.int .i64 (5)))) (ki := .i64) (iz := 5) (i := 3) (d := (some 37)) (k := 9) K rfl K K K K y1 rfl d9 e0 ?_
       exact ⟨rfl, _, Qa hkn, ⟨c, 0, rfl, rfl⟩⟩
     ·refine Owe.light K [0, 1] K (Qd ?_ (Qd ?_ Q4))
      ·rintro ρ' w' hs hah ⟨al8, y2⟩
       obtain ⟨y3, y4, y5, f8⟩ := hah 9 37 K
       refine kM (kc f8 k0) fun hkn => ?_
       refine sC 111 37 y3 (y4 + Int.toNat 5 * (Qc .u32).sz) (.int .u32 a4) 38 (Qh (e := (Qc .u32)) (Qe (Qu (SP.get y2 (i := 3) rfl)) y5 d9 e0) i8 (j := 0) rfl) ?_
       exact eK hkn
      ·rintro ρ' w' hs hah ⟨⟨al9, -⟩, y6⟩
       obtain ⟨y7, y8, y9, f8⟩ := hah 9 37 K
       refine kM (kc f8 k0) fun hkn => ?_
       refine sC 111 37 y7 (y8 + Int.toNat 5 * (Qc .u32).sz) (.int .u32 a4) 38 (Qh (e := (Qc .u32)) (Qe (Qu (SP.get y6 (i := 3) rfl)) y9 d9 e0) i8 (j := 0) rfl) ?_
       exact eK hkn
     ·refine Owe.light K [0, 1] K (Qd ?_ (Qd ?_ Q4))
      ·rintro ρ' w' hs hah ⟨am0, z0⟩
       refine kM (kc (kS hs 5 (pt c 0)) k0) fun hkn => ?_
       refine Qg (e := (Qc .u32)) (l := u) (m := 8) (g := c) (T := 149) (E := 111) (x := (.tmp 5)) (ix := (.const (.int .i64 (6)))) (ki := .i64) (iz := 6) (i := 3) (d := (some 39)) (k := 11) K rfl K K K K z0 rfl e1 e2 ?_
       exact ⟨rfl, _, Qa hkn, ⟨c, 0, rfl, rfl⟩⟩
      ·rintro ρ' w' hs hah ⟨⟨am1, -⟩, z1⟩
       refine kM (kc (kS hs 5 (pt c 0)) k0) fun hkn => ?_
       refine Qg (e := (Qc .u32)) (l := u) (m := 8) (g := c) (T := 149) (E := 111) (x := (.tmp 5)) (ix := (.const (.int .i64 (6)))) (ki := .i64) (iz := 6) (i := 3) (d := (some 39)) (k := 11) K rfl K K K K z1 rfl e1 e2 ?_
       exact ⟨rfl, _, Qa hkn, ⟨c, 0, rfl, rfl⟩⟩
     ·refine Owe.light K [0, 1] K (Qd ?_ (Qd ?_ Q4))
      ·rintro ρ' w' hs hah ⟨am2, z2⟩
       obtain ⟨z3, z4, z5, f9⟩ := hah 11 39 K
       refine kM (kc f9 k0) fun hkn => ?_
       refine sC 111 39 z3 (z4 + Int.toNat 6 * (Qc .u32).sz) (.int .u32 a5) 40 (Qh (e := (Qc .u32)) (Qe (Qu (SP.get z2 (i := 3) rfl)) z5 e1 e2) i9 (j := 0) rfl) ?_
       exact eK hkn
      ·rintro ρ' w' hs hah ⟨⟨am3, -⟩, z6⟩
       obtain ⟨z7, z8, z9, f9⟩ := hah 11 39 K
       refine kM (kc f9 k0) fun hkn => ?_
       refine sC 111 39 z7 (z8 + Int.toNat 6 * (Qc .u32).sz) (.int .u32 a5) 40 (Qh (e := (Qc .u32)) (Qe (Qu (SP.get z6 (i := 3) rfl)) z9 e1 e2) i9 (j := 0) rfl) ?_
       exact eK hkn
     ·exact oV (hC (hA 10 38) (hC (hA 12 40) (h0))) (.int .u32 (V0 .u32 a4 a5))
     ·exact oV (hC (hA 8 36) (hC (hA 13 41) (h0))) (.int .u32 (V7 .u32 f (V0 .u32 a4 a5)))
     ·exact oV (hC (hA 7 35) (hC (hA 14 42) (h0))) (.int .u32 (V0 .u32 a8 (V7 .u32 f (V0 .u32 a4 a5))))
     ·exact oV (hC (hA 5 33) (hC (hA 15 43) (h0))) (.int .u32 (IntKind.wrap .u32 ((IntKind.wrap .u32 (a6 + a7)) + (V0 .u32 a8 (V7 .u32 f (V0 .u32 a4 a5))))))
     ·exact oV (hC (hS 7 (.int .i64 p)) (h0)) (.int .i64 p)
     ·refine Owe.light K [0, 1] K (Qd ?_ (Qd ?_ Q4))
      ·rintro ρ' w' hs hah ⟨am4, aa0⟩
       refine kM (kc (kS hs 6 (pt a9 0)) (kc (kA hah 17 45) k0)) fun hkn => ?_
       refine Qg (e := (Qc .u32)) (l := a1) (m := 64) (g := a9) (T := 135) (E := 111) (x := (.tmp 6)) (ix := (.tmp 45)) (ki := .i64) (iz := p) (i := 4) (d := (some 46)) (k := 18) K rfl K K K K aa0 rfl e3 e4 ?_
       exact ⟨rfl, _, Qa hkn, ⟨a9, 0, rfl, rfl⟩⟩
      ·rintro ρ' w' hs hah ⟨⟨am5, -⟩, aa1⟩
       refine kM (kc (kS hs 6 (pt a9 0)) (kc (kA hah 17 45) k0)) fun hkn => ?_
       refine Qg (e := (Qc .u32)) (l := a1) (m := 64) (g := a9) (T := 135) (E := 111) (x := (.tmp 6)) (ix := (.tmp 45)) (ki := .i64) (iz := p) (i := 4) (d := (some 46)) (k := 18) K rfl K K K K aa1 rfl e3 e4 ?_
       exact ⟨rfl, _, Qa hkn, ⟨a9, 0, rfl, rfl⟩⟩
     ·refine Owe.light K [0, 1] K (Qd ?_ (Qd ?_ Q4))
      ·rintro ρ' w' hs hah ⟨am6, aa2⟩
       obtain ⟨aa3, aa4, aa5, g0⟩ := hah 18 46 K
       refine kM (kc g0 k0) fun hkn => ?_
       refine sC 111 46 aa3 (aa4 + Int.toNat p * (Qc .u32).sz) (.int .u32 b0) 47 (Qh (e := (Qc .u32)) (Qe (Qu (SP.get aa2 (i := 4) rfl)) aa5 e3 e4) j0 (j := 0) rfl) ?_
       exact eK hkn
      ·rintro ρ' w' hs hah ⟨⟨am7, -⟩, aa6⟩
       obtain ⟨aa7, aa8, aa9, g0⟩ := hah 18 46 K
       refine kM (kc g0 k0) fun hkn => ?_
       refine sC 111 46 aa7 (aa8 + Int.toNat p * (Qc .u32).sz) (.int .u32 b0) 47 (Qh (e := (Qc .u32)) (Qe (Qu (SP.get aa6 (i := 4) rfl)) aa9 e3 e4) j0 (j := 0) rfl) ?_
       exact eK hkn
     ·exact oV (hC (hA 16 44) (hC (hA 19 47) (h0))) (.int .u32 (IntKind.wrap .u32 ((IntKind.wrap .u32 ((IntKind.wrap .u32 (a6 + a7)) + (V0 .u32 a8 (V7 .u32 f (V0 .u32 a4 a5))))) + b0)))
     ·exact oV (hC (hS 7 (.int .i64 p)) (h0)) (.int .i64 p)
     ·refine Owe.light K [0, 1] K (Qd ?_ (Qd ?_ Q4))
      ·rintro ρ' w' hs hah ⟨am8, ab0⟩
       refine kM (kc (kS hs 3 (pt g9 0)) (kc (kA hah 21 49) k0)) fun hkn => ?_
       refine Qg (e := (Qc .u32)) (l := p3) (m := 64) (g := g9) (T := 135) (E := 111) (x := (.tmp 3)) (ix := (.tmp 49)) (ki := .i64) (iz := p) (i := 1) (d := (some 50)) (k := 22) K rfl K K K K ab0 rfl e5 e6 ?_
       exact ⟨rfl, _, Qa hkn, ⟨g9, 0, rfl, rfl⟩⟩
      ·rintro ρ' w' hs hah ⟨⟨am9, -⟩, ab1⟩
       refine kM (kc (kS hs 3 (pt g9 0)) (kc (kA hah 21 49) k0)) fun hkn => ?_
       refine Qg (e := (Qc .u32)) (l := p3) (m := 64) (g := g9) (T := 135) (E := 111) (x := (.tmp 3)) (ix := (.tmp 49)) (ki := .i64) (iz := p) (i := 1) (d := (some 50)) (k := 22) K rfl K K K K ab1 rfl e5 e6 ?_
       exact ⟨rfl, _, Qa hkn, ⟨g9, 0, rfl, rfl⟩⟩
     ·refine Owe.light K [0, 1] K (Qd ?_ (Qd ?_ Q4))
      ·rintro ρ' w' hs hah ⟨an0, ab2⟩
       obtain ⟨ab3, ab4, ab5, g1⟩ := hah 22 50 K
       refine kM (kc g1 k0) fun hkn => ?_
       refine sC 111 50 ab3 (ab4 + Int.toNat p * (Qc .u32).sz) (.int .u32 b2) 51 (Qh (e := (Qc .u32)) (Qe (Qu (SP.get ab2 (i := 1) rfl)) ab5 e5 e6) j1 (j := 0) rfl) ?_
       exact eK hkn
      ·rintro ρ' w' hs hah ⟨⟨an1, -⟩, ab6⟩
       obtain ⟨ab7, ab8, ab9, g1⟩ := hah 22 50 K
       refine kM (kc g1 k0) fun hkn => ?_
       refine sC 111 50 ab7 (ab8 + Int.toNat p * (Qc .u32).sz) (.int .u32 b2) 51 (Qh (e := (Qc .u32)) (Qe (Qu (SP.get ab6 (i := 1) rfl)) ab9 e5 e6) j1 (j := 0) rfl) ?_
       exact eK hkn
     ·exact oV (hC (hA 20 48) (hC (hA 23 51) (h0))) (.int .u32 (IntKind.wrap .u32 ((IntKind.wrap .u32 ((IntKind.wrap .u32 ((IntKind.wrap .u32 (a6 + a7)) + (V0 .u32 a8 (V7 .u32 f (V0 .u32 a4 a5))))) + b0)) + b2)))
     ·exact oV (hC (hA 24 52) (h0)) (.int .u32 (IntKind.wrap .u32 ((IntKind.wrap .u32 ((IntKind.wrap .u32 ((IntKind.wrap .u32 (a6 + a7)) + (V0 .u32 a8 (V7 .u32 f (V0 .u32 a4 a5))))) + b0)) + b2)))
     ·rintro ρ' w' hs hf ⟨⟨an2, -⟩, j3⟩
      refine Vh [(2, (pt g5 0)), (3, (pt g9 0)), (4, (pt s 0)), (5, (pt c 0)), (6, (pt a9 0)), (8, (.int .u32 b1)), (9, (.int .u32 a2)), (10, (.int .u32 a3)), (12, (.int .u32 (IntKind.wrap .u32 ((IntKind.wrap .u32 ((IntKind.wrap .u32 ((IntKind.wrap .u32 (a6 + a7)) + (V0 .u32 a8 (V7 .u32 f (V0 .u32 a4 a5))))) + b0)) + b2)))), (17, (.int .i64 p))] ⟨(hs 2 K).trans K, (hs 3 K).trans K, (hs 4 K).trans K, (hs 5 K).trans K, (hs 6 K).trans K, (hs 8 K).trans K, (hs 9 K).trans K, (hs 10 K).trans K, hf 25 12 K, (hs 17 K).trans K, trivial⟩ ?_
      obtain ⟨ac0, ac1⟩ : ∃ x, w' = x := ⟨_, rfl⟩
      rw [ac1] at j3 ⊢
      refine aQ ?_
      refine aR ?_
      refine iR 2 2 [(53, (.int .u32 b1)), (54, (.agg (Qb (Qc .i64) ([2, 13, 22] : List Int)).toArray))] ?_
      obtain ⟨b4, ac2, H⟩ := Qf H
      refine iS 3 ?_
      refine cF 128 #[(.tmp 53), (.tmp 54), (.const (.bool false))] #[111, 168, 4] 55 Tryz.call128 (Y5  b1 ([2, 13, 22] : List Int) false ac0 rfl b4 ac2) ?_
      rintro e an3 ⟨rfl, j4⟩
      refine ⟨_, rfl, ?_⟩
      have ac3 := SP.call j3 j4
      clear j4
      refine iR 11 14 [(56, (.int .u32 b1)), (57, (.int .u32 a2)), (58, (.int .u32 a3)), (59, (.int .u32 (bOr .u32 a2 a3))), (60, (.int .u32 (V7 .u32 b1 (bOr .u32 a2 a3)))), (61, (.int .u32 a2)), (62, (.int .u32 a3)), (63, (.int .u32 (V7 .u32 a2 a3))), (64, (.int .u32 (bOr .u32 (V7 .u32 b1 (bOr .u32 a2 a3)) (V7 .u32 a2 a3)))), (65, (.int .u32 (IntKind.wrap .u32 (b4 + (bOr .u32 (V7 .u32 b1 (bOr .u32 a2 a3)) (V7 .u32 a2 a3)))))), (13, (.int .u32 (IntKind.wrap .u32 (b4 + (bOr .u32 (V7 .u32 b1 (bOr .u32 a2 a3)) (V7 .u32 a2 a3))))))] ?_
      refine iF ?_
      refine aQ ?_
      obtain ⟨e7, e8, e9, H⟩ := Re H
      obtain ⟨d0, hyl1878⟩ : ∃ y, (List.drop (Int.toNat 1) (List.take (Int.toNat ((List.length u : Nat) : Int)) u)) = y := ⟨_, rfl⟩
      rw [hyl1878] at H
      obtain ⟨j5, j6, j7, H⟩ := Re H
      obtain ⟨d1, hyl1882⟩ : ∃ y, (List.drop (Int.toNat 0) (List.take (Int.toNat 7) u)) = y := ⟨_, rfl⟩
      rw [hyl1882] at H
      obtain ⟨b5, hyl1883, H⟩ := Vz H
      have hnl1883 : List.length b5 = List.length u := by rw [← hyl1883]; exact Dn (cut_dl e7 e8 e9 hyl1878)
      refine aG [GEq (.slice (Bo (Qc .u32).sz 8 (Int.toNat 1) (some ⟨c, 0, none⟩)) (List.length d0) (8 - Int.toNat 1)), GEq (.slice (Bo (Qc .u32).sz 8 (Int.toNat 0) (some ⟨c, 0, none⟩)) (List.length d1) (8 - Int.toNat 0)), GEq (.int .i64 (min ((List.length d1 : Nat) : Int) (((List.length d0) : Nat) : Int)))] [2] [sG [] [] [] w0 [Vc 149 (Qc .u32) g5 8 p1, Vc 135 (Qc .u32) g9 64 p3, Vc 149 (Qc .u32) s 8 (List.replicate 8 0), Vc 149 (Qc .u32) c 8 u, Vc 135 (Qc .u32) a9 64 a1], sG [2] [(.int .i64 (min ((List.length d1 : Nat) : Int) (((List.length d0) : Nat) : Int)))] [] w0 [Vc 149 (Qc .u32) g5 8 p1, Vc 135 (Qc .u32) g9 64 p3, Vc 149 (Qc .u32) s 8 (List.replicate 8 0), Vc 149 (Qc .u32) c 8 b5, Vc 135 (Qc .u32) a9 64 a1]] 3 1 ⟨trivial, SP.drew ac3⟩ ?_ ?_
      iterate 3 refine And.intro ?_ ?_
      exact trivial
      ·refine oL 0 ?_
       ·rintro ρ' w' hs hah ⟨an4, ac4⟩
        refine kM (kc (kS hs 5 (pt c 0)) k0) fun hkn => ?_
        refine Rn (e := (Qc .u32)) (l := u) (l' := d0) (m := 8) (g := c) (T := 149) (E := 111) (x := (.tmp 5)) (lo := (some (.const (.int .i64 (1))))) (hi := none) (i := 1) (j := ((List.length u : Nat) : Int)) (q := 3) (d := (some 66)) (k := 0) K rfl K K K ⟨.i64, K⟩ rfl ac4 rfl e7 e8 e9 hyl1878 ?_
        exact eK hkn
      ·refine oL 0 ?_
       ·rintro ρ' w' hs hah ⟨an5, ac5⟩
        refine kM (kc (kS hs 5 (pt c 0)) k0) fun hkn => ?_
        refine Rn (e := (Qc .u32)) (l := u) (l' := d1) (m := 8) (g := c) (T := 149) (E := 111) (x := (.tmp 5)) (lo := none) (hi := (some (.const (.int .i64 (7))))) (i := 0) (j := 7) (q := 3) (d := (some 67)) (k := 1) K rfl K K K rfl ⟨.i64, K⟩ ac5 rfl j5 j6 j7 hyl1882 ?_
        exact eK hkn
      ·refine oH 0 1 ?_
       ·rintro ρ' w' hs hah ⟨an6, g2⟩
        refine kM (kc (kA hah 0 66) (kc (kA hah 1 67) k0)) fun hkn => ?_
        refine Bu (e := (Qc .u32)) (l := u) (y' := d1) (l' := b5) (m := 8) (g := c) (lo := (Int.toNat 1)) (dl := (List.length d0)) (T := 169) (T2 := 169) (E := 111) (x := (.tmp 66)) (y := (.tmp 67)) (i := 3) (A := (Bo (Qc .u32).sz 8 (Int.toNat 1) (some ⟨c, 0, none⟩))) (dc := (8 - Int.toNat 1)) (A2 := (Bo (Qc .u32).sz 8 (Int.toNat 0) (some ⟨c, 0, none⟩))) (c2 := (8 - Int.toNat 0)) (d := (some 68)) (k := 2) K rfl K K K K rfl g2 rfl (cut_hA (e := (Qc .u32)) (Q5 (SP.get g2 (i := 3) rfl)) e7 e8 e9 hyl1878) (cut_dl e7 e8 e9 hyl1878) ((Ck j5 j6 j7 hyl1882) w' (Qu (SP.get g2 (i := 3) rfl))) hyl1883 ?_
        intro ac6 j8 _
        have ac7 : SP [] w0 ac6 [Vc 149 (Qc .u32) g5 8 p1, Vc 135 (Qc .u32) g9 64 p3, Vc 149 (Qc .u32) s 8 (List.replicate 8 0), Vc 149 (Qc .u32) c 8 b5, Vc 135 (Qc .u32) a9 64 a1] := j8
        clear j8
        refine ⟨_, Qa hkn, rfl, ?_⟩
        exact (And.intro (And.intro rfl (trivial)) (ac7))
      ·rintro ρ' w' hs hf ⟨⟨an7, -⟩, d2⟩
       refine Vh [(2, (pt g5 0)), (3, (pt g9 0)), (4, (pt s 0)), (5, (pt c 0)), (6, (pt a9 0)), (12, (.int .u32 (IntKind.wrap .u32 ((IntKind.wrap .u32 ((IntKind.wrap .u32 ((IntKind.wrap .u32 (a6 + a7)) + (V0 .u32 a8 (V7 .u32 f (V0 .u32 a4 a5))))) + b0)) + b2)))), (13, (.int .u32 (IntKind.wrap .u32 (b4 + (bOr .u32 (V7 .u32 b1 (bOr .u32 a2 a3)) (V7 .u32 a2 a3)))))), (17, (.int .i64 p))] ⟨(hs 2 K).trans K, (hs 3 K).trans K, (hs 4 K).trans K, (hs 5 K).trans K, (hs 6 K).trans K, (hs 12 K).trans K, (hs 13 K).trans K, (hs 17 K).trans K, trivial⟩ ?_
       obtain ⟨an8, ac8⟩ : ∃ x, w' = x := ⟨_, rfl⟩
       rw [ac8] at d2 ⊢
       refine aR ?_
       refine iR 3 3 [(69, (.int .u32 (IntKind.wrap .u32 ((IntKind.wrap .u32 ((IntKind.wrap .u32 ((IntKind.wrap .u32 (a6 + a7)) + (V0 .u32 a8 (V7 .u32 f (V0 .u32 a4 a5))))) + b0)) + b2)))), (70, (.int .u32 (IntKind.wrap .u32 (b4 + (bOr .u32 (V7 .u32 b1 (bOr .u32 a2 a3)) (V7 .u32 a2 a3)))))), (71, (.int .u32 (IntKind.wrap .u32 ((IntKind.wrap .u32 ((IntKind.wrap .u32 ((IntKind.wrap .u32 ((IntKind.wrap .u32 (a6 + a7)) + (V0 .u32 a8 (V7 .u32 f (V0 .u32 a4 a5))))) + b0)) + b2)) + (IntKind.wrap .u32 (b4 + (bOr .u32 (V7 .u32 b1 (bOr .u32 a2 a3)) (V7 .u32 a2 a3))))))))] ?_
       obtain ⟨f0, j9, k1, ac9, H⟩ := Qn H
       refine iS 4 ?_
       refine Qg (e := (Qc .u32)) (l := b5) (m := 8) (g := c) (T := 149) (E := 111) (x := (.tmp 5)) (ix := (.const (.int .i64 (4)))) (ki := .i64) (iz := 4) (i := 3) (d := (some 72)) (k := 3) K rfl K K K K d2 rfl j9 k1 ?_
       refine iS 5 ?_
       refine sC 111 72 c (0 + Int.toNat 4 * (Qc .u32).sz) (.int .u32 f0) 73 (Qh (e := (Qc .u32)) (Qe (Qu (SP.get d2 (i := 3) rfl)) rfl j9 k1) ac9 (j := 0) rfl) ?_
       refine iR 2 7 [(74, (.int .u32 (IntKind.wrap .u32 ((IntKind.wrap .u32 ((IntKind.wrap .u32 ((IntKind.wrap .u32 (a6 + a7)) + (V0 .u32 a8 (V7 .u32 f (V0 .u32 a4 a5))))) + b0)) + b2)))), (75, (.int .u32 (IntKind.wrap .u32 (f0 + (IntKind.wrap .u32 ((IntKind.wrap .u32 ((IntKind.wrap .u32 ((IntKind.wrap .u32 (a6 + a7)) + (V0 .u32 a8 (V7 .u32 f (V0 .u32 a4 a5))))) + b0)) + b2))))))] ?_
       obtain ⟨an9, k2, k3, ao0, H⟩ := Qn H
       refine iS 8 ?_
       refine Qg (e := (Qc .u32)) (l := b5) (m := 8) (g := c) (T := 149) (E := 111) (x := (.tmp 5)) (ix := (.const (.int .i64 (0)))) (ki := .i64) (iz := 0) (i := 3) (d := (some 76)) (k := 7) K rfl K K K K d2 rfl k2 k3 ?_
       obtain ⟨f1, hyl1912, H⟩ := Vz H
       have hnl1912 : List.length f1 = List.length b5 := by rw [← hyl1912, List.length_set]
       refine iS 9 ?_
       refine V9 (e := (Qc .u32)) (t := 111) (x := (.tmp 76)) (y := (.tmp 71)) (l := b5) (iz := 0) (m := 8) (g := c) (b := c) (off := 0) (i := 3) (v := (.int .u32 (IntKind.wrap .u32 ((IntKind.wrap .u32 ((IntKind.wrap .u32 ((IntKind.wrap .u32 ((IntKind.wrap .u32 (a6 + a7)) + (V0 .u32 a8 (V7 .u32 f (V0 .u32 a4 a5))))) + b0)) + b2)) + (IntKind.wrap .u32 (b4 + (bOr .u32 (V7 .u32 b1 (bOr .u32 a2 a3)) (V7 .u32 a2 a3)))))))) (x' := (IntKind.wrap .u32 ((IntKind.wrap .u32 ((IntKind.wrap .u32 ((IntKind.wrap .u32 ((IntKind.wrap .u32 (a6 + a7)) + (V0 .u32 a8 (V7 .u32 f (V0 .u32 a4 a5))))) + b0)) + b2)) + (IntKind.wrap .u32 (b4 + (bOr .u32 (V7 .u32 b1 (bOr .u32 a2 a3)) (V7 .u32 a2 a3))))))) (d := none) (k := 8) K rfl rfl K K d2 rfl rfl k3 k2 rfl K ?_
       rw [hyl1912]
       intro ao1 k4
       refine In.known [] trivial ?_
       obtain ⟨ao2, k5, k6, ao3, H⟩ := Qn H
       refine iS 10 ?_
       refine Qg (e := (Qc .u32)) (l := f1) (m := 8) (g := c) (T := 149) (E := 111) (x := (.tmp 5)) (ix := (.const (.int .i64 (4)))) (ki := .i64) (iz := 4) (i := 3) (d := (some 77)) (k := 9) K rfl K K K K k4 rfl k5 k6 ?_
       obtain ⟨k7, hyl1920, H⟩ := Vz H
       have hnl1920 : List.length k7 = List.length f1 := by rw [← hyl1920, List.length_set]
       refine iS 11 ?_
       refine V9 (e := (Qc .u32)) (t := 111) (x := (.tmp 77)) (y := (.tmp 75)) (l := f1) (iz := 4) (m := 8) (g := c) (b := c) (off := 0) (i := 3) (v := (.int .u32 (IntKind.wrap .u32 (f0 + (IntKind.wrap .u32 ((IntKind.wrap .u32 ((IntKind.wrap .u32 ((IntKind.wrap .u32 (a6 + a7)) + (V0 .u32 a8 (V7 .u32 f (V0 .u32 a4 a5))))) + b0)) + b2)))))) (x' := (IntKind.wrap .u32 (f0 + (IntKind.wrap .u32 ((IntKind.wrap .u32 ((IntKind.wrap .u32 ((IntKind.wrap .u32 (a6 + a7)) + (V0 .u32 a8 (V7 .u32 f (V0 .u32 a4 a5))))) + b0)) + b2))))) (d := none) (k := 10) K rfl rfl K K k4 rfl rfl k6 k5 rfl K ?_
       rw [hyl1920]
       intro ao4 ad0
       refine In.known [] trivial ?_
       refine iF ?_
       refine aR ?_
       refine iR 2 2 [(78, (.int .i64 (IntKind.wrap .i64 (p + 1)))), (17, (.int .i64 (IntKind.wrap .i64 (p + 1))))] ?_
       refine iF ?_
       exact ⟨k7, (IntKind.wrap .i64 (p + 1)), ⟨K, K, K, K, K, K, trivial⟩, SP.sel ad0 [0, 1, 2, 3, 4] rfl rfl, H⟩
   ·have H := cf H f3
    refine At.exit K (id := 0) K ?_
    refine aQ ?_
    refine aQ ?_
    refine aR ?_
    refine iR 1 1 [(79, (.int .i64 0))] ?_
    refine iF ?_
    refine Zj K (id := 2) K ?_
    refine Jk K (fun f5 ρ w => ∃ (b3 : (List Int)) (a0 : Int), V8 ρ [(2, (pt g5 0)), (4, (pt s 0)), (5, (pt c 0)), (79, (.int .i64 a0))] ∧ SP [] w0 w [Vc 149 (Qc .u32) g5 8 p1, Vc 149 (Qc .u32) s 8 (List.replicate 8 0), Vc 149 (Qc .u32) c 8 b3] ∧ Xp (Za p1 p3 a1 f4) p1 f5 b3 a0 = some r) (by rintro ρ w ⟨b3, a0, hk, hs, H⟩; cases H) ?_ Z0 ?_
    ·rintro f5 ρ ao5 ⟨b3, a0, hk, c1, H⟩
     refine At.known [(2, (pt g5 0)), (4, (pt s 0)), (5, (pt c 0)), (79, (.int .i64 a0))] hk ?_
     replace H := (show Yw (Za p1 p3 a1 f4) (Xp (Za p1 p3 a1 f4) p1 f5) p1 b3 a0 = some r from H)
     unfold Yw at H
     have ao6 := Q5 (SP.get c1 (i := 0) rfl)
     have ao7 := Q5 (SP.get c1 (i := 1) rfl)
     have ad1 := Q5 (SP.get c1 (i := 2) rfl)
     refine aQ ?_
     refine aR ?_
     refine iR 1 1 [(80, (.bool (decide (a0 < 8))))] ?_
     refine iF ?_
     refine aQ ?_
     refine Zi K (o := (.tmp 80)) K (b := (decide (a0 < 8))) K (fun g3 => ?_) (fun g3 => ?_)
     ·have H := ct H g3
      refine At.skip K ?_
      refine aQ ?_
      refine Zj K (id := 3) K ?_
      refine aQ ?_
      refine aR ?_
      refine iR 2 2 [(81, (.int .i64 a0)), (14, (.int .i64 a0))] ?_
      refine iF ?_
      obtain ⟨c3, k8, k9, ad2, H⟩ := Qn H
      obtain ⟨c4, l0, l1, ad3, H⟩ := Qn H
      obtain ⟨ao8, l2, l3, ao9, H⟩ := Qn H
      obtain ⟨g4, hyl2109, H⟩ := Vz H
      have hnl2109 : List.length g4 = List.length b3 := by rw [← hyl2109, List.length_set]
      refine aG [GEq (.int .i64 a0), Vs (some ⟨c, 0, none⟩) (Qc .u32).sz a0, GEq (.int .u32 c3), GEq (.int .i64 a0), Vs (some ⟨g5, 0, none⟩) (Qc .u32).sz a0, GEq (.int .u32 c4), GEq (.int .u32 (IntKind.wrap .u32 (c3 + c4))), Vs (some ⟨c, 0, none⟩) (Qc .u32).sz a0, Bq] [8] [sG [] [] [] w0 [Vc 149 (Qc .u32) g5 8 p1, Vc 149 (Qc .u32) s 8 (List.replicate 8 0), Vc 149 (Qc .u32) c 8 b3], sG [8] [undef] [] w0 [Vc 149 (Qc .u32) g5 8 p1, Vc 149 (Qc .u32) s 8 (List.replicate 8 0), Vc 149 (Qc .u32) c 8 g4]] 9 1 ⟨trivial, SP.drew c1⟩ ?_ ?_
      iterate 9 refine And.intro ?_ ?_
      exact trivial
      ·exact oV (hC (hS 14 (.int .i64 a0)) (h0)) (.int .i64 a0)
      ·refine oL 0 ?_
       ·rintro ρ' w' hs hah ⟨ap0, ad4⟩
        refine kM (kc (kS hs 5 (pt c 0)) (kc (kA hah 0 82) k0)) fun hkn => ?_
        refine Qg (e := (Qc .u32)) (l := b3) (m := 8) (g := c) (T := 149) (E := 111) (x := (.tmp 5)) (ix := (.tmp 82)) (ki := .i64) (iz := a0) (i := 2) (d := (some 83)) (k := 1) K rfl K K K K ad4 rfl k8 k9 ?_
        exact ⟨rfl, _, Qa hkn, ⟨c, 0, rfl, rfl⟩⟩
      ·refine oL 0 ?_
       ·rintro ρ' w' hs hah ⟨ap1, ad5⟩
        obtain ⟨ad6, ad7, ad8, e83⟩ := hah 1 83 K
        refine kM (kc e83 k0) fun hkn => ?_
        refine sC 111 83 ad6 (ad7 + Int.toNat a0 * (Qc .u32).sz) (.int .u32 c3) 84 (Qh (e := (Qc .u32)) (Qe (Qu (SP.get ad5 (i := 2) rfl)) ad8 k8 k9) ad2 (j := 0) rfl) ?_
        exact eK hkn
      ·exact oV (hC (hS 14 (.int .i64 a0)) (h0)) (.int .i64 a0)
      ·refine oL 0 ?_
       ·rintro ρ' w' hs hah ⟨ap2, ae0⟩
        refine kM (kc (kS hs 2 (pt g5 0)) (kc (kA hah 3 85) k0)) fun hkn => ?_
        refine Qg (e := (Qc .u32)) (l := p1) (m := 8) (g := g5) (T := 149) (E := 111) (x := (.tmp 2)) (ix := (.tmp 85)) (ki := .i64) (iz := a0) (i := 0) (d := (some 86)) (k := 4) K rfl K K K K ae0 rfl l0 l1 ?_
        exact ⟨rfl, _, Qa hkn, ⟨g5, 0, rfl, rfl⟩⟩
      ·refine oL 0 ?_
       ·rintro ρ' w' hs hah ⟨ap3, ae1⟩
        obtain ⟨ae2, ae3, ae4, e86⟩ := hah 4 86 K
        refine kM (kc e86 k0) fun hkn => ?_
        refine sC 111 86 ae2 (ae3 + Int.toNat a0 * (Qc .u32).sz) (.int .u32 c4) 87 (Qh (e := (Qc .u32)) (Qe (Qu (SP.get ae1 (i := 0) rfl)) ae4 l0 l1) ad3 (j := 0) rfl) ?_
        exact eK hkn
      ·exact oV (hC (hA 2 84) (hC (hA 5 87) (h0))) (.int .u32 (IntKind.wrap .u32 (c3 + c4)))
      ·refine oL 0 ?_
       ·rintro ρ' w' hs hah ⟨ap4, ae6⟩
        refine kM (kc (kS hs 5 (pt c 0)) (kc (kA hah 0 82) k0)) fun hkn => ?_
        refine Qg (e := (Qc .u32)) (l := b3) (m := 8) (g := c) (T := 149) (E := 111) (x := (.tmp 5)) (ix := (.tmp 82)) (ki := .i64) (iz := a0) (i := 2) (d := (some 89)) (k := 7) K rfl K K K K ae6 rfl l2 l3 ?_
        exact ⟨rfl, _, Qa hkn, ⟨c, 0, rfl, rfl⟩⟩
      ·refine oH 0 1 ?_
       ·rintro ρ' w' hs hah ⟨ap5, ae7⟩
        obtain ⟨ae8, ae9, af0, e89⟩ := hah 7 89 K
        refine kM (kc e89 (kc (kA hah 6 88) k0)) fun hkn => ?_
        refine V9 (e := (Qc .u32)) (t := 111) (x := (.tmp 89)) (y := (.tmp 88)) (l := b3) (iz := a0) (m := 8) (g := c) (b := ae8) (off := ae9) (i := 2) (v := (.int .u32 (IntKind.wrap .u32 (c3 + c4)))) (x' := (IntKind.wrap .u32 (c3 + c4))) (d := none) (k := 8) K rfl af0 K K ae7 rfl rfl l3 l2 rfl K ?_
        rw [hyl2109]
        intro ap6 af2
        refine ⟨_, Qa hkn, trivial, ?_⟩
        exact (And.intro (And.intro rfl (trivial)) (af2))
      ·rintro ρ' w' hs hf ⟨⟨ap7, -⟩, l4⟩
       refine Vh [(2, (pt g5 0)), (4, (pt s 0)), (5, (pt c 0)), (79, (.int .i64 a0))] ⟨(hs 2 K).trans K, (hs 4 K).trans K, (hs 5 K).trans K, (hs 79 K).trans K, trivial⟩ ?_
       obtain ⟨ap8, af3⟩ : ∃ x, w' = x := ⟨_, rfl⟩
       rw [af3] at l4 ⊢
       refine aR ?_
       refine iR 2 2 [(90, (.int .i64 (IntKind.wrap .i64 (a0 + 1)))), (79, (.int .i64 (IntKind.wrap .i64 (a0 + 1))))] ?_
       refine iF ?_
       exact ⟨g4, (IntKind.wrap .i64 (a0 + 1)), ⟨K, K, K, K, trivial⟩, SP.sel l4 [0, 1, 2] rfl rfl, H⟩
     ·have H := cf H g3
      refine At.exit K (id := 2) K ?_
      refine aQ ?_
      refine aR ?_
      refine iS 1 ?_
      refine V3 (e := (Qc .u32)) (l := b3) (m := 8) (t := 149) (x := (.tmp 5)) (g := c) (i := 2) (d := (some 91)) (k := 0) K rfl K c1 rfl K K ?_
      refine iS 2 ?_
      refine Q8 (e := (Qc .u32)) (l := (List.replicate 8 0)) (l' := b3) (m := 8) (t := 149) (x := (.tmp 4)) (y := (.tmp 91)) (g := s) (i := 1) (d := none) (k := 1) K rfl K K ad1 c1 rfl K ?_
      intro ap9 l5
      refine iF ?_
      refine At.ret K ?_
      refine ⟨(.agg (Qb (Qc .u32) b3).toArray), Bc K (J7 (e := (Qc .u32)) (l := b3) (a := 4) (t := 149) K (SP.get l5 (i := 1) rfl) K K), ?_⟩
      obtain rfl := Qm H
      exact ⟨rfl, SP.sel l5 [] rfl rfl⟩
    ·exact ⟨u, 0, ⟨K, K, K, K, trivial⟩, SP.sel b9 [0, 2, 3] rfl rfl, H⟩
  ·exact ⟨p1, 0, ⟨K, K, K, K, K, K, trivial⟩, SP.sel h6 [0, 1, 2, 3, 4] rfl rfl, H⟩
def N4 (g : (List Int) → Int → Option ((List UInt8))) (h : (List UInt8) → Int → Option ((List UInt8))) (i : (List Int) → Int → Option ((List UInt8))) (c : (List UInt8) → Int → Option ((List UInt8))) (d : (List Int)) (b : (List UInt8)) (a : Int) : Option ((List UInt8)) :=
  (cond (decide (a < 32)) ((idx d (IntKind.wrap .i64 (Int.tdiv a 4))).bind fun e => ((chk (decide (0 ≤ (IntKind.wrap .i64 (24 - (IntKind.wrap .i64 ((Int.tmod a 4) * 8))))))).bind fun _ => ((idx b a).bind fun j => ((some (List.set b (Int.toNat a) (Rx (IntKind.wrap .u8 (J4 .u32 e (IntKind.wrap .i64 (24 - (IntKind.wrap .i64 ((Int.tmod a 4) * 8))))))))).bind fun f => (c f (IntKind.wrap .i64 (a + 1))))))) (some (b)))
def Us (a : (List Int) → Int → Option ((List UInt8))) (b : (List UInt8) → Int → Option ((List UInt8))) (c : (List Int) → Int → Option ((List UInt8))) (d : (List Int)) : Nat → (List UInt8) → Int → Option ((List UInt8))
  | 0, _, _ => none
  | f + 1, e, g => N4 a b c (Us a b c d f) d e g
def N5 (g : (List Int) → Int → Option ((List UInt8))) (h : (List UInt8) → Int → Option ((List UInt8))) (b : (List Int) → Int → Option ((List UInt8))) (i : Int) (c : (List UInt8)) (d : (List Int)) (a : Int) : Option ((List UInt8)) :=
  (cond (decide (a < i)) ((sub c a ((List.length c : Nat) : Int)).bind fun j => ((Nx j).bind fun e => ((chk (Nat.beq (List.length e) 64)).bind fun _ => ((Yk d e).bind fun f => ((chk (Nat.beq (List.length f) 8)).bind fun _ => (b f (IntKind.wrap .i64 (a + 64)))))))) (Us g h b d Z0 (List.replicate 32 (0 : UInt8)) 0))
def Xt (a : (List Int) → Int → Option ((List UInt8))) (b : (List UInt8) → Int → Option ((List UInt8))) (c : Int) (d : (List UInt8)) : Nat → (List Int) → Int → Option ((List UInt8))
  | 0, _, _ => none
  | f + 1, e, g => N5 a b (Xt a b c d f) c d e g
def N6 (e : (List Int) → Int → Option ((List UInt8))) (d : (List UInt8) → Int → Option ((List UInt8))) (p1 : (List UInt8)) (f : (List Int)) (b : Int) (c : (List UInt8)) (a : Int) : Option ((List UInt8)) :=
  (cond (decide (a < 8)) ((chk (decide (0 ≤ (IntKind.wrap .i64 (8 * a))))).bind fun _ => ((idx c (IntKind.wrap .i64 ((IntKind.wrap .i64 (b - 1)) - a))).bind fun h => ((some (List.set c (Int.toNat (IntKind.wrap .i64 ((IntKind.wrap .i64 (b - 1)) - a))) (Rx (IntKind.wrap .u8 (J4 .u64 (IntKind.wrap .u64 ((IntKind.wrap .u64 ((List.length p1 : Nat) : Int)) * 8)) (IntKind.wrap .i64 (8 * a))))))).bind fun g => (d g (IntKind.wrap .i64 (a + 1)))))) (Xt e d b c Z0 f 0))
def V4 (a : (List Int) → Int → Option ((List UInt8))) (p1 : (List UInt8)) (b : (List Int)) (c : Int) : Nat → (List UInt8) → Int → Option ((List UInt8))
  | 0, _, _ => none
  | f + 1, d, e => N6 a (V4 a p1 b c f) p1 b c d e
def Ut (a : (List Int) → Int → Option ((List UInt8))) (p1 : (List UInt8)) (b : (List Int)) (c : (List UInt8)) (d : Int) : Option ((List UInt8)) :=
  (V4 a p1 b d Z0 c 0)
def N7 (b : (List Int) → Int → Option ((List UInt8))) (p1 : (List UInt8)) (c : (List Int)) (d : Int) : Option ((List UInt8)) :=
  (cond (decide (d < (IntKind.wrap .i64 ((IntKind.wrap .i64 (Int.tdiv ((List.length p1 : Nat) : Int) 64)) * 64)))) ((sub p1 d ((List.length p1 : Nat) : Int)).bind fun i => ((Nx i).bind fun e => ((chk (Nat.beq (List.length e) 64)).bind fun _ => ((Yk c e).bind fun f => ((chk (Nat.beq (List.length f) 8)).bind fun _ => (b f (IntKind.wrap .i64 (d + 64)))))))) ((sub p1 (IntKind.wrap .i64 ((IntKind.wrap .i64 (Int.tdiv ((List.length p1 : Nat) : Int) 64)) * 64)) ((List.length p1 : Nat) : Int)).bind fun a => ((some (cpy (List.replicate 128 (0 : UInt8)) 0 (List.length (List.replicate 128 (0 : UInt8))) a)).bind fun g => ((idx g (min ((List.length a : Nat) : Int) (((List.length (List.replicate 128 (0 : UInt8))) : Nat) : Int))).bind fun j => ((some (List.set g (Int.toNat (min ((List.length a : Nat) : Int) (((List.length (List.replicate 128 (0 : UInt8))) : Nat) : Int))) (128 : UInt8))).bind fun h => (cond (decide ((IntKind.wrap .i64 ((IntKind.wrap .i64 ((min ((List.length a : Nat) : Int) (((List.length (List.replicate 128 (0 : UInt8))) : Nat) : Int)) + 1)) + 8)) > 64)) (Ut b p1 c h 128) (Ut b p1 c h 64)))))))
def Qw (p1 : (List UInt8)) : Nat → (List Int) → Int → Option ((List UInt8))
  | 0, _, _ => none
  | f + 1, a, b => N7  (Qw p1 f) p1 a b
def Gs (p1 : (List UInt8)) : Option ((List UInt8)) :=
  ((Nd ).bind fun z9 => ((chk (Nat.beq (List.length z9) 8)).bind fun _ => (Qw p1 Z0 z9 0)))
set_option maxRecDepth 100000 in
set_option maxHeartbeats 4000000 in
theorem G5 (A2 : Option Addr) (c3 : Nat) (p1 : (List UInt8)) (w0 : World) (c1 : RdT eU8 w0 A2 c3 p1) (r : ((List UInt8))) (H : Gs p1 = some r) :
  Calls Tryz.prog 100 #[(.slice A2 (List.length p1) c3)] w0 (fun e w' => e = .returned (.agg (Qb eU8 r).toArray) ∧ SP [] w0 w' []) := by
 unfold Gs at H
 refine Qv (n := 84) Tryz.func100 K K K ?_
 have h9 := Q1 [] w0
 refine aQ ?_
 refine aR ?_
 refine iS 1 ?_
 refine Qz (e := eU8) (l := (List.replicate 32 (0 : UInt8))) (m := 32) (t := 89) (z := .agg (Qb eU8 (List.replicate 32 (0 : UInt8))).toArray) (d := (some 2)) (k := 0) K rfl K rfl rfl K h9 ?_
 intro g5 w6 i0
 refine iF ?_
 refine aQ ?_
 refine aR ?_
 obtain ⟨z9, i1, H⟩ := Qf H
 obtain ⟨c7, H⟩ := Vv H
 replace c7 := Nat.eq_of_beq_eq_true c7
 refine iS 1 ?_
 refine cF 114 #[] #[] 13 Tryz.call114 (Ro   w6  z9 i1) ?_
 rintro e m3 ⟨rfl, e1⟩
 refine ⟨_, rfl, ?_⟩
 have i2 := SP.call i0 e1
 clear e1
 refine iS 2 ?_
 refine Qz (e := (Qc .u32)) (l := (List.replicate 8 0)) (m := 8) (t := 149) (z := .agg (Qb (Qc .u32) (List.replicate 8 0)).toArray) (d := (some 3)) (k := 1) K rfl K rfl rfl K i2 ?_
 intro f m4 i3
 refine iS 3 ?_
 refine Q8 (e := (Qc .u32)) (l := (List.replicate 8 0)) (l' := z9) (m := 8) (t := 149) (x := (.tmp 3)) (y := (.tmp 13)) (g := f) (i := 1) (d := none) (k := 2) K rfl K K c7 i3 rfl K ?_
 intro m5 i4
 refine iF ?_
 refine aQ ?_
 refine aR ?_
 refine iR 5 5 [(14, (.slice A2 (List.length p1) c3)), (15, (.int .i64 ((List.length p1 : Nat) : Int))), (16, (.int .i64 (IntKind.wrap .i64 (Int.tdiv ((List.length p1 : Nat) : Int) 64)))), (17, (.int .i64 (IntKind.wrap .i64 ((IntKind.wrap .i64 (Int.tdiv ((List.length p1 : Nat) : Int) 64)) * 64)))), (4, (.int .i64 (IntKind.wrap .i64 ((IntKind.wrap .i64 (Int.tdiv ((List.length p1 : Nat) : Int) 64)) * 64))))] ?_
 refine iF ?_
 refine aQ ?_
 refine aQ ?_
 refine aR ?_
 refine iR 1 1 [(5, (.int .i64 0))] ?_
 refine iF ?_
 refine Zj K (id := 0) K ?_
 refine Jk K (fun a1 ρ w => ∃ (u : (List Int)) (a3 : Int), V8 ρ [(0, (.slice A2 (List.length p1) c3)), (2, (pt g5 0)), (3, (pt f 0)), (4, (.int .i64 (IntKind.wrap .i64 ((IntKind.wrap .i64 (Int.tdiv ((List.length p1 : Nat) : Int) 64)) * 64)))), (5, (.int .i64 a3))] ∧ SP [] w0 w [Vc 89 eU8 g5 32 (List.replicate 32 (0 : UInt8)), Vc 149 (Qc .u32) f 8 u] ∧ Qw p1 a1 u a3 = some r) (by rintro ρ w ⟨u, a3, hk, hs, H⟩; cases H) ?_ Z0 ?_
 ·rintro a1 ρ m6 ⟨u, a3, hk, c4, H⟩
  refine At.known [(0, (.slice A2 (List.length p1) c3)), (2, (pt g5 0)), (3, (pt f 0)), (4, (.int .i64 (IntKind.wrap .i64 ((IntKind.wrap .i64 (Int.tdiv ((List.length p1 : Nat) : Int) 64)) * 64)))), (5, (.int .i64 a3))] hk ?_
  replace H := (show N7 (Qw p1 a1) p1 u a3 = some r from H)
  unfold N7 at H
  have m7 := Q5 (SP.get c4 (i := 0) rfl)
  have i5 := Q5 (SP.get c4 (i := 1) rfl)
  refine aQ ?_
  refine aQ ?_
  refine aR ?_
  refine iR 3 3 [(18, (.int .i64 a3)), (19, (.int .i64 (IntKind.wrap .i64 ((IntKind.wrap .i64 (Int.tdiv ((List.length p1 : Nat) : Int) 64)) * 64)))), (20, (.bool (decide (a3 < (IntKind.wrap .i64 ((IntKind.wrap .i64 (Int.tdiv ((List.length p1 : Nat) : Int) 64)) * 64))))))] ?_
  refine iF ?_
  refine Zi K (o := (.tmp 20)) K (b := (decide (a3 < (IntKind.wrap .i64 ((IntKind.wrap .i64 (Int.tdiv ((List.length p1 : Nat) : Int) 64)) * 64))))) K (fun c8 => ?_) (fun c8 => ?_)
  ·have H := ct H c8
   refine At.skip K ?_
   refine aQ ?_
   refine Zj K (id := 1) K ?_
   obtain ⟨e2, e3, e4, H⟩ := Re H
   obtain ⟨c9, hyl8928⟩ : ∃ y, (List.drop (Int.toNat a3) (List.take (Int.toNat ((List.length p1 : Nat) : Int)) p1)) = y := ⟨_, rfl⟩
   rw [hyl8928] at H
   obtain ⟨b3, i6, H⟩ := Qf H
   obtain ⟨d0, H⟩ := Vv H
   replace d0 := Nat.eq_of_beq_eq_true d0
   obtain ⟨b1, i7, H⟩ := Qf H
   obtain ⟨d1, H⟩ := Vv H
   replace d1 := Nat.eq_of_beq_eq_true d1
   refine aG [GEq (.agg (Qb (Qc .u32) u).toArray), GEq (.slice A2 (List.length p1) c3), GEq (.int .i64 a3), GEq (.slice (Bo eU8.sz c3 (Int.toNat a3) A2) (List.length c9) (c3 - Int.toNat a3)), GEq (.agg (Qb (Qc .u32) b3).toArray), GEq (.agg (Qb (Qc .u32) b1).toArray), Bq] [4, 5, 6] [sG [] [] [] w0 [Vc 89 eU8 g5 32 (List.replicate 32 (0 : UInt8)), Vc 149 (Qc .u32) f 8 u], sG [4] [(.agg (Qb (Qc .u32) b3).toArray)] [] w0 [Vc 89 eU8 g5 32 (List.replicate 32 (0 : UInt8)), Vc 149 (Qc .u32) f 8 u], sG [4, 5] [(.agg (Qb (Qc .u32) b3).toArray), (.agg (Qb (Qc .u32) b1).toArray)] [] w0 [Vc 89 eU8 g5 32 (List.replicate 32 (0 : UInt8)), Vc 149 (Qc .u32) f 8 u], sG [4, 5, 6] [(.agg (Qb (Qc .u32) b3).toArray), (.agg (Qb (Qc .u32) b1).toArray), undef] [] w0 [Vc 89 eU8 g5 32 (List.replicate 32 (0 : UInt8)), Vc 149 (Qc .u32) f 8 b1]] 7 3 ⟨trivial, SP.drew c4⟩ ?_ ?_
   iterate 7 refine And.intro ?_ ?_
   exact trivial
   ·refine Owe.light K [0, 1] K (Qd ?_ (Qd ?_ Q4))
    ·rintro ρ' w' hs hah ⟨m8, i8⟩
     refine kM (kc (kS hs 3 (pt f 0)) k0) fun hkn => ?_
     refine V3 (e := (Qc .u32)) (l := u) (m := 8) (t := 149) (x := (.tmp 3)) (g := f) (i := 1) (d := (some 23)) (k := 0) K rfl K i8 rfl K K ?_
     exact eK hkn
    ·rintro ρ' w' hs hah ⟨⟨m9, -⟩, i9⟩
     refine kM (kc (kS hs 3 (pt f 0)) k0) fun hkn => ?_
     refine V3 (e := (Qc .u32)) (l := u) (m := 8) (t := 149) (x := (.tmp 3)) (g := f) (i := 1) (d := (some 23)) (k := 0) K rfl K i9 rfl K K ?_
     exact eK hkn
   ·exact oV (hC (hS 0 (.slice A2 (List.length p1) c3)) (h0)) (.slice A2 (List.length p1) c3)
   ·exact oV (hC (hS 5 (.int .i64 a3)) (h0)) (.int .i64 a3)
   ·refine oL 0 ?_
    ·rintro ρ' w' hs hah ⟨n0, j0⟩
     refine kM (kc (kA hah 1 24) (kc (kA hah 2 25) k0)) fun hkn => ?_
     refine Ri (e := eU8) (l := p1) (m := c9) (A := A2) (c := c3) (T := 52) (E := 5) (x := (.tmp 24)) (lo := (some (.tmp 25))) (hi := none) (i := a3) (j := ((List.length p1 : Nat) : Int)) (d := (some 26)) (k := 3) K rfl K K K ⟨.i64, K⟩ rfl (RdX.le (RdT.sp c1 j0)) e2 e3 e4 hyl8928 ?_
     exact eK hkn
   ·refine oH 0 1 ?_
    ·rintro ρ' w' hs hah ⟨n1, e5⟩
     refine kM (kc (kA hah 3 26) k0) fun hkn => ?_
     refine cF 116 #[(.tmp 26)] #[52] 27 Tryz.call116 (Gi (Bo eU8.sz c3 (Int.toNat a3) A2) (c3 - Int.toNat a3) c9 w' ((Ck e2 e3 e4 hyl8928) w' (RdT.sp c1 e5)) b3 i6) ?_
     rintro e n2 ⟨rfl, e6⟩
     refine ⟨_, rfl, ?_⟩
     have j1 := SP.call e5 e6
     clear e6
     refine ⟨_, Qa hkn, rfl, ?_⟩
     exact (And.intro (And.intro rfl (trivial)) (j1))
   ·refine oH 1 2 ?_
    ·rintro ρ' w' hs hah ⟨⟨e7, -⟩, j2⟩
     refine kN [(23, (.agg (Qb (Qc .u32) u).toArray)), (27, (.agg (Qb (Qc .u32) b3).toArray))] ⟨hah 0 23 K, (Xk (h := 4) K).symm.trans e7, trivial⟩ fun hkn => ?_
     refine cF 115 #[(.tmp 23), (.tmp 27)] #[149, 135] 28 Tryz.call115 (Ub  u b3 w' i5 d0 b1 i7) ?_
     rintro e n3 ⟨rfl, e8⟩
     refine ⟨_, rfl, ?_⟩
     have j3 := SP.call j2 e8
     clear e8
     refine ⟨_, Qa hkn, rfl, ?_⟩
     exact (And.intro (And.intro e7 (And.intro rfl (trivial))) (j3))
   ·refine oH 2 3 ?_
    ·rintro ρ' w' hs hah ⟨⟨j4, e9, -⟩, j5⟩
     refine kN [(3, (pt f 0)), (28, (.agg (Qb (Qc .u32) b1).toArray))] ⟨(hs 3 K).trans K, (Xk (h := 5) K).symm.trans e9, trivial⟩ fun hkn => ?_
     refine Q8 (e := (Qc .u32)) (l := u) (l' := b1) (m := 8) (t := 149) (x := (.tmp 3)) (y := (.tmp 28)) (g := f) (i := 1) (d := none) (k := 6) K rfl K K d1 j5 rfl K ?_
     intro n4 j6
     refine ⟨_, Qa hkn, trivial, ?_⟩
     exact (And.intro (And.intro j4 (And.intro e9 (And.intro rfl (trivial)))) (j6))
   ·rintro ρ' w' hs hf ⟨⟨n5, n6, n7, -⟩, f0⟩
    refine Vh [(0, (.slice A2 (List.length p1) c3)), (2, (pt g5 0)), (3, (pt f 0)), (4, (.int .i64 (IntKind.wrap .i64 ((IntKind.wrap .i64 (Int.tdiv ((List.length p1 : Nat) : Int) 64)) * 64)))), (5, (.int .i64 a3))] ⟨(hs 0 K).trans K, (hs 2 K).trans K, (hs 3 K).trans K, (hs 4 K).trans K, (hs 5 K).trans K, trivial⟩ ?_
    obtain ⟨n8, j7⟩ : ∃ x, w' = x := ⟨_, rfl⟩
    rw [j7] at f0 ⊢
    refine aR ?_
    refine iR 3 3 [(21, (.int .i64 a3)), (22, (.int .i64 (IntKind.wrap .i64 (a3 + 64)))), (5, (.int .i64 (IntKind.wrap .i64 (a3 + 64))))] ?_
    refine iF ?_
    exact ⟨b1, (IntKind.wrap .i64 (a3 + 64)), ⟨K, K, K, K, K, trivial⟩, SP.sel f0 [0, 1] rfl rfl, H⟩
  ·have H := cf H c8
   refine At.exit K (id := 0) K ?_
   refine aQ ?_
   refine aR ?_
   refine iS 1 ?_
   refine Qz (e := eU8) (l := (List.replicate 128 (0 : UInt8))) (m := 128) (t := 152) (z := .agg (Qb eU8 (List.replicate 128 (0 : UInt8))).toArray) (d := (some 6)) (k := 0) K rfl K rfl rfl K c4 ?_
   intro s n9 j8
   refine iF ?_
   refine aQ ?_
   obtain ⟨f1, f2, f3, H⟩ := Re H
   obtain ⟨a7, hyl9009⟩ : ∃ y, (List.drop (Int.toNat (IntKind.wrap .i64 ((IntKind.wrap .i64 (Int.tdiv ((List.length p1 : Nat) : Int) 64)) * 64))) (List.take (Int.toNat ((List.length p1 : Nat) : Int)) p1)) = y := ⟨_, rfl⟩
   rw [hyl9009] at H
   obtain ⟨b4, hyl9010, H⟩ := Vz H
   have hnl9010 : List.length b4 = List.length (List.replicate 128 (0 : UInt8)) := by rw [← hyl9010]; exact Dn (by omega)
   refine aG [GEq (.slice (some ⟨s, 0, none⟩) (List.length (List.replicate 128 (0 : UInt8))) 128), GEq (.slice A2 (List.length p1) c3), GEq (.int .i64 (IntKind.wrap .i64 ((IntKind.wrap .i64 (Int.tdiv ((List.length p1 : Nat) : Int) 64)) * 64))), GEq (.slice (Bo eU8.sz c3 (Int.toNat (IntKind.wrap .i64 ((IntKind.wrap .i64 (Int.tdiv ((List.length p1 : Nat) : Int) 64)) * 64))) A2) (List.length a7) (c3 - Int.toNat (IntKind.wrap .i64 ((IntKind.wrap .i64 (Int.tdiv ((List.length p1 : Nat) : Int) 64)) * 64)))), GEq (.int .i64 (min ((List.length a7 : Nat) : Int) (((List.length (List.replicate 128 (0 : UInt8))) : Nat) : Int))), GEq (.int .i64 (min ((List.length a7 : Nat) : Int) (((List.length (List.replicate 128 (0 : UInt8))) : Nat) : Int)))] [4] [sG [] [] [] w0 [Vc 89 eU8 g5 32 (List.replicate 32 (0 : UInt8)), Vc 149 (Qc .u32) f 8 u, Vc 152 eU8 s 128 (List.replicate 128 (0 : UInt8))], sG [4] [(.int .i64 (min ((List.length a7 : Nat) : Int) (((List.length (List.replicate 128 (0 : UInt8))) : Nat) : Int)))] [] w0 [Vc 89 eU8 g5 32 (List.replicate 32 (0 : UInt8)), Vc 149 (Qc .u32) f 8 u, Vc 152 eU8 s 128 b4]] 6 1 ⟨trivial, SP.drew j8⟩ ?_ ?_
   iterate 6 refine And.intro ?_ ?_
   exact trivial
   ·refine oL 0 ?_
    ·rintro ρ' w' hs hah ⟨o0, j9⟩
     refine kM (kc (kS hs 6 (pt s 0)) k0) fun hkn => ?_
     refine X1 (e := eU8) (l := (List.replicate 128 (0 : UInt8))) (m := 128) (g := s) (T := 152) (E := 5) (x := (.tmp 6)) (q := 2) (d := (some 29)) (k := 0) K rfl K K K j9 rfl ?_
     exact eK hkn
   ·exact oV (hC (hS 0 (.slice A2 (List.length p1) c3)) (h0)) (.slice A2 (List.length p1) c3)
   ·exact oV (hC (hS 4 (.int .i64 (IntKind.wrap .i64 ((IntKind.wrap .i64 (Int.tdiv ((List.length p1 : Nat) : Int) 64)) * 64)))) (h0)) (.int .i64 (IntKind.wrap .i64 ((IntKind.wrap .i64 (Int.tdiv ((List.length p1 : Nat) : Int) 64)) * 64)))
   ·refine oL 0 ?_
    ·rintro ρ' w' hs hah ⟨o1, k1⟩
     refine kM (kc (kA hah 1 30) (kc (kA hah 2 31) k0)) fun hkn => ?_
     refine Ri (e := eU8) (l := p1) (m := a7) (A := A2) (c := c3) (T := 52) (E := 5) (x := (.tmp 30)) (lo := (some (.tmp 31))) (hi := none) (i := (IntKind.wrap .i64 ((IntKind.wrap .i64 (Int.tdiv ((List.length p1 : Nat) : Int) 64)) * 64))) (j := ((List.length p1 : Nat) : Int)) (d := (some 32)) (k := 3) K rfl K K K ⟨.i64, K⟩ rfl (RdX.le (RdT.sp c1 k1)) f1 f2 f3 hyl9009 ?_
     exact eK hkn
   ·refine oH 0 1 ?_
    ·rintro ρ' w' hs hah ⟨o2, f4⟩
     refine kM (kc (kA hah 0 29) (kc (kA hah 3 32) k0)) fun hkn => ?_
     refine Bu (e := eU8) (l := (List.replicate 128 (0 : UInt8))) (y' := a7) (l' := b4) (m := 128) (g := s) (lo := 0) (dl := (List.length (List.replicate 128 (0 : UInt8)))) (T := 52) (T2 := 52) (E := 5) (x := (.tmp 29)) (y := (.tmp 32)) (i := 2) (A := (some ⟨s, 0, none⟩)) (dc := 128) (A2 := (Bo eU8.sz c3 (Int.toNat (IntKind.wrap .i64 ((IntKind.wrap .i64 (Int.tdiv ((List.length p1 : Nat) : Int) 64)) * 64))) A2)) (c2 := (c3 - Int.toNat (IntKind.wrap .i64 ((IntKind.wrap .i64 (Int.tdiv ((List.length p1 : Nat) : Int) 64)) * 64)))) (d := (some 33)) (k := 4) K rfl K K K K rfl f4 rfl (Eb) (by omega) ((Ck f1 f2 f3 hyl9009) w' (RdT.sp c1 f4)) hyl9010 ?_
     intro k2 f5 _
     have k3 : SP [] w0 k2 [Vc 89 eU8 g5 32 (List.replicate 32 (0 : UInt8)), Vc 149 (Qc .u32) f 8 u, Vc 152 eU8 s 128 b4] := f5
     clear f5
     refine ⟨_, Qa hkn, rfl, ?_⟩
     exact (And.intro (And.intro rfl (trivial)) (k3))
   ·exact oV (hC (hA 4 33) (h0)) (.int .i64 (min ((List.length a7 : Nat) : Int) (((List.length (List.replicate 128 (0 : UInt8))) : Nat) : Int)))
   ·rintro ρ' w' hs hf ⟨⟨o3, -⟩, d2⟩
    refine Vh [(0, (.slice A2 (List.length p1) c3)), (2, (pt g5 0)), (3, (pt f 0)), (6, (pt s 0)), (7, (.int .i64 (min ((List.length a7 : Nat) : Int) (((List.length (List.replicate 128 (0 : UInt8))) : Nat) : Int))))] ⟨(hs 0 K).trans K, (hs 2 K).trans K, (hs 3 K).trans K, (hs 6 K).trans K, hf 5 7 K, trivial⟩ ?_
    obtain ⟨o4, k4⟩ : ∃ x, w' = x := ⟨_, rfl⟩
    rw [k4] at d2 ⊢
    refine aQ ?_
    refine aR ?_
    refine iR 1 1 [(34, (.int .i64 (min ((List.length a7 : Nat) : Int) (((List.length (List.replicate 128 (0 : UInt8))) : Nat) : Int))))] ?_
    obtain ⟨o5, f6, f7, o6, H⟩ := Qn H
    refine iS 2 ?_
    refine Qg (e := eU8) (l := b4) (m := 128) (g := s) (T := 152) (E := 5) (x := (.tmp 6)) (ix := (.tmp 34)) (ki := .i64) (iz := (min ((List.length a7 : Nat) : Int) (((List.length (List.replicate 128 (0 : UInt8))) : Nat) : Int))) (i := 2) (d := (some 35)) (k := 1) K rfl K K K K d2 rfl f6 f7 ?_
    obtain ⟨c5, hyl9035, H⟩ := Vz H
    have hnl9035 : List.length c5 = List.length b4 := by rw [← hyl9035, List.length_set]
    refine iS 3 ?_
    refine V9 (e := eU8) (t := 5) (x := (.tmp 35)) (y := (.const (.int .u8 (128)))) (l := b4) (iz := (min ((List.length a7 : Nat) : Int) (((List.length (List.replicate 128 (0 : UInt8))) : Nat) : Int))) (m := 128) (g := s) (b := s) (off := 0) (i := 2) (v := (.int .u8 128)) (x' := (128 : UInt8)) (d := none) (k := 2) K rfl rfl K K d2 rfl rfl f7 f6 rfl K ?_
    rw [hyl9035]
    intro o7 f8
    refine In.known [] trivial ?_
    refine iF ?_
    refine aQ ?_
    refine aR ?_
    refine iR 1 1 [(8, (.int .i64 64))] ?_
    refine iF ?_
    refine aQ ?_
    refine aQ ?_
    refine aR ?_
    refine iR 4 4 [(36, (.int .i64 (min ((List.length a7 : Nat) : Int) (((List.length (List.replicate 128 (0 : UInt8))) : Nat) : Int)))), (37, (.int .i64 (IntKind.wrap .i64 ((min ((List.length a7 : Nat) : Int) (((List.length (List.replicate 128 (0 : UInt8))) : Nat) : Int)) + 1)))), (38, (.int .i64 (IntKind.wrap .i64 ((IntKind.wrap .i64 ((min ((List.length a7 : Nat) : Int) (((List.length (List.replicate 128 (0 : UInt8))) : Nat) : Int)) + 1)) + 8)))), (39, (.bool (decide ((IntKind.wrap .i64 ((IntKind.wrap .i64 ((min ((List.length a7 : Nat) : Int) (((List.length (List.replicate 128 (0 : UInt8))) : Nat) : Int)) + 1)) + 8)) > 64))))] ?_
    refine iF ?_
    refine At.join (fun ρ w => ∃ (p : Int), V8 ρ [(0, (.slice A2 (List.length p1) c3)), (2, (pt g5 0)), (3, (pt f 0)), (6, (pt s 0)), (8, (.int .i64 p))] ∧ SP [] w0 w [Vc 89 eU8 g5 32 (List.replicate 32 (0 : UInt8)), Vc 149 (Qc .u32) f 8 u, Vc 152 eU8 s 128 c5] ∧ Ut (Qw p1 a1) p1 u c5 p = some r) ?_ ?_
    ·refine Zi K (o := (.tmp 39)) K (b := (decide ((IntKind.wrap .i64 ((IntKind.wrap .i64 ((min ((List.length a7 : Nat) : Int) (((List.length (List.replicate 128 (0 : UInt8))) : Nat) : Int)) + 1)) + 8)) > 64))) K (fun d3 => ?_) (fun d3 => ?_)
     ·have H := ct H d3
      refine aR ?_
      refine iR 1 1 [(8, (.int .i64 128))] ?_
      refine iF ?_
      exact ⟨128, ⟨K, K, K, K, K, trivial⟩, SP.sel f8 [0, 1, 2] rfl rfl, H⟩
     ·have H := cf H d3
      refine At.skip K ?_
      exact ⟨64, ⟨K, K, K, K, K, trivial⟩, SP.sel f8 [0, 1, 2] rfl rfl, H⟩
    ·rintro ρ o8 ⟨p, hk, c6, H⟩
     unfold Ut at H
     first | refine At.known [(0, (.slice A2 (List.length p1) c3)), (2, (pt g5 0)), (3, (pt f 0)), (6, (pt s 0)), (8, (.int .i64 p))] hk ?_ | rw [← Va (l := [(0, (.slice A2 (List.length p1) c3)), (2, (pt g5 0)), (3, (pt f 0)), (6, (pt s 0)), (8, (.int .i64 p))]) hk]
     have o9 := Q5 (SP.get c6 (i := 0) rfl)
     have p0 := Q5 (SP.get c6 (i := 1) rfl)
     have p2 := Q5 (SP.get c6 (i := 2) rfl)
     refine aQ ?_
     refine aQ ?_
     refine aR ?_
     refine iR 1 1 [(40, (.int .i64 0))] ?_
     refine iF ?_
     refine Zj K (id := 2) K ?_
     refine Jk K (fun a8 ρ w => ∃ (a4 : (List UInt8)) (a2 : Int), V8 ρ [(0, (.slice A2 (List.length p1) c3)), (2, (pt g5 0)), (3, (pt f 0)), (6, (pt s 0)), (8, (.int .i64 p)), (40, (.int .i64 a2))] ∧ SP [] w0 w [Vc 89 eU8 g5 32 (List.replicate 32 (0 : UInt8)), Vc 149 (Qc .u32) f 8 u, Vc 152 eU8 s 128 a4] ∧ V4 (Qw p1 a1) p1 u p a8 a4 a2 = some r) (by rintro ρ w ⟨a4, a2, hk, hs, H⟩; cases H) ?_ Z0 ?_
     ·rintro a8 ρ p3 ⟨a4, a2, hk, b8, H⟩
      refine At.known [(0, (.slice A2 (List.length p1) c3)), (2, (pt g5 0)), (3, (pt f 0)), (6, (pt s 0)), (8, (.int .i64 p)), (40, (.int .i64 a2))] hk ?_
      replace H := (show N6 (Qw p1 a1) (V4 (Qw p1 a1) p1 u p a8) p1 u p a4 a2 = some r from H)
      unfold N6 at H
      have p4 := Q5 (SP.get b8 (i := 0) rfl)
      have p5 := Q5 (SP.get b8 (i := 1) rfl)
      have p6 := Q5 (SP.get b8 (i := 2) rfl)
      refine aQ ?_
      refine aR ?_
      refine iR 1 1 [(41, (.bool (decide (a2 < 8))))] ?_
      refine iF ?_
      refine aQ ?_
      refine Zi K (o := (.tmp 41)) K (b := (decide (a2 < 8))) K (fun d4 => ?_) (fun d4 => ?_)
      ·have H := ct H d4
       refine At.skip K ?_
       refine aQ ?_
       refine Zj K (id := 3) K ?_
       refine aQ ?_
       refine aR ?_
       refine iR 2 2 [(42, (.int .i64 a2)), (9, (.int .i64 a2))] ?_
       refine iF ?_
       refine aR ?_
       refine iR 10 10 [(43, (.int .i64 p)), (44, (.int .i64 (IntKind.wrap .i64 (p - 1)))), (45, (.int .i64 a2)), (46, (.int .i64 (IntKind.wrap .i64 ((IntKind.wrap .i64 (p - 1)) - a2)))), (47, (.slice A2 (List.length p1) c3)), (48, (.int .i64 ((List.length p1 : Nat) : Int))), (49, (.int .u64 (IntKind.wrap .u64 ((List.length p1 : Nat) : Int)))), (50, (.int .u64 (IntKind.wrap .u64 ((IntKind.wrap .u64 ((List.length p1 : Nat) : Int)) * 8)))), (51, (.int .i64 a2)), (52, (.int .i64 (IntKind.wrap .i64 (8 * a2))))] ?_
       obtain ⟨hl11181, H⟩ := Vv H
       refine iS 11 ?_
       refine Qj.shift (op := .shr) (T := 153) (T' := 3) (x := (.tmp 50)) (y := (.tmp 52)) (kx := .u64) (ky := .i64) (a := (IntKind.wrap .u64 ((IntKind.wrap .u64 ((List.length p1 : Nat) : Int)) * 8))) (b := (IntKind.wrap .i64 (8 * a2))) (v := (.int .u64 (J4 .u64 (IntKind.wrap .u64 ((IntKind.wrap .u64 ((List.length p1 : Nat) : Int)) * 8)) (IntKind.wrap .i64 (8 * a2))))) (d := (some 53)) (k := 10) K rfl K K (of_decide_eq_true hl11181) rfl ?_
       refine iR 1 12 [(54, (.int .u8 (IntKind.wrap .u8 (J4 .u64 (IntKind.wrap .u64 ((IntKind.wrap .u64 ((List.length p1 : Nat) : Int)) * 8)) (IntKind.wrap .i64 (8 * a2))))))] ?_
       obtain ⟨p7, f9, g0, p8, H⟩ := Qn H
       refine iS 13 ?_
       refine Qg (e := eU8) (l := a4) (m := 128) (g := s) (T := 152) (E := 5) (x := (.tmp 6)) (ix := (.tmp 46)) (ki := .i64) (iz := (IntKind.wrap .i64 ((IntKind.wrap .i64 (p - 1)) - a2))) (i := 2) (d := (some 55)) (k := 12) K rfl K K K K b8 rfl f9 g0 ?_
       obtain ⟨g1, hyl11186, H⟩ := Vz H
       have hnl11186 : List.length g1 = List.length a4 := by rw [← hyl11186, List.length_set]
       refine iS 14 ?_
       refine V9 (e := eU8) (t := 5) (x := (.tmp 55)) (y := (.tmp 54)) (l := a4) (iz := (IntKind.wrap .i64 ((IntKind.wrap .i64 (p - 1)) - a2))) (m := 128) (g := s) (b := s) (off := 0) (i := 2) (v := (.int .u8 (IntKind.wrap .u8 (J4 .u64 (IntKind.wrap .u64 ((IntKind.wrap .u64 ((List.length p1 : Nat) : Int)) * 8)) (IntKind.wrap .i64 (8 * a2)))))) (x' := (Rx (IntKind.wrap .u8 (J4 .u64 (IntKind.wrap .u64 ((IntKind.wrap .u64 ((List.length p1 : Nat) : Int)) * 8)) (IntKind.wrap .i64 (8 * a2)))))) (d := none) (k := 13) K rfl rfl K K b8 rfl rfl g0 f9 (by show [Value.int .u8 (((Rx (IntKind.wrap .u8 (J4 .u64 (IntKind.wrap .u64 ((IntKind.wrap .u64 ((List.length p1 : Nat) : Int)) * 8)) (IntKind.wrap .i64 (8 * a2)))))).toNat : Int)] = _; rw [Gg (R8 _)]) K ?_
       rw [hyl11186]
       intro p9 k5
       refine In.known [] trivial ?_
       refine iF ?_
       refine aR ?_
       refine iR 2 2 [(56, (.int .i64 (IntKind.wrap .i64 (a2 + 1)))), (40, (.int .i64 (IntKind.wrap .i64 (a2 + 1))))] ?_
       refine iF ?_
       exact ⟨g1, (IntKind.wrap .i64 (a2 + 1)), ⟨K, K, K, K, K, K, trivial⟩, SP.sel k5 [0, 1, 2] rfl rfl, H⟩
      ·have H := cf H d4
       refine At.exit K (id := 2) K ?_
       refine aQ ?_
       refine aQ ?_
       refine aR ?_
       refine iR 1 1 [(10, (.int .i64 0))] ?_
       refine iF ?_
       refine Zj K (id := 4) K ?_
       refine Jk K (fun b9 ρ w => ∃ (a6 : (List Int)) (a5 : Int), V8 ρ [(2, (pt g5 0)), (3, (pt f 0)), (6, (pt s 0)), (8, (.int .i64 p)), (10, (.int .i64 a5))] ∧ SP [] w0 w [Vc 89 eU8 g5 32 (List.replicate 32 (0 : UInt8)), Vc 149 (Qc .u32) f 8 a6, Vc 152 eU8 s 128 a4] ∧ Xt (Qw p1 a1) (V4 (Qw p1 a1) p1 u p a8) p a4 b9 a6 a5 = some r) (by rintro ρ w ⟨a6, a5, hk, hs, H⟩; cases H) ?_ Z0 ?_
       ·rintro b9 ρ q0 ⟨a6, a5, hk, c0, H⟩
        refine At.known [(2, (pt g5 0)), (3, (pt f 0)), (6, (pt s 0)), (8, (.int .i64 p)), (10, (.int .i64 a5))] hk ?_
        replace H := (show N5 (Qw p1 a1) (V4 (Qw p1 a1) p1 u p a8) (Xt (Qw p1 a1) (V4 (Qw p1 a1) p1 u p a8) p a4 b9) p a4 a6 a5 = some r from H)
        unfold N5 at H
        have q1 := Q5 (SP.get c0 (i := 0) rfl)
        have k6 := Q5 (SP.get c0 (i := 1) rfl)
        have q2 := Q5 (SP.get c0 (i := 2) rfl)
        refine aQ ?_
        refine aQ ?_
        refine aR ?_
        refine iR 3 3 [(57, (.int .i64 a5)), (58, (.int .i64 p)), (59, (.bool (decide (a5 < p))))] ?_
        refine iF ?_
        refine Zi K (o := (.tmp 59)) K (b := (decide (a5 < p))) K (fun d5 => ?_) (fun d5 => ?_)
        ·have H := ct H d5
         refine At.skip K ?_
         refine aQ ?_
         refine Zj K (id := 5) K ?_
         obtain ⟨g2, g3, g4, H⟩ := Re H
         obtain ⟨d6, hyl11720⟩ : ∃ y, (List.drop (Int.toNat a5) (List.take (Int.toNat ((List.length a4 : Nat) : Int)) a4)) = y := ⟨_, rfl⟩
         rw [hyl11720] at H
         obtain ⟨b5, k7, H⟩ := Qf H
         obtain ⟨d7, H⟩ := Vv H
         replace d7 := Nat.eq_of_beq_eq_true d7
         obtain ⟨b2, k8, H⟩ := Qf H
         obtain ⟨d8, H⟩ := Vv H
         replace d8 := Nat.eq_of_beq_eq_true d8
         refine aG [GEq (.agg (Qb (Qc .u32) a6).toArray), GEq (.int .i64 a5), GEq (.slice (Bo eU8.sz 128 (Int.toNat a5) (some ⟨s, 0, none⟩)) (List.length d6) (128 - Int.toNat a5)), GEq (.agg (Qb (Qc .u32) b5).toArray), GEq (.agg (Qb (Qc .u32) b2).toArray), Bq] [3, 4, 5] [sG [] [] [] w0 [Vc 89 eU8 g5 32 (List.replicate 32 (0 : UInt8)), Vc 149 (Qc .u32) f 8 a6, Vc 152 eU8 s 128 a4], sG [3] [(.agg (Qb (Qc .u32) b5).toArray)] [] w0 [Vc 89 eU8 g5 32 (List.replicate 32 (0 : UInt8)), Vc 149 (Qc .u32) f 8 a6, Vc 152 eU8 s 128 a4], sG [3, 4] [(.agg (Qb (Qc .u32) b5).toArray), (.agg (Qb (Qc .u32) b2).toArray)] [] w0 [Vc 89 eU8 g5 32 (List.replicate 32 (0 : UInt8)), Vc 149 (Qc .u32) f 8 a6, Vc 152 eU8 s 128 a4], sG [3, 4, 5] [(.agg (Qb (Qc .u32) b5).toArray), (.agg (Qb (Qc .u32) b2).toArray), undef] [] w0 [Vc 89 eU8 g5 32 (List.replicate 32 (0 : UInt8)), Vc 149 (Qc .u32) f 8 b2, Vc 152 eU8 s 128 a4]] 6 3 ⟨trivial, SP.drew c0⟩ ?_ ?_
         iterate 6 refine And.intro ?_ ?_
         exact trivial
         ·refine Owe.light K [0, 1] K (Qd ?_ (Qd ?_ Q4))
          ·rintro ρ' w' hs hah ⟨q3, k9⟩
           refine kM (kc (kS hs 3 (pt f 0)) k0) fun hkn => ?_
           refine V3 (e := (Qc .u32)) (l := a6) (m := 8) (t := 149) (x := (.tmp 3)) (g := f) (i := 1) (d := (some 62)) (k := 0) K rfl K k9 rfl K K ?_
           exact eK hkn
          ·rintro ρ' w' hs hah ⟨⟨q4, -⟩, l0⟩
           refine kM (kc (kS hs 3 (pt f 0)) k0) fun hkn => ?_
           refine V3 (e := (Qc .u32)) (l := a6) (m := 8) (t := 149) (x := (.tmp 3)) (g := f) (i := 1) (d := (some 62)) (k := 0) K rfl K l0 rfl K K ?_
           exact eK hkn
         ·exact oV (hC (hS 10 (.int .i64 a5)) (h0)) (.int .i64 a5)
         ·refine oL 0 ?_
          ·rintro ρ' w' hs hah ⟨q5, l1⟩
           refine kM (kc (kS hs 6 (pt s 0)) (kc (kA hah 1 63) k0)) fun hkn => ?_
           refine Rn (e := eU8) (l := a4) (l' := d6) (m := 128) (g := s) (T := 152) (E := 5) (x := (.tmp 6)) (lo := (some (.tmp 63))) (hi := none) (i := a5) (j := ((List.length a4 : Nat) : Int)) (q := 2) (d := (some 64)) (k := 2) K rfl K K K ⟨.i64, K⟩ rfl l1 rfl g2 g3 g4 hyl11720 ?_
           exact eK hkn
         ·refine oH 0 1 ?_
          ·rintro ρ' w' hs hah ⟨q6, g6⟩
           refine kM (kc (kA hah 2 64) k0) fun hkn => ?_
           refine cF 116 #[(.tmp 64)] #[52] 65 Tryz.call116 (Gi (Bo eU8.sz 128 (Int.toNat a5) (some ⟨s, 0, none⟩)) (128 - Int.toNat a5) d6 w' ((Ck g2 g3 g4 hyl11720) w' (Qu (SP.get g6 (i := 2) rfl))) b5 k7) ?_
           rintro e q7 ⟨rfl, g7⟩
           refine ⟨_, rfl, ?_⟩
           have l2 := SP.call g6 g7
           clear g7
           refine ⟨_, Qa hkn, rfl, ?_⟩
           exact (And.intro (And.intro rfl (trivial)) (l2))
         ·refine oH 1 2 ?_
          ·rintro ρ' w' hs hah ⟨⟨g8, -⟩, l3⟩
           refine kN [(62, (.agg (Qb (Qc .u32) a6).toArray)), (65, (.agg (Qb (Qc .u32) b5).toArray))] ⟨hah 0 62 K, (Xk (h := 3) K).symm.trans g8, trivial⟩ fun hkn => ?_
           refine cF 115 #[(.tmp 62), (.tmp 65)] #[149, 135] 66 Tryz.call115 (Ub  a6 b5 w' k6 d7 b2 k8) ?_
           rintro e q8 ⟨rfl, g9⟩
           refine ⟨_, rfl, ?_⟩
           have l4 := SP.call l3 g9
           clear g9
           refine ⟨_, Qa hkn, rfl, ?_⟩
           exact (And.intro (And.intro g8 (And.intro rfl (trivial))) (l4))
         ·refine oH 2 3 ?_
          ·rintro ρ' w' hs hah ⟨⟨l5, h1, -⟩, l6⟩
           refine kN [(3, (pt f 0)), (66, (.agg (Qb (Qc .u32) b2).toArray))] ⟨(hs 3 K).trans K, (Xk (h := 4) K).symm.trans h1, trivial⟩ fun hkn => ?_
           refine Q8 (e := (Qc .u32)) (l := a6) (l' := b2) (m := 8) (t := 149) (x := (.tmp 3)) (y := (.tmp 66)) (g := f) (i := 1) (d := none) (k := 5) K rfl K K d8 l6 rfl K ?_
           intro q9 l7
           refine ⟨_, Qa hkn, trivial, ?_⟩
           exact (And.intro (And.intro l5 (And.intro h1 (And.intro rfl (trivial)))) (l7))
         ·rintro ρ' w' hs hf ⟨⟨r0, r1, r2, -⟩, h2⟩
          refine Vh [(2, (pt g5 0)), (3, (pt f 0)), (6, (pt s 0)), (8, (.int .i64 p)), (10, (.int .i64 a5))] ⟨(hs 2 K).trans K, (hs 3 K).trans K, (hs 6 K).trans K, (hs 8 K).trans K, (hs 10 K).trans K, trivial⟩ ?_
          obtain ⟨r3, l8⟩ : ∃ x, w' = x := ⟨_, rfl⟩
          rw [l8] at h2 ⊢
          refine aR ?_
          refine iR 3 3 [(60, (.int .i64 a5)), (61, (.int .i64 (IntKind.wrap .i64 (a5 + 64)))), (10, (.int .i64 (IntKind.wrap .i64 (a5 + 64))))] ?_
          refine iF ?_
          exact ⟨b2, (IntKind.wrap .i64 (a5 + 64)), ⟨K, K, K, K, K, trivial⟩, SP.sel h2 [0, 1, 2] rfl rfl, H⟩
        ·have H := cf H d5
         refine At.exit K (id := 4) K ?_
         refine aQ ?_
         refine aR ?_
         refine iS 1 ?_
         refine Qz (e := eU8) (l := (List.replicate 32 (0 : UInt8))) (m := 32) (t := 89) (z := .agg (Qb eU8 (List.replicate 32 (0 : UInt8))).toArray) (d := (some 11)) (k := 0) K rfl K rfl rfl K c0 ?_
         intro b6 r4 l9
         refine iF ?_
         refine aQ ?_
         refine aQ ?_
         refine aR ?_
         refine iR 1 1 [(67, (.int .i64 0))] ?_
         refine iF ?_
         refine Zj K (id := 6) K ?_
         refine Jk K (fun d9 ρ w => ∃ (a9 : (List UInt8)) (a0 : Int), V8 ρ [(2, (pt g5 0)), (3, (pt f 0)), (11, (pt b6 0)), (67, (.int .i64 a0))] ∧ SP [] w0 w [Vc 89 eU8 g5 32 (List.replicate 32 (0 : UInt8)), Vc 149 (Qc .u32) f 8 a6, Vc 89 eU8 b6 32 a9] ∧ Us (Qw p1 a1) (V4 (Qw p1 a1) p1 u p a8) (Xt (Qw p1 a1) (V4 (Qw p1 a1) p1 u p a8) p a4 b9) a6 d9 a9 a0 = some r) (by rintro ρ w ⟨a9, a0, hk, hs, H⟩; cases H) ?_ Z0 ?_
         ·rintro d9 ρ r5 ⟨a9, a0, hk, b0, H⟩
          refine At.known [(2, (pt g5 0)), (3, (pt f 0)), (11, (pt b6 0)), (67, (.int .i64 a0))] hk ?_
          replace H := (show N4 (Qw p1 a1) (V4 (Qw p1 a1) p1 u p a8) (Xt (Qw p1 a1) (V4 (Qw p1 a1) p1 u p a8) p a4 b9) (Us (Qw p1 a1) (V4 (Qw p1 a1) p1 u p a8) (Xt (Qw p1 a1) (V4 (Qw p1 a1) p1 u p a8) p a4 b9) a6 d9) a6 a9 a0 = some r from H)
          unfold N4 at H
          have r6 := Q5 (SP.get b0 (i := 0) rfl)
          have r7 := Q5 (SP.get b0 (i := 1) rfl)
          have m0 := Q5 (SP.get b0 (i := 2) rfl)
          refine aQ ?_
          refine aR ?_
          refine iR 1 1 [(68, (.bool (decide (a0 < 32))))] ?_
          refine iF ?_
          refine aQ ?_
          refine Zi K (o := (.tmp 68)) K (b := (decide (a0 < 32))) K (fun e0 => ?_) (fun e0 => ?_)
          ·have H := ct H e0
           refine At.skip K ?_
           refine aQ ?_
           refine Zj K (id := 7) K ?_
           refine aQ ?_
           refine aR ?_
           refine iR 2 2 [(69, (.int .i64 a0)), (12, (.int .i64 a0))] ?_
           refine iF ?_
           refine aR ?_
           refine iR 3 3 [(70, (.int .i64 a0)), (71, (.int .i64 a0)), (72, (.int .i64 (IntKind.wrap .i64 (Int.tdiv a0 4))))] ?_
           obtain ⟨b7, h3, h4, m1, H⟩ := Qn H
           refine iS 4 ?_
           refine Qg (e := (Qc .u32)) (l := a6) (m := 8) (g := f) (T := 149) (E := 111) (x := (.tmp 3)) (ix := (.tmp 72)) (ki := .i64) (iz := (IntKind.wrap .i64 (Int.tdiv a0 4))) (i := 1) (d := (some 73)) (k := 3) K rfl K K K K b0 rfl h3 h4 ?_
           refine iS 5 ?_
           refine sC 111 73 f (0 + Int.toNat (IntKind.wrap .i64 (Int.tdiv a0 4)) * (Qc .u32).sz) (.int .u32 b7) 74 (Qh (e := (Qc .u32)) (Qe (Qu (SP.get b0 (i := 1) rfl)) rfl h3 h4) m1 (j := 0) rfl) ?_
           refine iR 4 9 [(75, (.int .i64 a0)), (76, (.int .i64 (Int.tmod a0 4))), (77, (.int .i64 (IntKind.wrap .i64 ((Int.tmod a0 4) * 8)))), (78, (.int .i64 (IntKind.wrap .i64 (24 - (IntKind.wrap .i64 ((Int.tmod a0 4) * 8))))))] ?_
           obtain ⟨hl11873, H⟩ := Vv H
           refine iS 10 ?_
           refine Qj.shift (op := .shr) (T := 111) (T' := 3) (x := (.tmp 74)) (y := (.tmp 78)) (kx := .u32) (ky := .i64) (a := b7) (b := (IntKind.wrap .i64 (24 - (IntKind.wrap .i64 ((Int.tmod a0 4) * 8))))) (v := (.int .u32 (J4 .u32 b7 (IntKind.wrap .i64 (24 - (IntKind.wrap .i64 ((Int.tmod a0 4) * 8))))))) (d := (some 79)) (k := 9) K rfl K K (of_decide_eq_true hl11873) rfl ?_
           refine iR 1 11 [(80, (.int .u8 (IntKind.wrap .u8 (J4 .u32 b7 (IntKind.wrap .i64 (24 - (IntKind.wrap .i64 ((Int.tmod a0 4) * 8))))))))] ?_
           obtain ⟨r8, h5, h6, r9, H⟩ := Qn H
           refine iS 12 ?_
           refine Qg (e := eU8) (l := a9) (m := 32) (g := b6) (T := 89) (E := 5) (x := (.tmp 11)) (ix := (.tmp 70)) (ki := .i64) (iz := a0) (i := 2) (d := (some 81)) (k := 11) K rfl K K K K b0 rfl h5 h6 ?_
           obtain ⟨h7, hyl11878, H⟩ := Vz H
           have hnl11878 : List.length h7 = List.length a9 := by rw [← hyl11878, List.length_set]
           refine iS 13 ?_
           refine V9 (e := eU8) (t := 5) (x := (.tmp 81)) (y := (.tmp 80)) (l := a9) (iz := a0) (m := 32) (g := b6) (b := b6) (off := 0) (i := 2) (v := (.int .u8 (IntKind.wrap .u8 (J4 .u32 b7 (IntKind.wrap .i64 (24 - (IntKind.wrap .i64 ((Int.tmod a0 4) * 8)))))))) (x' := (Rx (IntKind.wrap .u8 (J4 .u32 b7 (IntKind.wrap .i64 (24 - (IntKind.wrap .i64 ((Int.tmod a0 4) * 8)))))))) (d := none) (k := 12) K rfl rfl K K b0 rfl rfl h6 h5 (by show [Value.int .u8 (((Rx (IntKind.wrap .u8 (J4 .u32 b7 (IntKind.wrap .i64 (24 - (IntKind.wrap .i64 ((Int.tmod a0 4) * 8)))))))).toNat : Int)] = _; rw [Gg (R8 _)]) K ?_
           rw [hyl11878]
           intro s0 m2
           refine In.known [] trivial ?_
           refine iF ?_
           refine aR ?_
           refine iR 2 2 [(82, (.int .i64 (IntKind.wrap .i64 (a0 + 1)))), (67, (.int .i64 (IntKind.wrap .i64 (a0 + 1))))] ?_
           refine iF ?_
           exact ⟨h7, (IntKind.wrap .i64 (a0 + 1)), ⟨K, K, K, K, trivial⟩, SP.sel m2 [0, 1, 2] rfl rfl, H⟩
          ·have H := cf H e0
           refine At.exit K (id := 6) K ?_
           refine aQ ?_
           refine aR ?_
           refine iS 1 ?_
           refine V3 (e := eU8) (l := a9) (m := 32) (t := 89) (x := (.tmp 11)) (g := b6) (i := 2) (d := (some 83)) (k := 0) K rfl K b0 rfl K K ?_
           refine iS 2 ?_
           refine Q8 (e := eU8) (l := (List.replicate 32 (0 : UInt8))) (l' := a9) (m := 32) (t := 89) (x := (.tmp 2)) (y := (.tmp 83)) (g := g5) (i := 0) (d := none) (k := 1) K rfl K K m0 b0 rfl K ?_
           intro s1 h8
           refine iF ?_
           refine At.ret K ?_
           refine ⟨(.agg (Qb eU8 a9).toArray), Bc K (J7 (e := eU8) (l := a9) (a := 2) (t := 89) K (SP.get h8 (i := 0) rfl) K K), ?_⟩
           obtain rfl := Qm H
           exact ⟨rfl, SP.sel h8 [] rfl rfl⟩
         ·exact ⟨(List.replicate 32 (0 : UInt8)), 0, ⟨K, K, K, K, trivial⟩, SP.sel l9 [0, 1, 3] rfl rfl, H⟩
       ·exact ⟨u, 0, ⟨K, K, K, K, K, trivial⟩, SP.sel b8 [0, 1, 2] rfl rfl, H⟩
     ·exact ⟨c5, 0, ⟨K, K, K, K, K, K, trivial⟩, SP.sel c6 [0, 1, 2] rfl rfl, H⟩
 ·exact ⟨z9, 0, ⟨K, K, K, K, K, trivial⟩, SP.sel i4 [0, 1] rfl rfl, H⟩
def Gj (e : (List UInt8) → Int → Option ((List UInt8))) (p1 : (List UInt8)) (b : (List UInt8)) (a : Int) : Option ((List UInt8)) :=
  (cond (decide (a < ((List.length p1 : Nat) : Int))) ((idx p1 a).bind fun c => ((idx ([48, 49, 50, 51, 52, 53, 54, 55, 56, 57, 97, 98, 99, 100, 101, 102] : List UInt8) (J4 .u8 ((c).toNat : Int) 4)).bind fun f => ((idx ([48, 49, 50, 51, 52, 53, 54, 55, 56, 57, 97, 98, 99, 100, 101, 102] : List UInt8) (V7 .u8 ((c).toNat : Int) 15)).bind fun g => ((idx b (IntKind.wrap .i64 (2 * a))).bind fun i => ((some (List.set b (Int.toNat (IntKind.wrap .i64 (2 * a))) f)).bind fun d => ((idx d (IntKind.wrap .i64 ((IntKind.wrap .i64 (2 * a)) + 1))).bind fun j => ((some (List.set d (Int.toNat (IntKind.wrap .i64 ((IntKind.wrap .i64 (2 * a)) + 1))) g)).bind fun h => (e h (IntKind.wrap .i64 (a + 1)))))))))) (some (b)))
def Nf (p1 : (List UInt8)) : Nat → (List UInt8) → Int → Option ((List UInt8))
  | 0, _, _ => none
  | f + 1, a, b => Gj  (Nf p1 f) p1 a b
def Df (p1 : (List UInt8)) : Option ((List UInt8)) :=
  ((chk (decide (0 ≤ (IntKind.wrap .i64 (2 * ((List.length p1 : Nat) : Int))) ∧ (IntKind.wrap .i64 (2 * ((List.length p1 : Nat) : Int))) ≤ 2147483648))).bind fun _ => ((some (List.replicate (Int.toNat (IntKind.wrap .i64 (2 * ((List.length p1 : Nat) : Int)))) ((0 : UInt8) : UInt8))).bind fun l5 => (Nf p1 Z0 l5 0)))
set_option maxRecDepth 100000 in
set_option maxHeartbeats 4000000 in
theorem Bv (A2 : Option Addr) (c3 : Nat) (p1 : (List UInt8)) (w0 : World) (a5 : RdT eU8 w0 A2 c3 p1) (r : ((List UInt8))) (H : Df p1 = some r) :
  Calls Tryz.prog 71 #[(.slice A2 (List.length p1) c3)] w0 (fun e w' => e = .returned (.string ⟨List.toArray r⟩) ∧ SP [] w0 w' []) := by
 unfold Df at H
 refine Qv (n := 35) Tryz.func71 K K K ?_
 have b6 := Q1 [] w0
 refine aQ ?_
 refine aR ?_
 refine iR 1 1 [(2, (.string ⟨List.toArray ([] : List UInt8)⟩))] ?_
 refine iF ?_
 refine aQ ?_
 refine aR ?_
 refine iR 3 3 [(6, (.slice A2 (List.length p1) c3)), (7, (.int .i64 ((List.length p1 : Nat) : Int))), (8, (.int .i64 (IntKind.wrap .i64 (2 * ((List.length p1 : Nat) : Int)))))] ?_
 obtain ⟨hl6, H⟩ := Vv H
 obtain ⟨l5, hyl5, H⟩ := Vz H
 refine iS 4 ?_
 refine Qj.make (e := eU8) (l' := l5) (z := (0 : UInt8)) (v := (.int .u8 0)) (b := 1) (T := 52) (E := 5) (x := (.tmp 8)) (y := (.tmp 8)) (k1 := .i64) (k2 := .i64) (iz := (IntKind.wrap .i64 (2 * ((List.length p1 : Nat) : Int)))) (d := (some 9)) (k := 3) K rfl K K K K K rfl rfl rfl hl6 b6 hyl5 ?_
 intro g7 w8 a6 e8
 have b7 : SP [] w0 w8 [Xu 5 eU8 (some ⟨g7, 0, none⟩) (Int.toNat (IntKind.wrap .i64 (2 * ((List.length p1 : Nat) : Int)))) l5] := a6
 clear a6
 refine iR 1 5 [(3, (.slice (some ⟨g7, 0, none⟩) (List.length l5) (Int.toNat (IntKind.wrap .i64 (2 * ((List.length p1 : Nat) : Int))))))] ?_
 refine iF ?_
 refine aQ ?_
 refine aQ ?_
 refine aR ?_
 refine iR 3 3 [(10, (.slice A2 (List.length p1) c3)), (11, (.int .i64 ((List.length p1 : Nat) : Int))), (12, (.int .i64 0))] ?_
 refine iF ?_
 refine Zj K (id := 0) K ?_
 refine Jk K (fun f1 ρ w => ∃ (m : (List UInt8)) (f : Int) (g : Option Addr) (h : Nat), V8 ρ [(3, (.slice g (List.length m) h)), (10, (.slice A2 (List.length p1) c3)), (11, (.int .i64 ((List.length p1 : Nat) : Int))), (12, (.int .i64 f))] ∧ SP [] w0 w [Xu 5 eU8 g h m] ∧ Nf p1 f1 m f = some r) (by rintro ρ w ⟨m, f, g, h, hk, hs, H⟩; cases H) ?_ Z0 ?_
 ·rintro f1 ρ e9 ⟨m, f, g, h, hk, s, H⟩
  refine At.known [(3, (.slice g (List.length m) h)), (10, (.slice A2 (List.length p1) c3)), (11, (.int .i64 ((List.length p1 : Nat) : Int))), (12, (.int .i64 f))] hk ?_
  replace H := (show Gj (Nf p1 f1) p1 m f = some r from H)
  unfold Gj at H
  refine aQ ?_
  refine aR ?_
  refine iR 1 1 [(13, (.bool (decide (f < ((List.length p1 : Nat) : Int)))))] ?_
  refine iF ?_
  refine aQ ?_
  refine Zi K (o := (.tmp 13)) K (b := (decide (f < ((List.length p1 : Nat) : Int)))) K (fun a3 => ?_) (fun a3 => ?_)
  ·have H := ct H a3
   refine At.skip K ?_
   refine aQ ?_
   refine Zj K (id := 1) K ?_
   refine aQ ?_
   refine aR ?_
   refine iR 1 1 [(14, (.int .i64 f))] ?_
   obtain ⟨p, a7, a8, b8, H⟩ := Qn H
   refine iS 2 ?_
   refine Vj (e := eU8) (l := p1) (A := A2) (c := c3) (T := 52) (E := 5) (x := (.tmp 10)) (ix := (.tmp 12)) (ki := .i64) (iz := f) (d := (some 15)) (k := 1) K rfl K K K K (RdT.sp a5 s) a7 a8 ?_
   intro b9 c0 c1 f0 hc321
   refine iS 3 ?_
   refine sC 5 15 b9 (c0 + Int.toNat f * eU8.sz) (.int .u8 ((p).toNat : Int)) 16 (Qh (e := eU8) (Qe (RdT.sp a5 s) c1 a7 a8) b8 (j := 0) rfl) ?_
   refine iR 2 5 [(4, (.int .i64 f)), (5, (.int .u8 ((p).toNat : Int)))] ?_
   refine iF ?_
   obtain ⟨a2, c2, f2, c4, H⟩ := Qn H
   obtain ⟨a0, a9, f3, b0, H⟩ := Qn H
   obtain ⟨f4, b1, b2, f5, H⟩ := Qn H
   obtain ⟨q, hyl341, H⟩ := Vz H
   have hnl341 : List.length q = List.length m := by rw [← hyl341, List.length_set]
   obtain ⟨f6, b3, b4, f7, H⟩ := Qn H
   obtain ⟨a1, hyl354, H⟩ := Vz H
   have hnl354 : List.length a1 = List.length q := by rw [← hyl354, List.length_set]
   refine aG [GEq (.slice g (List.length m) h), GEq (.int .i64 f), GEq (.int .i64 (IntKind.wrap .i64 (2 * f))), GEq (.slice g (List.length m) h), GEq (.int .i64 f), GEq (.int .i64 (IntKind.wrap .i64 (2 * f))), GEq (.int .i64 (IntKind.wrap .i64 ((IntKind.wrap .i64 (2 * f)) + 1))), GEq (.int .u8 ((p).toNat : Int)), GEq (.int .u8 (J4 .u8 ((p).toNat : Int) 4)), GEq (.int .u8 ((a2).toNat : Int)), GEq (.int .u8 ((p).toNat : Int)), GEq (.int .u8 (V7 .u8 ((p).toNat : Int) 15)), GEq (.int .u8 ((a0).toNat : Int)), Vs g eU8.sz (IntKind.wrap .i64 (2 * f)), Bq, Vs g eU8.sz (IntKind.wrap .i64 ((IntKind.wrap .i64 (2 * f)) + 1)), Bq] [14, 16] [sG [] [] [] w0 [Xu 5 eU8 g h m], sG [14] [undef] [] w0 [Xu 5 eU8 g h q], sG [14, 16] [undef, undef] [] w0 [Xu 5 eU8 g h a1]] 17 2 ⟨trivial, SP.drew s⟩ ?_ ?_
   iterate 17 refine And.intro ?_ ?_
   exact trivial
   ·exact oV (hC (hS 3 (.slice g (List.length m) h)) (h0)) (.slice g (List.length m) h)
   ·exact oV (hC (hS 4 (.int .i64 f)) (h0)) (.int .i64 f)
   ·exact oV (hC (hA 1 18) (h0)) (.int .i64 (IntKind.wrap .i64 (2 * f)))
   ·exact oV (hC (hS 3 (.slice g (List.length m) h)) (h0)) (.slice g (List.length m) h)
   ·exact oV (hC (hS 4 (.int .i64 f)) (h0)) (.int .i64 f)
   ·exact oV (hC (hA 4 21) (h0)) (.int .i64 (IntKind.wrap .i64 (2 * f)))
   ·exact oV (hC (hA 5 22) (h0)) (.int .i64 (IntKind.wrap .i64 ((IntKind.wrap .i64 (2 * f)) + 1)))
   ·exact oV (hC (hS 5 (.int .u8 ((p).toNat : Int))) (h0)) (.int .u8 ((p).toNat : Int))
   ·exact oV (hC (hA 7 24) (h0)) (.int .u8 (J4 .u8 ((p).toNat : Int) 4))
   ·refine oL 0 ?_
    ·rintro ρ' w' hs hah ⟨f8, f9⟩
     refine kM (kc (kA hah 8 25) k0) fun hkn => ?_
     refine Uv (a := ([48, 49, 50, 51, 52, 53, 54, 55, 56, 57, 97, 98, 99, 100, 101, 102] : List UInt8)) (u := a2) (T := 9) (x := (.const (.string ⟨List.toArray ([48, 49, 50, 51, 52, 53, 54, 55, 56, 57, 97, 98, 99, 100, 101, 102] : List UInt8)⟩))) (ix := (.tmp 25)) (ki := .u8) (iz := (J4 .u8 ((p).toNat : Int) 4)) (d := (some 26)) (k := 9) K rfl K K K c2 c4 ?_
     exact eK hkn
   ·exact oV (hC (hS 5 (.int .u8 ((p).toNat : Int))) (h0)) (.int .u8 ((p).toNat : Int))
   ·exact oV (hC (hA 10 27) (h0)) (.int .u8 (V7 .u8 ((p).toNat : Int) 15))
   ·refine Owe.light K [0, 1] K (Qd ?_ (Qd ?_ Q4))
    ·rintro ρ' w' hs hah ⟨g0, g1⟩
     refine kM (kc (kA hah 11 28) k0) fun hkn => ?_
     refine Uv (a := ([48, 49, 50, 51, 52, 53, 54, 55, 56, 57, 97, 98, 99, 100, 101, 102] : List UInt8)) (u := a0) (T := 9) (x := (.const (.string ⟨List.toArray ([48, 49, 50, 51, 52, 53, 54, 55, 56, 57, 97, 98, 99, 100, 101, 102] : List UInt8)⟩))) (ix := (.tmp 28)) (ki := .u8) (iz := (V7 .u8 ((p).toNat : Int) 15)) (d := (some 29)) (k := 12) K rfl K K K a9 b0 ?_
     exact eK hkn
    ·rintro ρ' w' hs hah ⟨⟨g2, -⟩, g3⟩
     refine kM (kc (kA hah 11 28) k0) fun hkn => ?_
     refine Uv (a := ([48, 49, 50, 51, 52, 53, 54, 55, 56, 57, 97, 98, 99, 100, 101, 102] : List UInt8)) (u := a0) (T := 9) (x := (.const (.string ⟨List.toArray ([48, 49, 50, 51, 52, 53, 54, 55, 56, 57, 97, 98, 99, 100, 101, 102] : List UInt8)⟩))) (ix := (.tmp 28)) (ki := .u8) (iz := (V7 .u8 ((p).toNat : Int) 15)) (d := (some 29)) (k := 12) K rfl K K K a9 b0 ?_
     exact eK hkn
   ·refine oL 0 ?_
    ·rintro ρ' w' hs hah ⟨g4, c5⟩
     refine kM (kc (kA hah 0 17) (kc (kA hah 2 19) k0)) fun hkn => ?_
     refine Vj (e := eU8) (l := m) (A := g) (c := h) (T := 52) (E := 5) (x := (.tmp 17)) (ix := (.tmp 19)) (ki := .i64) (iz := (IntKind.wrap .i64 (2 * f))) (d := (some 30)) (k := 13) K rfl K K K K (Vf (SP.get c5 (i := 0) rfl)) b1 b2 ?_
     intro c6 c7 c8 g5 hc378
     exact ⟨rfl, _, Qa hkn, ⟨c6, c7, c8, rfl⟩⟩
   ·refine oH 0 1 ?_
    ·rintro ρ' w' hs hah ⟨g6, c9⟩
     obtain ⟨d0, d1, d2, d3⟩ := hah 13 30 K
     refine kM (kc d3 (kc (kA hah 9 26) k0)) fun hkn => ?_
     refine Gv (e := eU8) (t := 5) (E := 5) (x := (.tmp 30)) (y := (.tmp 26)) (A := g) (c := h) (l := m) (iz := (IntKind.wrap .i64 (2 * f))) (b := d0) (off := d1) (i := 0) (v := (.int .u8 ((a2).toNat : Int))) (x' := a2) (d := none) (k := 14) K rfl K K c9 rfl d2 rfl b2 b1 rfl K ?_
     rw [hyl341]
     intro g8 d4
     refine ⟨_, Qa hkn, trivial, ?_⟩
     exact (And.intro (And.intro rfl (trivial)) (d4))
   ·refine oL 1 ?_
    ·rintro ρ' w' hs hah ⟨⟨g9, -⟩, d5⟩
     have a4 := hah 3 20 K
     replace a4 : ρ' 20 = (.slice g (List.length q) h) := by rw [hnl341]; exact a4
     refine kM (kc a4 (kc (kA hah 6 23) k0)) fun hkn => ?_
     refine Vj (e := eU8) (l := q) (A := g) (c := h) (T := 52) (E := 5) (x := (.tmp 20)) (ix := (.tmp 23)) (ki := .i64) (iz := (IntKind.wrap .i64 ((IntKind.wrap .i64 (2 * f)) + 1))) (d := (some 31)) (k := 15) K rfl K K K K (Vf (SP.get d5 (i := 0) rfl)) b3 b4 ?_
     intro d6 d7 d8 h1 hc394
     exact ⟨rfl, _, Qa hkn, ⟨d6, d7, d8, rfl⟩⟩
   ·refine oH 1 2 ?_
    ·rintro ρ' w' hs hah ⟨⟨d9, -⟩, e0⟩
     obtain ⟨e1, e2, e4, e5⟩ := hah 15 31 K
     refine kM (kc e5 (kc (kA hah 12 29) k0)) fun hkn => ?_
     refine Gv (e := eU8) (t := 5) (E := 5) (x := (.tmp 31)) (y := (.tmp 29)) (A := g) (c := h) (l := q) (iz := (IntKind.wrap .i64 ((IntKind.wrap .i64 (2 * f)) + 1))) (b := e1) (off := e2) (i := 0) (v := (.int .u8 ((a0).toNat : Int))) (x' := a0) (d := none) (k := 16) K rfl K K e0 rfl e4 rfl b4 b3 rfl K ?_
     rw [hyl354]
     intro h2 e6
     refine ⟨_, Qa hkn, trivial, ?_⟩
     exact (And.intro (And.intro d9 (And.intro rfl (trivial))) (e6))
   ·rintro ρ' w' hs hf ⟨⟨h3, h4, -⟩, b5⟩
    have e3 : ρ' 3 = (.slice g (List.length m) h) := (hs 3 K).trans K
    replace e3 : ρ' 3 = (.slice g (List.length a1) h) := by rw [hnl354, hnl341]; exact e3
    refine Vh [(3, (.slice g (List.length a1) h)), (10, (.slice A2 (List.length p1) c3)), (11, (.int .i64 ((List.length p1 : Nat) : Int))), (12, (.int .i64 f))] ⟨e3, (hs 10 K).trans K, (hs 11 K).trans K, (hs 12 K).trans K, trivial⟩ ?_
    obtain ⟨h5, e7⟩ : ∃ x, w' = x := ⟨_, rfl⟩
    rw [e7] at b5 ⊢
    refine aR ?_
    refine iR 2 2 [(32, (.int .i64 (IntKind.wrap .i64 (f + 1)))), (12, (.int .i64 (IntKind.wrap .i64 (f + 1))))] ?_
    refine iF ?_
    exact ⟨a1, (IntKind.wrap .i64 (f + 1)), g, h, ⟨K, K, K, K, trivial⟩, SP.sel b5 [0] rfl rfl, H⟩
  ·have H := cf H a3
   refine At.exit K (id := 0) K ?_
   refine aQ ?_
   refine aR ?_
   refine iR 1 1 [(33, (.slice g (List.length m) h))] ?_
   refine iS 2 ?_
   refine C2 (T := 52) (S' := 9) (E := 5) (x := (.tmp 33)) (A := g) (c := h) (l := m) (d := (some 34)) (k := 1) K rfl K K K K (Vf (SP.get s (i := 0) rfl)) ?_
   refine iR 1 3 [(2, (.string ⟨List.toArray m⟩))] ?_
   refine iF ?_
   refine At.ret K ?_
   refine ⟨(.string ⟨List.toArray m⟩), K, ?_⟩
   obtain rfl := Qm H
   exact ⟨rfl, SP.sel s [] rfl rfl⟩
 ·exact ⟨l5, 0, (some ⟨g7, 0, none⟩), (Int.toNat (IntKind.wrap .i64 (2 * ((List.length p1 : Nat) : Int)))), ⟨K, K, K, K, trivial⟩, SP.sel b7 [0] rfl rfl, H⟩
end Go.Proofs.YtmgfanhcdfobhaaGreatDoor
